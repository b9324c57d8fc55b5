/- Simplify: the document's rules of one kid. -/
import Derived.Test.YtbgicephinomlaaGreatDoorE76
import Derived.Test.YtbgicephinomlaaGreatDoorE63
import Derived.Test.YtbgicephinomlaaGreatDoorE55
import Derived.Test.YtbgicephinomlaaGreatDoorE29
set_option linter.unusedVariables false
set_option linter.unusedSimpArgs false
set_option maxHeartbeats 2000000
set_option maxRecDepth 20000
namespace Go.Proofs.YtbgicephinomlaaGreatDoor
open Go Go.Vc Go.Dig
def QV (h:Heap) (v:Value) (P:Rat):Prop:=∃a b:Sl,v=.agg #[.bool (sg P),a.val,b.val]∧IsQ h a b P∧Sr 4294967296 P∧Sz 1073741824 P
theorem QV.of {h:Heap} {a b:Sl} {P:Rat} (w:IsQ h a b P) (s:Sr 512 P):QV h (.agg #[.bool (sg P),a.val,b.val]) P:=⟨a,b,rfl,w,s.mono (by decide),(sz_of_sr s).mono (by decide)⟩
theorem sr_lit {t:Tr} {q:Rat} (h:okG t) (e:litT t=some q):Sr 128 q:=sr_of (litV_fitsG h e)
theorem is_ct (t:Tr) (hok:okG t) (n:Int) (hn1:-1≤n) (hn2:n≤1) (h:Heap) (vs:List Value) (w:IsE h vs t):Fn0 T F.ref04_is [.agg vs.toArray,.int .i64 n] h fun v h'=>v=.bool (dec (litT t=some (n:Rat))):=by
 have c1:=fun h w=>rliteral_g t hok h vs w
 have c2:=fun h=>IntQ_ct h n (by omega) (by omega)
 have hfn:=fits_int n (by omega) (by omega)
 have c3:=fun h q a b c e (x:litT t=some q) hq hr=>RCmp_ct h a b c e q (n:Rat) hq hr ((sr_lit hok x).mono (by decide)) ((sr_of hfn).mono (by decide))
 have g:∀q,litT t=some q→(cmpQ q (n:Rat)=0↔litT t=some (n:Rat)):=fun q e=>by
  rw [e]
  have tri:=cmp_tri q (n:Rat)
  constructor
  ·intro x
   rcases tri with y|y|y
   ·omega
   ·rw [y.2]
   ·omega
  ·intro x
   cases x
   rcases tri with y|y|y
   ·exact absurd y.2 (Rat.lt_irrefl)
   ·exact y.1
   ·exact absurd y.2 (Rat.lt_irrefl)
 obtain ⟨N,hN⟩:∃N,N=(n:Rat):=⟨_,rfl⟩
 rw [← hN]
 simp only [← hN] at c2 c3 g
 replace c3:∀h q a b c e,litT t=some q→IsQ h a b q→IsQ h c e N→Fn0 T F.ref01_Cmp [.agg #[.bool (sg q),Sl.val a,Sl.val b],.agg #[.bool (sg N),Sl.val c,Sl.val e]] h fun v _=>∃C,C=cmpQ q N∧v=.int .i64 C:=fun h q a b c e x hq hr=>(c3 h q a b c e x hq hr).mono fun v h' _ r=>⟨_,rfl,r⟩
 replace g:=Hq.mk g
 clear hN hfn
 obtain ⟨⟨op,arg,neg,l,m,name,ks⟩,ht⟩:∃x,x=t:=⟨_,rfl⟩
 obtain ⟨a,b,s,hvs,-⟩:=(ht.symm▸w:IsE h vs (.mk op arg neg l m name ks)).isK
 subst hvs
 refine f0C ok D.ref04_is rfl ?_
 conv=>whnf
 repeat ((first|refine oI.z ?_|refine cI.z ?_);conv=>whnf)
 repeat' first|((first|(show LdN _ _ _ _ _;refine LdN.oA 0 rfl rfl ?_)|(show CN _ _ _ _ _ _;first|(refine CN.f rfl (c1 _ (by assumption)) (fun v h' hl2 hr=>?_);obtain ⟨b5,c5,d5,i5,rfl,t1,t2⟩:=hr)|(refine CN.f rfl (c2 _) (fun v h' hl2 hr=>?_);obtain ⟨s6,t6,rfl,hq6⟩:=hr)|(obtain ⟨q,e1,-,rfl,f1⟩:=t1 rfl;refine CN.f rfl (c3 _ q _ _ _ _ e1 (by (iterate 30 try first|assumption|refine IsQ.mono ?_ (by assumption));first|done|assumption) (by assumption)) (fun v h' hl2 hr=>?_);obtain ⟨C,hC,rfl⟩:=hr))|(show DrN _ _ _ _ _ _;refine DrN.each (by decide +kernel) ?_)|((first|refine oI.z ?_|refine cI.z ?_))|refine ⟨fun _=>HasLe.o (Heap.lr _),?_⟩|refine ⟨fun _=>HasLe.o (by assumption),?_⟩|intro (_:Nat)|refine Sto.l 0 rfl rfl rfl ?_) <;> (conv=>whnf))|(refine cnd_bool (fun hb=>?_) (fun hb=>?_) <;> (first|cases hb|subst hb) <;> (conv=>whnf))|(refine Both.mk ?_ ?_ <;> (conv=>whnf))
 all_goals first
  | (refine RN.a ?_;rw [t2 rfl,dec_false (fun x=>by cases x)])
  | (refine RN.a ?_;rw [eq_dec,hC];exact congrArg Value.bool (dec_congr (g.out _ e1)))
theorem made_ct (h:Heap) (a b:Sl) (P:Rat) (w:IsQ h a b P) (s:Sr 4294967296 P) (z:Sz 1073741824 P):Fn0 T F.ref04_made [.agg #[.bool (sg P),a.val,b.val]] h fun v h'=>∃x,v=.tuple #[x,.bool (dec (fits P))]∧VE h' x (mkL P):=by
 have e0:dec (fits P)=!(!dec (fits P)):=(Bool.not_not _).symm
 rw [e0]
 have c1:=fun h w=>rlit_ct h a b P w s z
 have c2:=fun h w=>Over_q h a b P w s
 obtain ⟨S,hS⟩:∃S,S=sg P:=⟨_,rfl⟩
 obtain ⟨M,hM⟩:∃S,S=mkL P:=⟨_,rfl⟩
 simp only [← hS,← hM] at c1 c2 ⊢
 refine f0C ok D.ref04_made rfl ?_
 conv=>whnf
 repeat ((first|refine oI.z ?_|refine cI.z ?_);conv=>whnf)
 repeat' first|((first|(show LdN _ _ _ _ _;refine LdN.oA 0 rfl rfl ?_)|(show CN _ _ _ _ _ _;first|(refine CN.f rfl (c1 _ (by assumption)) (fun v h' hl2 hr=>?_);obtain ⟨op9,ar9,ng9,nn9,dd9,nm9,ss9,rfl,hE9⟩:=hr)|(refine CN.quiet rfl (c2 _ (by (iterate 30 try first|assumption|refine IsQ.mono ?_ (by assumption));first|done|assumption)) ?_))|(show DrN _ _ _ _ _ _;refine DrN.own [_] (by exact List.Sublist.cons _ (List.Sublist.cons_cons _ (List.nil_sublist _))) (by decide +kernel) ?_)|(refine ⟨fun _=>⟨HasLe.o (by first|exact Heap.lr _|assumption|exact Heap.lt (by assumption) (by assumption)|exact Heap.lt (Heap.lt (by assumption) (by assumption)) (by assumption)),by repeat first|exact List.nil_sublist _|apply List.Sublist.cons_cons|apply List.Sublist.cons⟩,?_⟩)|((first|refine oI.z ?_|refine cI.z ?_))|intro (_:Nat)|refine Sto.l 0 rfl rfl rfl ?_) <;> (conv=>whnf))
 all_goals exact RN.a ⟨_,rfl,op9,ar9,ng9,nn9,dd9,nm9,ss9,rfl,(by assumption)⟩
theorem opposite_ct (t:Tr) (hok:okG t) (arg:Int) (neg:Bool) (l m name:List Nat) (h:Heap) (vs:List Value) (w:IsE h vs (.mk 4 arg neg l m name [t])):Fn0 T F.ref04_opposite [.agg vs.toArray] h fun v h'=>VE h' v (negS (.mk 4 arg neg l m name [t]) t):=by
 obtain ⟨a,b,s,rfl,ho,ha,hv,hb,hk⟩:=w.isK
 have hkl:s.l=1:=hk.len
 have c1:=fun h vs w=>rliteral_g t hok h vs w
 have r1:∀q,litT t=some q→negS (.mk 4 arg neg l m name [t]) t=mkL (-q):=fun q e=>by rw [negS,e]
 have r2:litT t=none→isNeg t→negS (.mk 4 arg neg l m name [t]) t=kidT t:=fun e x=>by rw [negS,e];exact if_pos x
 have r3:litT t=none→¬isNeg t→negS (.mk 4 arg neg l m name [t]) t=.mk 4 arg neg l m name [t]:=fun e x=>by rw [negS,e];exact if_neg x
 have c2:∀h q (c d:Sl),litT t=some q→IsQ h c d q→Fn0 T F.ref01_Opp [.agg #[.bool (sg q),c.val,d.val]] h fun v h'=>∃P,P=-q∧QV h' v P:=fun h q c d e w=>(Opp_q h c d q w ((sr_lit hok e).mono (by decide))).mono fun v h' _ r=>⟨_,rfl,by rw [r.2,r.1];exact QV.of (IsQ.neg w) ((Sr.neg (sr_lit hok e)).mono (by decide))⟩
 have c3:=fun h P (a b:Sl) w s z=>rlit_ct h a b P w s z
 obtain ⟨R,hR⟩:∃R,R=negS (.mk 4 arg neg l m name [t]) t:=⟨_,rfl⟩
 rw [← hR] at r2 r3 ⊢
 simp only [← hR] at r1
 clear hR
 by_cases hn:isNeg t
 ·replace r2:=fun x=>r2 x hn
  obtain ⟨k,ng',l',m',nm',ar',ht,e2,hkk⟩:=isNeg_kidG hok hn
  rw [e2] at r2
  clear r3 hn e2
  obtain ⟨bl3,off3,op3,ar3,ng3,nn3,dd3,nm3,ss3,hE3,hld3,hln3,hix3⟩:=hk.kidP 0 _ rfl
  obtain ⟨e31,-,-,hv3,-,-,hk3⟩:=(ht▸hE3:IsE h [.int .i64 op3,.int .i64 ar3,.bool ng3,nn3.val,dd3.val,.string (txt nm3),ss3.val] (.mk 4 ar' ng' l' m' nm' [k])).inv
  have hkl3:ss3.l=1:=hk3.len
  obtain ⟨bl5,off5,op5,ar5,ng5,nn5,dd5,nm5,ss5,hE5,hld5,hln5,hix5⟩:=hk3.kidP 0 _ rfl
  refine f0C ok D.ref04_opposite rfl ?_
  conv=>whnf
  repeat ((first|refine oI.z ?_|refine cI.z ?_);conv=>whnf)
  repeat' first|((first|(show LdN _ _ _ _ _;first|refine LdN.oA 0 rfl rfl ?_|refine LdN.oA 2 rfl rfl ?_|(refine LdN.hasN [.int .i64 op3,.int .i64 ar3,.bool ng3,nn3.val,dd3.val,.string (txt nm3),ss3.val] rfl (fun i v hv=>hld3 _ _ i v (by first|assumption|exact Heap.lr _) hv) ?_)|refine LdN.hasN [.int .i64 op5,.int .i64 ar5,.bool ng5,nn5.val,dd5.val,.string (txt nm5),ss5.val] rfl (fun i v hv=>hld5 _ _ i v (by assumption) hv) ?_)|refine hix3 _ _ rfl ?_|refine hix5 _ _ rfl ?_|((first|refine oI.z ?_|refine cI.z ?_))|intro (_:Nat)|(show CN _ _ _ _ _ _;first|(refine CN.f rfl (c1 _ _ (by assumption)) (fun v h' hl2 hr=>?_);obtain ⟨bb6,cc6,dd6,i5,rfl,t1,t2⟩:=hr)|(obtain ⟨q,e1,-,rfl,f1⟩:=t1 rfl;refine CN.f rfl (c2 _ q _ _ e1 (by assumption)) (fun v h' hl2 hr=>?_);obtain ⟨P,hP,s7,t7,rfl,hq7,z7,z8⟩:=hr)|(refine CN.f rfl (c3 _ _ _ _ hq7 z7 z8) (fun v h' hl2 hr=>?_);obtain ⟨op9,ar9,ng9,nn9,dd9,nm9,ss9,rfl,hE9⟩:=hr))|refine Ld.o 1 rfl rfl ?_|(show Sto _ _ _ _;first|refine Sto.l 0 rfl rfl rfl ?_|refine Sto.l 2 rfl rfl rfl ?_)) <;> (conv=>whnf))|(show cnd _ _ _;first|(refine cnd_eq (fun _=>?_) (fun _=>?_) <;> first|(exfalso;omega)|(conv=>whnf))|(refine cnd_bool (fun hb=>?_) (fun hb=>?_) <;> (first|cases hb|subst hb) <;> (conv=>whnf)))
  all_goals first
   | (rw [r1 q e1,← hP];exact RN.a ⟨op9,ar9,ng9,nn9,dd9,nm9,ss9,rfl,hE9⟩)
   | (have n2:=t2 rfl;rw [r2 n2];exact RN.a ⟨op5,ar5,ng5,nn5,dd5,nm5,ss5,rfl,(by (iterate 30 try first|assumption|refine IsE.mono ?_ (by assumption));first|done|assumption)⟩)
 ·replace r3:=fun x=>r3 x hn
  obtain ⟨bl3,off3,op3,ar3,ng3,nn3,dd3,nm3,ss3,hE3,hld3,hln3,hix3⟩:=hk.kidP 0 _ rfl
  have hne:op3≠4:=by
   obtain ⟨o,ar',ng',l',m',nm',ks'⟩:=t
   obtain ⟨rfl,-⟩:=hE3.inv
   exact hn
  clear r2 hn
  refine f0C ok D.ref04_opposite rfl ?_
  conv=>whnf
  repeat ((first|refine oI.z ?_|refine cI.z ?_);conv=>whnf)
  repeat' first|((first|(show LdN _ _ _ _ _;first|refine LdN.oA 0 rfl rfl ?_|refine LdN.oA 2 rfl rfl ?_|refine LdN.oA 3 rfl rfl ?_|(refine LdN.hasN [.int .i64 op3,.int .i64 ar3,.bool ng3,nn3.val,dd3.val,.string (txt nm3),ss3.val] rfl (fun i v hv=>hld3 _ _ i v (by first|assumption|exact Heap.lr _) hv) ?_))|refine hix3 _ _ rfl ?_|((first|refine oI.z ?_|refine cI.z ?_))|intro (_:Nat)|(show CN _ _ _ _ _ _;first|(refine CN.f rfl (c1 _ _ (by assumption)) (fun v h' hl2 hr=>?_);obtain ⟨bb6,cc6,dd6,i5,rfl,t1,t2⟩:=hr)|(obtain ⟨q,e1,-,rfl,f1⟩:=t1 rfl;refine CN.f rfl (c2 _ q _ _ e1 (by assumption)) (fun v h' hl2 hr=>?_);obtain ⟨P,hP,s7,t7,rfl,hq7,z7,z8⟩:=hr)|(refine CN.f rfl (c3 _ _ _ _ hq7 z7 z8) (fun v h' hl2 hr=>?_);obtain ⟨op9,ar9,ng9,nn9,dd9,nm9,ss9,rfl,hE9⟩:=hr))|refine Ld.o 1 rfl rfl ?_|(show Sto _ _ _ _;first|refine Sto.l 0 rfl rfl rfl ?_|refine Sto.l 2 rfl rfl rfl ?_)) <;> (conv=>whnf))|(show cnd _ _ _;first|(refine cnd_eq (fun _=>?_) (fun _=>?_) <;> first|(exfalso;omega)|(conv=>whnf))|(refine cnd_bool (fun hb=>?_) (fun hb=>?_) <;> (first|cases hb|subst hb) <;> (conv=>whnf)))
  all_goals first
   | (rw [r1 q e1,← hP];exact RN.a ⟨op9,ar9,ng9,nn9,dd9,nm9,ss9,rfl,hE9⟩)
   | (rw [r3 (t2 rfl)];exact RN.a ⟨4,arg,neg,a,b,name,s,rfl,(by (iterate 30 try first|assumption|refine IsE.mono ?_ (by assumption));first|done|assumption)⟩)
theorem power_ct (t:Tr) (hok:okG t) (arg:Int) (ha1:-32≤arg) (ha2:arg≤32) (neg:Bool) (l m name:List Nat) (h:Heap) (vs:List Value) (w:IsE h vs (.mk 9 arg neg l m name [t])):Fn0 T F.ref04_power [.agg vs.toArray] h fun v h'=>VE h' v (powS (.mk 9 arg neg l m name [t]) arg t):=by
 obtain ⟨a,b,s,rfl,ho,ha,hv,hb,hk⟩:=w.isK
 have hkl:s.l=1:=hk.len
 have c1:=fun h vs w=>rliteral_g t hok h vs w
 have r1:∀q,powV arg t=some q→powS (.mk 9 arg neg l m name [t]) arg t=mkL q:=fun q e=>by rw [powS,e]
 have r2:powV arg t=none→arg=0→powS (.mk 9 arg neg l m name [t]) arg t=mkL 1:=fun e x=>by rw [powS,e];exact if_pos x
 have r3:powV arg t=none→arg=1→powS (.mk 9 arg neg l m name [t]) arg t=t:=fun e x=>by rw [powS,e];exact (if_neg (by omega)).trans (if_pos x)
 have r4:powV arg t=none→arg≠0→arg≠1→powS (.mk 9 arg neg l m name [t]) arg t=.mk 9 arg neg l m name [t]:=fun e x y=>by rw [powS,e];exact (if_neg x).trans (if_neg y)
 have nA:litT t=none→powV arg t=none:=fun e=>by unfold powV;rw [e];rfl
 have nB:∀q Sg,litT t=some q→Sg=signQ q→Sg=0→arg<0→powV arg t=none:=fun q Sg e eS x y=>by
  unfold powV;rw [e];exact if_pos ⟨y,nu_eq_zero.1 (signQ_zero.1 (eS▸x))⟩
 have nP:∀q Sg P,litT t=some q→Sg=signQ q→P=powQ q arg→0≤arg∨Sg≠0→powV arg t=fitO P:=fun q Sg P e eS eP x=>by
  unfold powV;rw [e,eP];exact if_neg fun z=>x.elim (fun y=>by omega) fun y=>y (eS.trans (signQ_zero.2 (nu_eq_zero.2 z.2)))
 have nC:∀q Sg P,litT t=some q→Sg=signQ q→P=powQ q arg→0≤arg∨Sg≠0→¬fits P→powV arg t=none:=fun q Sg P e eS eP x y=>(nP q Sg P e eS eP x).trans (if_neg y)
 have nY:∀q Sg P,litT t=some q→Sg=signQ q→P=powQ q arg→0≤arg∨Sg≠0→fits P→powS (.mk 9 arg neg l m name [t]) arg t=mkL P:=fun q Sg P e eS eP x y=>r1 P ((nP q Sg P e eS eP x).trans (if_pos y))
 have c2:∀h q (c d:Sl),litT t=some q→IsQ h c d q→Fn0 T F.ref01_Sgn [.agg #[.bool (sg q),c.val,d.val]] h fun v h'=>h'=h∧∃S,S=signQ q∧v=.int .i64 S:=fun h q c d e w=>(Sgn_q h c d q w ((sr_lit hok e).mono (by decide))).mono fun v h' _ r=>⟨r.1,_,rfl,r.2⟩
 have c3:∀h q (c d:Sl),litT t=some q→IsQ h c d q→(0≤arg∨nu q≠0)→Fn0 T F.ref01_Power [.agg #[.bool (sg q),c.val,d.val],.int .i64 arg] h fun v h'=>∃P,P=powQ q arg∧QV h' v P:=fun h q c d e w x=>(Power_ct h c d q arg ha1 ha2 (fun y=>x.resolve_left (by omega)) w (sr_lit hok e)).mono fun v h' _ r=>by
  obtain ⟨s,t,rfl,z⟩:=r
  exact ⟨_,rfl,s,t,rfl,z,sr_powQ (sr_lit hok e) ha1 ha2 (fun y=>x.resolve_left (by omega)),powQ_sz (litV_fitsG hok e) ha1 ha2 (fun y=>x.resolve_left (by omega))⟩
 have nz:∀q Sg,Sg=signQ q→0≤arg∨Sg≠0→0≤arg∨nu q≠0:=fun q Sg e x=>x.imp_right fun y z=>y (e.trans (signQ_zero.2 z))
 have c4:=fun h P (a b:Sl) w s z=>made_ct h a b P w s z
 have c5:=fun h=>IntQ_ct h 1 (by decide) (by decide)
 have c6:=fun h (a b:Sl) w=>rlit_ct h a b 1 w ((sr_of fits_one).mono (by decide)) ((fits_sz fits_one).mono (by decide))
 simp only [ratI1] at c5
 obtain ⟨R,hR⟩:∃R,R=powS (.mk 9 arg neg l m name [t]) arg t:=⟨_,rfl⟩
 rw [← hR] at r2 r3 r4 ⊢
 simp only [← hR] at nY
 replace r2:=Hq.mk r2
 replace r3:=Hq.mk r3
 replace r4:=Hq.mk r4
 replace nA:=Hq.mk nA
 replace nB:=Hq.mk nB
 replace nC:=Hq.mk nC
 replace nY:=Hq.mk nY
 replace nz:=Hq.mk nz
 clear hR r1 nP
 obtain ⟨bl3,off3,op3,ar3,ng3,nn3,dd3,nm3,ss3,hE3,hld3,hln3,hix3⟩:=hk.kidP 0 _ rfl
 refine f0C ok D.ref04_power rfl ?_
 conv=>whnf
 repeat ((first|refine oI.z ?_|refine cI.z ?_);conv=>whnf)
 repeat' first|((first|(show SeqN _ _ _ _ _ _ _;refine SeqN.go ?_)|(show LdN _ _ _ _ _;first|refine LdN.oA 0 rfl rfl ?_|refine LdN.oA 1 rfl rfl ?_|refine LdN.oA 2 rfl rfl ?_|refine LdN.oA 3 rfl rfl ?_|refine LdN.oA 4 rfl rfl ?_|(refine LdN.hasN [.int .i64 op3,.int .i64 ar3,.bool ng3,nn3.val,dd3.val,.string (txt nm3),ss3.val] rfl (fun i v hv=>hld3 _ _ i v (by first|assumption|exact Heap.lr _) hv) ?_))|refine hix3 _ _ rfl ?_|((first|refine oI.z ?_|refine cI.z ?_))|intro (_:Nat)|(show CN _ _ _ _ _ _;first|(refine CN.f rfl (c1 _ _ (by assumption)) (fun v h' hl2 hr=>?_);obtain ⟨bb6,cc6,dd6,i5,rfl,t1,t2⟩:=hr)|(obtain ⟨q,e1,-,rfl,f1⟩:=t1 rfl;refine CN.f rfl (c2 _ q _ _ e1 (by assumption)) (fun v h' hl2 hr=>?_);obtain ⟨rfl,Sg,hS,rfl⟩:=hr;clear hl2)|(obtain ⟨q,e1,-,rfl,f1⟩:=t1 rfl;refine CN.f rfl (c3 _ q _ _ e1 (by assumption) (by left;omega)) (fun v h' hl2 hr=>?_);obtain ⟨P,hP,s7,t7,rfl,hq7,z7,z8⟩:=hr)|(refine CN.f rfl (c3 _ q _ _ e1 (by assumption) (nz.out q _ hS (by right;omega))) (fun v h' hl2 hr=>?_);obtain ⟨P,hP,s7,t7,rfl,hq7,z7,z8⟩:=hr)|(refine CN.f rfl (c4 _ _ _ _ hq7 z7 z8) (fun v h' hl2 hr=>?_);obtain ⟨_,rfl,op9,ar9,ng9,nn9,dd9,nm9,ss9,rfl,hE9⟩:=hr)|(refine CN.f rfl (c5 _) (fun v h' hl2 hr=>?_);obtain ⟨s8,t8,rfl,hq8⟩:=hr)|(refine CN.f rfl (c6 _ _ _ hq8) (fun v h' hl2 hr=>?_);obtain ⟨op7,ar7,ng7,nn7,dd7,nm7,ss7,rfl,hE7⟩:=hr))|(show Ld _ _ _ _;first|refine Ld.o 1 rfl rfl ?_|refine Ld.o 3 rfl rfl ?_|refine Ld.o 4 rfl rfl ?_)|(show Sto _ _ _ _;first|refine Sto.l 0 rfl rfl rfl ?_|refine Sto.l 2 rfl rfl rfl ?_|refine Sto.l 3 rfl rfl rfl ?_)) <;> (conv=>whnf))|(show cnd _ _ _;first|(refine cnd_le (fun _=>?_) (fun _=>?_) <;> first|(exfalso;omega)|(conv=>whnf))|(refine cnd_eq (fun _=>?_) (fun _=>?_) <;> first|(exfalso;omega)|(conv=>whnf))|(refine cnd_not ?_)|(refine cnd_dec (fun _=>?_) (fun _=>?_) <;> first|(exfalso;omega)|(conv=>whnf))|(refine cnd_bool (fun hb=>?_) (fun hb=>?_) <;> (first|cases hb|subst hb) <;> (conv=>whnf)))
 all_goals first
  | (rw [nY.out q 1 P e1 (by assumption) hP (by first|(left;omega)|(right;omega)) (by assumption)];exact RN.a ⟨op9,ar9,ng9,nn9,dd9,nm9,ss9,rfl,hE9⟩)
  | (rw [nY.out q _ P e1 hS hP (by first|(left;omega)|(right;omega)) (by assumption)];exact RN.a ⟨op9,ar9,ng9,nn9,dd9,nm9,ss9,rfl,hE9⟩)
  | (rw [nY.out q _ P e1 rfl hP (by left;omega) (by assumption)];exact RN.a ⟨op9,ar9,ng9,nn9,dd9,nm9,ss9,rfl,hE9⟩)
  | (have n0:powV arg t=none:=(by first
      | exact nA.out (t2 rfl)
      | exact nB.out q _ e1 hS (by omega) (by omega)
      | exact nC.out q _ P e1 hS hP (by right;omega) (by assumption)
      | exact nC.out q _ P e1 rfl hP (by left;omega) (by assumption))
     first
      | (rw [r2.out n0 (by omega)];exact RN.a ⟨op7,ar7,ng7,nn7,dd7,nm7,ss7,rfl,hE7⟩)
      | (rw [r3.out n0 (by omega)];exact RN.a ⟨op3,ar3,ng3,nn3,dd3,nm3,ss3,rfl,(by (iterate 30 try first|assumption|refine IsE.mono ?_ (by assumption));first|done|assumption)⟩)
      | (rw [r4.out n0 (by omega) (by omega)];exact RN.a ⟨9,arg,neg,a,b,name,s,rfl,(by (iterate 30 try first|assumption|refine IsE.mono ?_ (by assumption));first|done|assumption)⟩))
theorem sr_sub {q r:Rat} (hq:Sr 128 q) (hr:Sr 128 r):Sr 257 (q-r):=by rw [Rat.sub_eq_add_neg];exact sr_add hq (Sr.neg hr)
theorem sum_ct (t u:Tr) (op arg:Int) (hop:op=5∨op=6) (neg:Bool) (l m name:List Nat) (hok1:okG t) (hok2:okG u) (h:Heap) (vs:List Value) (w:IsE h vs (.mk op arg neg l m name [t,u])):
  Fn0 T F.ref04_sum [.agg vs.toArray] h fun v h'=>VE h' v (binS (.mk op arg neg l m name [t,u]) op t u):=by
 obtain ⟨a,b,s,rfl,ho,ha,hv,hb,hk⟩:=w.isK
 have hkl:s.l=2:=hk.len
 obtain ⟨bl1,off1,op1,ar1,ng1,nn1,dd1,nm1,ss1,hE1,hld1,hln1,hix1⟩:=hk.kidP 0 _ rfl
 obtain ⟨bl2,off2,op2,ar2,ng2,nn2,dd2,nm2,ss2,hE2,hld2,hln2,hix2⟩:=hk.kidP 1 _ rfl
 have c1:=fun h vs w=>rliteral_g t hok1 h vs w
 have c2:=fun h vs w=>rliteral_g u hok2 h vs w
 have c4:=fun h P (a b:Sl) w s z=>made_ct h a b P w s z
 have i1z:=fun h vs w=>is_ct t hok1 0 (by decide) (by decide) h vs w
 have i1o:=fun h vs w=>is_ct t hok1 1 (by decide) (by decide) h vs w
 have i1m:=fun h vs w=>is_ct t hok1 (-1) (by decide) (by decide) h vs w
 have i2z:=fun h vs w=>is_ct u hok2 0 (by decide) (by decide) h vs w
 have i2o:=fun h vs w=>is_ct u hok2 1 (by decide) (by decide) h vs w
 simp only [ratI0] at i1z i2z
 simp only [ratI1] at i1o i2o
 simp only [ratIm] at i1m
 have cn:=fun h vs w=>opposite_ct u hok2 0 false [] [] [] h vs w
 have nA:litT t=none→foldT op t u=none:=fun e=>by unfold foldT;rw [e];rfl
 have nB:litT u=none→foldT op t u=none:=fun e=>by
  unfold foldT
  cases e1:litT t with
  | none=>rfl
  | some q=>rw [e];rfl
 have nF:∀q r P,litT t=some q→litT u=some r→foldQ op q r=fitO P→¬fits P→foldT op t u=none:=fun q r P e1 e2 x y=>by
  unfold foldT;rw [e1,e2];exact x.trans (if_neg y)
 have nY:∀q r P,litT t=some q→litT u=some r→foldQ op q r=fitO P→fits P→binS (.mk op arg neg l m name [t,u]) op t u=mkL P:=fun q r P e1 e2 x y=>by
  have e:foldT op t u=some P:=by unfold foldT;rw [e1,e2];exact x.trans (if_pos y)
  rw [binS,e]
 have c5:∀h q r (a b c d:Sl),litT t=some q→litT u=some r→IsQ h a b q→IsQ h c d r→Fn0 T F.ref01_Sum [.agg #[.bool (sg q),a.val,b.val],.agg #[.bool (sg r),c.val,d.val]] h fun v h'=>∃P,P=q+r∧QV h' v P:=fun h q r a b c d e1 e2 w w'=>(Sum_ct h a b c d q r w w' ((sr_lit hok1 e1).mono (by decide)) ((sr_lit hok2 e2).mono (by decide))).mono fun v h' _ r=>by
  obtain ⟨s,t,rfl,z⟩:=r
  exact ⟨_,rfl,QV.of z ((sr_add (sr_lit hok1 e1) (sr_lit hok2 e2)).mono (by decide))⟩
 have c6:∀h q r (a b c d:Sl),litT t=some q→litT u=some r→IsQ h a b q→IsQ h c d r→Fn0 T F.ref01_Diff [.agg #[.bool (sg q),a.val,b.val],.agg #[.bool (sg r),c.val,d.val]] h fun v h'=>∃P,P=q-r∧QV h' v P:=fun h q r a b c d e1 e2 w w'=>(Diff_ct h a b c d q r w w' ((sr_lit hok1 e1).mono (by decide)) ((sr_lit hok2 e2).mono (by decide))).mono fun v h' _ r=>by
  obtain ⟨s,t,rfl,z⟩:=r
  exact ⟨_,rfl,QV.of z ((sr_sub (sr_lit hok1 e1) (sr_lit hok2 e2)).mono (by decide))⟩
 have q5:∀q r P,op≠6→P=q+r→foldQ op q r=fitO P:=fun q r P x y=>by rw [y];exact if_pos (by omega)
 have q6:∀q r P,op=6→P=q-r→foldQ op q r=fitO P:=fun q r P x y=>by rw [y];exact (if_neg (by omega)).trans (if_pos x)
 have b5:foldT op t u=none→op=5→binS (.mk op arg neg l m name [t,u]) op t u=addS (.mk op arg neg l m name [t,u]) t u:=fun e x=>by rw [binS,e];exact if_pos x
 have b6:foldT op t u=none→op=6→binS (.mk op arg neg l m name [t,u]) op t u=subS (.mk op arg neg l m name [t,u]) t u:=fun e x=>by rw [binS,e];exact (if_neg (by omega)).trans (if_pos x)
 have r1:foldT op t u=none→op=5→litT t=some 0→binS (.mk op arg neg l m name [t,u]) op t u=u:=fun e x y=>(b5 e x).trans (if_pos y)
 have r2:foldT op t u=none→op=5→¬litT t=some 0→litT u=some 0→binS (.mk op arg neg l m name [t,u]) op t u=t:=fun e x y z=>(b5 e x).trans ((if_neg y).trans (if_pos z))
 have r3:foldT op t u=none→op=6→litT u=some 0→binS (.mk op arg neg l m name [t,u]) op t u=t:=fun e x y=>(b6 e x).trans (if_pos y)
 have r4:foldT op t u=none→op=6→¬litT u=some 0→litT t=some 0→binS (.mk op arg neg l m name [t,u]) op t u=negS (nodeT 4 0 [u]) u:=fun e x y z=>(b6 e x).trans ((if_neg y).trans (if_pos z))
 have r6:foldT op t u=none→op=5→¬litT t=some 0→¬litT u=some 0→isNeg u→binS (.mk op arg neg l m name [t,u]) op t u=nodeT 6 0 [t,kidT u]:=fun e x y z v=>(b5 e x).trans ((if_neg y).trans ((if_neg z).trans (if_pos v)))
 have r7:foldT op t u=none→op=6→¬litT u=some 0→¬litT t=some 0→isNeg u→binS (.mk op arg neg l m name [t,u]) op t u=nodeT 5 0 [t,kidT u]:=fun e x y z v=>(b6 e x).trans ((if_neg y).trans ((if_neg z).trans (if_pos v)))
 have r8:foldT op t u=none→op=5→¬litT t=some 0→¬litT u=some 0→¬isNeg u→binS (.mk op arg neg l m name [t,u]) op t u=.mk op arg neg l m name [t,u]:=fun e x y z v=>(b5 e x).trans ((if_neg y).trans ((if_neg z).trans (if_neg v)))
 have r9:foldT op t u=none→op=6→¬litT u=some 0→¬litT t=some 0→¬isNeg u→binS (.mk op arg neg l m name [t,u]) op t u=.mk op arg neg l m name [t,u]:=fun e x y z v=>(b6 e x).trans ((if_neg y).trans ((if_neg z).trans (if_neg v)))
 clear b5 b6
 obtain ⟨R,hR⟩:∃R,R=binS (.mk op arg neg l m name [t,u]) op t u:=⟨_,rfl⟩
 obtain ⟨N,hN⟩:∃N,N=(foldT op t u=none):=⟨_,rfl⟩
 rw [← hR]
 simp only [← hR,← hN] at nA nB nF nY r1 r2 r3 r4 r6 r7 r8 r9
 replace nF:=Hq.mk nF
 replace nY:=Hq.mk nY
 replace q5:=Hq.mk q5
 replace q6:=Hq.mk q6
 clear hR hN
 by_cases hn:isNeg u
 ·obtain ⟨k,ng',l',m',nm',ar',ht,ek,hkk⟩:=isNeg_kidG hok2 hn
  have hn':=Hq.mk hn
  obtain ⟨e31,-,-,hv3,-,-,hk3⟩:=(ht▸hE2:IsE h [.int .i64 op2,.int .i64 ar2,.bool ng2,nn2.val,dd2.val,.string (txt nm2),ss2.val] (.mk 4 ar' ng' l' m' nm' [k])).inv
  have hkl3:ss2.l=1:=hk3.len
  obtain ⟨bl5,off5,op5,ar5,ng5,nn5,dd5,nm5,ss5,hE5,hld5,hln5,hix5⟩:=hk3.kidP 0 _ rfl
  rw [ek] at r6 r7
  clear hn ht ek
  replace r1:=Hq.mk r1
  replace r2:=Hq.mk r2
  replace r3:=Hq.mk r3
  replace r4:=Hq.mk r4
  replace r6:=Hq.mk r6
  replace r7:=Hq.mk r7
  replace r8:=Hq.mk r8
  replace r9:=Hq.mk r9
  refine f0C ok D.ref04_sum rfl ?_
  repeat' first|(refine cI.seqN (a:=.region 1 _ _) ?_)|((first|refine oI.z ?_|refine cI.z ?_);conv=>whnf)|(intro (_:Nat);conv=>whnf)
  rename_i bx by_
  refine SeqN.cut (fun ρ h' L'=>∃(b3 b4:Nat),rd ρ 3=.pointer (some { block:=b3,off:=0 })∧rd ρ 4=.pointer (some { block:=b4,off:=0 })∧h'=h∧(L'=(b4,.cells [.int .i64 op2,.int .i64 ar2,.bool ng2,nn2.val,dd2.val,.string (txt nm2),ss2.val].toArray Ty.api_Expr (0,0))::(b3,.cells [.int .i64 op1,.int .i64 ar1,.bool ng1,nn1.val,dd1.val,.string (txt nm1),ss1.val].toArray Ty.api_Expr (0,0))::[(by_,.cells [.int .i64 0,.int .i64 0,.bool false,.slice none 0 0,.slice none 0 0,.string (txt []),.slice none 0 0].toArray Ty.api_Expr (0,0)),(bx,.cells [.int .i64 op,.int .i64 arg,.bool neg,a.val,b.val,.string (txt name),s.val].toArray Ty.api_Expr (0,0))]∨L'=(b3,.cells [.int .i64 op1,.int .i64 ar1,.bool ng1,nn1.val,dd1.val,.string (txt nm1),ss1.val].toArray Ty.api_Expr (0,0))::(b4,.cells [.int .i64 op2,.int .i64 ar2,.bool ng2,nn2.val,dd2.val,.string (txt nm2),ss2.val].toArray Ty.api_Expr (0,0))::[(by_,.cells [.int .i64 0,.int .i64 0,.bool false,.slice none 0 0,.slice none 0 0,.string (txt []),.slice none 0 0].toArray Ty.api_Expr (0,0)),(bx,.cells [.int .i64 op,.int .i64 arg,.bool neg,a.val,b.val,.string (txt name),s.val].toArray Ty.api_Expr (0,0))])) ?_ ?_
  ·conv=>whnf
   repeat ((first|refine oI.z ?_|refine cI.z ?_);conv=>whnf)
   repeat' first|((first|(show DrN _ _ _ _ _ _;refine DrN.own [_] (by exact List.Sublist.cons _ (List.Sublist.cons_cons _ (List.nil_sublist _))) (by decide +kernel) ?_)|(refine ⟨fun _=>⟨HasLe.o (by first|exact Heap.lr _|assumption|exact Heap.lt (by assumption) (by assumption)|exact Heap.lt (Heap.lt (by assumption) (by assumption)) (by assumption)),by repeat first|exact List.nil_sublist _|apply List.Sublist.cons_cons|apply List.Sublist.cons⟩,?_⟩)|refine hix1 _ _ rfl ?_|refine hix2 _ _ rfl ?_|intro (_:Nat)|(show LdN _ _ _ _ _;first|(refine LdN.hasN [.int .i64 op1,.int .i64 ar1,.bool ng1,nn1.val,dd1.val,.string (txt nm1),ss1.val] rfl (fun i v hv=>hld1 _ _ i v (by first|assumption|exact Heap.lr _) hv) ?_)|(refine LdN.hasN [.int .i64 op2,.int .i64 ar2,.bool ng2,nn2.val,dd2.val,.string (txt nm2),ss2.val] rfl (fun i v hv=>hld2 _ _ i v (by first|assumption|exact Heap.lr _) hv) ?_))|refine Ld.o 0 rfl rfl ?_|(show Sto _ _ _ _;first|refine Sto.l 0 rfl rfl rfl ?_|refine Sto.l 1 rfl rfl rfl ?_)) <;> (conv=>whnf))|(refine Both.mk ?_ ?_ <;> (conv=>whnf))
   all_goals first
    | exact ⟨rfl,_,_,rfl,rfl,rfl,Or.inl rfl⟩
    | exact ⟨rfl,_,_,rfl,rfl,rfl,Or.inr rfl⟩
  conv=>whnf
  repeat intro _
  rename_i h7 L7 hj
  obtain ⟨b3,b4,e3,e4,rfl,eL⟩:=hj
  conv at e3=>lhs;whnf
  subst e3
  conv at e4=>lhs;whnf
  subst e4
  rcases eL with rfl|rfl
  all_goals (conv=>whnf)
  all_goals (repeat' first|((first|(show SeqN _ _ _ _ _ _ _;refine SeqN.go ?_)|(show LdN _ _ _ _ _;first|refine LdN.oA 0 rfl rfl ?_|refine LdN.oA 1 rfl rfl ?_|refine LdN.oA 2 rfl rfl ?_|refine LdN.oA 3 rfl rfl ?_|refine LdN.oA 4 rfl rfl ?_|refine LdN.oA 5 rfl rfl ?_|refine LdN.oA 6 rfl rfl ?_|(refine LdN.hasN [.int .i64 op5,.int .i64 ar5,.bool ng5,nn5.val,dd5.val,.string (txt nm5),ss5.val] rfl (fun i v hv=>hld5 _ _ i v (by (iterate 30 try first|assumption|refine Heap.lt ?_ (by assumption));first|done|assumption) hv) ?_))|(show CN _ _ _ _ _ _;first|(refine CN.f rfl (c1 _ _ (hE1.mono (by first|assumption|exact Heap.lr _))) (fun v h' hl2 hr=>?_);obtain ⟨bb5,cc5,de5,i5,rfl,t1,t2⟩:=hr)|(refine CN.f rfl (c2 _ _ (hE2.mono (by assumption))) (fun v h' hl2 hr=>?_);obtain ⟨bb6,cc6,de6,i6,rfl,u1,u2⟩:=hr)|(obtain ⟨q,e1,-,rfl,f1⟩:=t1 rfl;obtain ⟨r,e2,-,rfl,f2⟩:=u1 rfl;refine CN.f rfl (c5 _ q r _ _ _ _ e1 e2 (by (iterate 30 try first|assumption|refine IsQ.mono ?_ (by assumption));first|done|assumption) (by assumption)) (fun v h' hl2 hr=>?_);obtain ⟨P,hP,s7,t7,rfl,hq7,z7,z8⟩:=hr)|(refine CN.f rfl (c6 _ q r _ _ _ _ e1 e2 (by (iterate 30 try first|assumption|refine IsQ.mono ?_ (by assumption));first|done|assumption) (by (iterate 30 try first|assumption|refine IsQ.mono ?_ (by assumption));first|done|assumption)) (fun v h' hl2 hr=>?_);obtain ⟨P2,hP2,s8,t8,rfl,hq8,y7,y8⟩:=hr)|(refine CN.f rfl (c4 _ _ _ _ hq8 y7 y8) (fun v h' hl2 hr=>?_);obtain ⟨_,rfl,op9,ar9,ng9,nn9,dd9,nm9,ss9,rfl,hE9⟩:=hr)|(refine CN.f rfl (c4 _ _ _ _ hq7 z7 z8) (fun v h' hl2 hr=>?_);obtain ⟨_,rfl,op9,ar9,ng9,nn9,dd9,nm9,ss9,rfl,hE9⟩:=hr)|(refine CN.f rfl (i1z _ _ (hE1.mono (by (iterate 30 try first|assumption|refine Heap.lt ?_ (by assumption));first|done|assumption))) (fun v h' hl2 hr=>?_);subst hr)|(refine CN.f rfl (i2z _ _ (hE2.mono (by (iterate 30 try first|assumption|refine Heap.lt ?_ (by assumption));first|done|assumption))) (fun v h' hl2 hr=>?_);subst hr)|(refine CN.f rfl (rone_ct 4 0 (by decide) (by decide) u _ _ (hE2.mono (by (iterate 30 try first|assumption|refine Heap.lt ?_ (by assumption));first|done|assumption))) (fun v h' hl2 hr=>?_);obtain ⟨op8,ar8,ng8,nn8,dd8,nm8,ss8,rfl,hE8⟩:=hr)|(refine CN.f rfl (cn _ _ hE8) (fun v h' hl2 hr=>?_);obtain ⟨op6,ar6,ng6,nn6,dd6,nm6,ss6,rfl,hE6⟩:=hr)|(refine CN.f rfl (rtwo_ct _ (by omega) t k _ _ _ (hE1.mono (by (iterate 30 try first|assumption|refine Heap.lt ?_ (by assumption));first|done|assumption)) (hE5.mono (by (iterate 30 try first|assumption|refine Heap.lt ?_ (by assumption));first|done|assumption))) (fun v h' hl2 hr=>?_);obtain ⟨op8,ar8,ng8,nn8,dd8,nm8,ss8,rfl,hE8⟩:=hr))|refine hix5 _ _ rfl ?_|(refine ⟨fun _=>⟨HasLe.o (by first|exact Heap.lr _|assumption|exact Heap.lt (by assumption) (by assumption)|exact Heap.lt (Heap.lt (by assumption) (by assumption)) (by assumption)),by repeat first|exact List.nil_sublist _|apply List.Sublist.cons_cons|apply List.Sublist.cons⟩,?_⟩)|((first|refine oI.z ?_|refine cI.z ?_))|intro (_:Nat)|(show DrN _ _ _ _ _ _;first|refine DrN.own [_,_,_,_] (by exact List.Sublist.cons_cons _ (List.Sublist.cons_cons _ (List.Sublist.cons_cons _ (List.Sublist.cons_cons _ (List.Sublist.cons _ (List.Sublist.cons _ List.Sublist.slnil)))))) (by decide +kernel) ?_|refine DrN.own [_,_,_,_,_,_] (by exact List.Sublist.cons_cons _ (List.Sublist.cons_cons _ (List.Sublist.cons_cons _ (List.Sublist.cons_cons _ (List.Sublist.cons_cons _ (List.Sublist.cons_cons _ (List.Sublist.cons _ (List.Sublist.cons _ List.Sublist.slnil)))))))) (by decide +kernel) ?_)|(show Ld _ _ _ _;first|refine Ld.o 2 rfl rfl ?_|refine Ld.o 3 rfl rfl ?_|refine Ld.o 4 rfl rfl ?_|refine Ld.o 5 rfl rfl ?_|refine Ld.o 6 rfl rfl ?_|refine Ld.o 7 rfl rfl ?_)|(show Sto _ _ _ _;first|refine Sto.l 0 rfl rfl rfl ?_|refine Sto.l 4 rfl rfl rfl ?_|refine Sto.l 6 rfl rfl rfl ?_)) <;> (conv=>whnf))|(show cnd _ _ _;first|(refine cnd_eq (fun _=>?_) (fun _=>?_) <;> first|(exfalso;omega)|(conv=>whnf))|(refine cnd_dec (fun _=>?_) (fun _=>?_) <;> first|(exfalso;omega)|(conv=>whnf))|(refine cnd_bool (fun hb=>?_) (fun hb=>?_) <;> (first|cases hb|subst hb) <;> (conv=>whnf))))
  all_goals first
   | (rw [nY.out q r P e1 e2 (q5.out q r P (by assumption) hP) (by assumption)];exact RN.a ⟨op9,ar9,ng9,nn9,dd9,nm9,ss9,rfl,(by assumption)⟩)
   | (rw [nY.out q r P2 e1 e2 (q6.out q r P2 (by assumption) hP2) (by assumption)];exact RN.a ⟨op9,ar9,ng9,nn9,dd9,nm9,ss9,rfl,(by assumption)⟩)
   | (have n0:N:=(by first
       | exact nA (t2 rfl)
       | exact nB (u2 rfl)
       | exact nF.out q r P e1 e2 (q5.out q r P (by assumption) hP) (by assumption)
       | exact nF.out q r P2 e1 e2 (q6.out q r P2 (by assumption) hP2) (by assumption))
      first
       | (rw [r1.out n0 (by omega) (by assumption)];exact RN.a ⟨op2,ar2,ng2,nn2,dd2,nm2,ss2,rfl,(by (iterate 30 try first|assumption|refine IsE.mono ?_ (by assumption));first|done|assumption)⟩)
       | (rw [r2.out n0 (by omega) (by assumption) (by assumption)];exact RN.a ⟨op1,ar1,ng1,nn1,dd1,nm1,ss1,rfl,(by (iterate 30 try first|assumption|refine IsE.mono ?_ (by assumption));first|done|assumption)⟩)
       | (rw [r3.out n0 (by omega) (by assumption)];exact RN.a ⟨op1,ar1,ng1,nn1,dd1,nm1,ss1,rfl,(by (iterate 30 try first|assumption|refine IsE.mono ?_ (by assumption));first|done|assumption)⟩)
       | (rw [r4.out n0 (by omega) (by assumption) (by assumption)];exact RN.a ⟨op6,ar6,ng6,nn6,dd6,nm6,ss6,rfl,(by assumption)⟩)
       | (rw [r6.out n0 (by omega) (by assumption) (by assumption) hn'.out];exact RN.a ⟨op8,ar8,ng8,nn8,dd8,nm8,ss8,rfl,(by assumption)⟩)
       | (rw [r7.out n0 (by omega) (by assumption) (by assumption) hn'.out];exact RN.a ⟨op8,ar8,ng8,nn8,dd8,nm8,ss8,rfl,(by assumption)⟩)
       | (rw [r8.out n0 (by omega) (by assumption) (by assumption) hn'.out];exact RN.a ⟨_,arg,neg,a,b,name,s,rfl,(by assumption)⟩)
       | (rw [r9.out n0 (by omega) (by assumption) (by assumption) hn'.out];exact RN.a ⟨_,arg,neg,a,b,name,s,rfl,(by assumption)⟩)
       | (exact 5))
 ·have hn':=Hq.mk hn
  have hne:op2≠4:=by
   obtain ⟨o,ar',ng',l',m',nm',ks'⟩:=u
   obtain ⟨rfl,-⟩:=hE2.inv
   exact hn
  clear hn
  replace r1:=Hq.mk r1
  replace r2:=Hq.mk r2
  replace r3:=Hq.mk r3
  replace r4:=Hq.mk r4
  replace r6:=Hq.mk r6
  replace r7:=Hq.mk r7
  replace r8:=Hq.mk r8
  replace r9:=Hq.mk r9
  refine f0C ok D.ref04_sum rfl ?_
  repeat' first|(refine cI.seqN (a:=.region 1 _ _) ?_)|((first|refine oI.z ?_|refine cI.z ?_);conv=>whnf)|(intro (_:Nat);conv=>whnf)
  rename_i bx by_
  refine SeqN.cut (fun ρ h' L'=>∃(b3 b4:Nat),rd ρ 3=.pointer (some { block:=b3,off:=0 })∧rd ρ 4=.pointer (some { block:=b4,off:=0 })∧h'=h∧(L'=(b4,.cells [.int .i64 op2,.int .i64 ar2,.bool ng2,nn2.val,dd2.val,.string (txt nm2),ss2.val].toArray Ty.api_Expr (0,0))::(b3,.cells [.int .i64 op1,.int .i64 ar1,.bool ng1,nn1.val,dd1.val,.string (txt nm1),ss1.val].toArray Ty.api_Expr (0,0))::[(by_,.cells [.int .i64 0,.int .i64 0,.bool false,.slice none 0 0,.slice none 0 0,.string (txt []),.slice none 0 0].toArray Ty.api_Expr (0,0)),(bx,.cells [.int .i64 op,.int .i64 arg,.bool neg,a.val,b.val,.string (txt name),s.val].toArray Ty.api_Expr (0,0))]∨L'=(b3,.cells [.int .i64 op1,.int .i64 ar1,.bool ng1,nn1.val,dd1.val,.string (txt nm1),ss1.val].toArray Ty.api_Expr (0,0))::(b4,.cells [.int .i64 op2,.int .i64 ar2,.bool ng2,nn2.val,dd2.val,.string (txt nm2),ss2.val].toArray Ty.api_Expr (0,0))::[(by_,.cells [.int .i64 0,.int .i64 0,.bool false,.slice none 0 0,.slice none 0 0,.string (txt []),.slice none 0 0].toArray Ty.api_Expr (0,0)),(bx,.cells [.int .i64 op,.int .i64 arg,.bool neg,a.val,b.val,.string (txt name),s.val].toArray Ty.api_Expr (0,0))])) ?_ ?_
  ·conv=>whnf
   repeat ((first|refine oI.z ?_|refine cI.z ?_);conv=>whnf)
   repeat' first|((first|(show DrN _ _ _ _ _ _;refine DrN.own [_] (by exact List.Sublist.cons _ (List.Sublist.cons_cons _ (List.nil_sublist _))) (by decide +kernel) ?_)|(refine ⟨fun _=>⟨HasLe.o (by first|exact Heap.lr _|assumption|exact Heap.lt (by assumption) (by assumption)|exact Heap.lt (Heap.lt (by assumption) (by assumption)) (by assumption)),by repeat first|exact List.nil_sublist _|apply List.Sublist.cons_cons|apply List.Sublist.cons⟩,?_⟩)|refine hix1 _ _ rfl ?_|refine hix2 _ _ rfl ?_|intro (_:Nat)|(show LdN _ _ _ _ _;first|(refine LdN.hasN [.int .i64 op1,.int .i64 ar1,.bool ng1,nn1.val,dd1.val,.string (txt nm1),ss1.val] rfl (fun i v hv=>hld1 _ _ i v (by first|assumption|exact Heap.lr _) hv) ?_)|(refine LdN.hasN [.int .i64 op2,.int .i64 ar2,.bool ng2,nn2.val,dd2.val,.string (txt nm2),ss2.val] rfl (fun i v hv=>hld2 _ _ i v (by first|assumption|exact Heap.lr _) hv) ?_))|refine Ld.o 0 rfl rfl ?_|(show Sto _ _ _ _;first|refine Sto.l 0 rfl rfl rfl ?_|refine Sto.l 1 rfl rfl rfl ?_)) <;> (conv=>whnf))|(refine Both.mk ?_ ?_ <;> (conv=>whnf))
   all_goals first
    | exact ⟨rfl,_,_,rfl,rfl,rfl,Or.inl rfl⟩
    | exact ⟨rfl,_,_,rfl,rfl,rfl,Or.inr rfl⟩
  conv=>whnf
  repeat intro _
  rename_i h7 L7 hj
  obtain ⟨b3,b4,e3,e4,rfl,eL⟩:=hj
  conv at e3=>lhs;whnf
  subst e3
  conv at e4=>lhs;whnf
  subst e4
  rcases eL with rfl|rfl
  all_goals (conv=>whnf)
  all_goals (repeat' first|((first|(show SeqN _ _ _ _ _ _ _;refine SeqN.go ?_)|(show LdN _ _ _ _ _;first|refine LdN.oA 0 rfl rfl ?_|refine LdN.oA 1 rfl rfl ?_|refine LdN.oA 2 rfl rfl ?_|refine LdN.oA 3 rfl rfl ?_|refine LdN.oA 4 rfl rfl ?_|refine LdN.oA 5 rfl rfl ?_|refine LdN.oA 6 rfl rfl ?_|refine LdN.oA 7 rfl rfl ?_)|(show CN _ _ _ _ _ _;first|(refine CN.f rfl (c1 _ _ (hE1.mono (by first|assumption|exact Heap.lr _))) (fun v h' hl2 hr=>?_);obtain ⟨bb5,cc5,de5,i5,rfl,t1,t2⟩:=hr)|(refine CN.f rfl (c2 _ _ (hE2.mono (by assumption))) (fun v h' hl2 hr=>?_);obtain ⟨bb6,cc6,de6,i6,rfl,u1,u2⟩:=hr)|(obtain ⟨q,e1,-,rfl,f1⟩:=t1 rfl;obtain ⟨r,e2,-,rfl,f2⟩:=u1 rfl;refine CN.f rfl (c5 _ q r _ _ _ _ e1 e2 (by (iterate 30 try first|assumption|refine IsQ.mono ?_ (by assumption));first|done|assumption) (by assumption)) (fun v h' hl2 hr=>?_);obtain ⟨P,hP,s7,t7,rfl,hq7,z7,z8⟩:=hr)|(refine CN.f rfl (c6 _ q r _ _ _ _ e1 e2 (by (iterate 30 try first|assumption|refine IsQ.mono ?_ (by assumption));first|done|assumption) (by (iterate 30 try first|assumption|refine IsQ.mono ?_ (by assumption));first|done|assumption)) (fun v h' hl2 hr=>?_);obtain ⟨P2,hP2,s8,t8,rfl,hq8,y7,y8⟩:=hr)|(refine CN.f rfl (c4 _ _ _ _ hq8 y7 y8) (fun v h' hl2 hr=>?_);obtain ⟨_,rfl,op9,ar9,ng9,nn9,dd9,nm9,ss9,rfl,hE9⟩:=hr)|(refine CN.f rfl (c4 _ _ _ _ hq7 z7 z8) (fun v h' hl2 hr=>?_);obtain ⟨_,rfl,op9,ar9,ng9,nn9,dd9,nm9,ss9,rfl,hE9⟩:=hr)|(refine CN.f rfl (i1z _ _ (hE1.mono (by (iterate 30 try first|assumption|refine Heap.lt ?_ (by assumption));first|done|assumption))) (fun v h' hl2 hr=>?_);subst hr)|(refine CN.f rfl (i2z _ _ (hE2.mono (by (iterate 30 try first|assumption|refine Heap.lt ?_ (by assumption));first|done|assumption))) (fun v h' hl2 hr=>?_);subst hr)|(refine CN.f rfl (rone_ct 4 0 (by decide) (by decide) u _ _ (hE2.mono (by (iterate 30 try first|assumption|refine Heap.lt ?_ (by assumption));first|done|assumption))) (fun v h' hl2 hr=>?_);obtain ⟨op8,ar8,ng8,nn8,dd8,nm8,ss8,rfl,hE8⟩:=hr)|(refine CN.f rfl (cn _ _ hE8) (fun v h' hl2 hr=>?_);obtain ⟨op6,ar6,ng6,nn6,dd6,nm6,ss6,rfl,hE6⟩:=hr))|((first|refine oI.z ?_|refine cI.z ?_))|intro (_:Nat)|(show Ld _ _ _ _;first|refine Ld.o 2 rfl rfl ?_|refine Ld.o 3 rfl rfl ?_|refine Ld.o 4 rfl rfl ?_|refine Ld.o 5 rfl rfl ?_|refine Ld.o 6 rfl rfl ?_|refine Ld.o 7 rfl rfl ?_)|(show Sto _ _ _ _;first|refine Sto.l 0 rfl rfl rfl ?_|refine Sto.l 4 rfl rfl rfl ?_|refine Sto.l 6 rfl rfl rfl ?_)) <;> (conv=>whnf))|(show cnd _ _ _;first|(refine cnd_eq (fun _=>?_) (fun _=>?_) <;> first|(exfalso;omega)|(conv=>whnf))|(refine cnd_dec (fun _=>?_) (fun _=>?_) <;> first|(exfalso;omega)|(conv=>whnf))|(refine cnd_bool (fun hb=>?_) (fun hb=>?_) <;> (first|cases hb|subst hb) <;> (conv=>whnf))))
  all_goals first
   | (rw [nY.out q r P e1 e2 (q5.out q r P (by assumption) hP) (by assumption)];exact RN.a ⟨op9,ar9,ng9,nn9,dd9,nm9,ss9,rfl,(by assumption)⟩)
   | (rw [nY.out q r P2 e1 e2 (q6.out q r P2 (by assumption) hP2) (by assumption)];exact RN.a ⟨op9,ar9,ng9,nn9,dd9,nm9,ss9,rfl,(by assumption)⟩)
   | (have n0:N:=(by first
       | exact nA (t2 rfl)
       | exact nB (u2 rfl)
       | exact nF.out q r P e1 e2 (q5.out q r P (by assumption) hP) (by assumption)
       | exact nF.out q r P2 e1 e2 (q6.out q r P2 (by assumption) hP2) (by assumption))
      first
       | (rw [r1.out n0 (by omega) (by assumption)];exact RN.a ⟨op2,ar2,ng2,nn2,dd2,nm2,ss2,rfl,(by (iterate 30 try first|assumption|refine IsE.mono ?_ (by assumption));first|done|assumption)⟩)
       | (rw [r2.out n0 (by omega) (by assumption) (by assumption)];exact RN.a ⟨op1,ar1,ng1,nn1,dd1,nm1,ss1,rfl,(by (iterate 30 try first|assumption|refine IsE.mono ?_ (by assumption));first|done|assumption)⟩)
       | (rw [r3.out n0 (by omega) (by assumption)];exact RN.a ⟨op1,ar1,ng1,nn1,dd1,nm1,ss1,rfl,(by (iterate 30 try first|assumption|refine IsE.mono ?_ (by assumption));first|done|assumption)⟩)
       | (rw [r4.out n0 (by omega) (by assumption) (by assumption)];exact RN.a ⟨op6,ar6,ng6,nn6,dd6,nm6,ss6,rfl,(by assumption)⟩)
       | (rw [r6.out n0 (by omega) (by assumption) (by assumption) hn'.out];exact RN.a ⟨op8,ar8,ng8,nn8,dd8,nm8,ss8,rfl,(by assumption)⟩)
       | (rw [r7.out n0 (by omega) (by assumption) (by assumption) hn'.out];exact RN.a ⟨op8,ar8,ng8,nn8,dd8,nm8,ss8,rfl,(by assumption)⟩)
       | (rw [r8.out n0 (by omega) (by assumption) (by assumption) hn'.out];exact RN.a ⟨_,arg,neg,a,b,name,s,rfl,(by (iterate 30 try first|assumption|refine IsE.mono ?_ (by assumption));first|done|assumption)⟩)
       | (rw [r9.out n0 (by omega) (by assumption) (by assumption) hn'.out];exact RN.a ⟨_,arg,neg,a,b,name,s,rfl,(by (iterate 30 try first|assumption|refine IsE.mono ?_ (by assumption));first|done|assumption)⟩)
       | (exact 5))
theorem product_ct (t u:Tr) (op arg:Int) (hop:op=7) (neg:Bool) (l m name:List Nat) (hok1:okG t) (hok2:okG u) (h:Heap) (vs:List Value) (w:IsE h vs (.mk op arg neg l m name [t,u])):
  Fn0 T F.ref04_product [.agg vs.toArray] h fun v h'=>VE h' v (binS (.mk op arg neg l m name [t,u]) op t u):=by
 obtain ⟨a,b,s,rfl,ho,ha,hv,hb,hk⟩:=w.isK
 have hkl:s.l=2:=hk.len
 obtain ⟨bl1,off1,op1,ar1,ng1,nn1,dd1,nm1,ss1,hE1,hld1,hln1,hix1⟩:=hk.kidP 0 _ rfl
 obtain ⟨bl2,off2,op2,ar2,ng2,nn2,dd2,nm2,ss2,hE2,hld2,hln2,hix2⟩:=hk.kidP 1 _ rfl
 have c1:=fun h vs w=>rliteral_g t hok1 h vs w
 have c2:=fun h vs w=>rliteral_g u hok2 h vs w
 have c4:=fun h P (a b:Sl) w s z=>made_ct h a b P w s z
 have i1z:=fun h vs w=>is_ct t hok1 0 (by decide) (by decide) h vs w
 have i1o:=fun h vs w=>is_ct t hok1 1 (by decide) (by decide) h vs w
 have i1m:=fun h vs w=>is_ct t hok1 (-1) (by decide) (by decide) h vs w
 have i2z:=fun h vs w=>is_ct u hok2 0 (by decide) (by decide) h vs w
 have i2o:=fun h vs w=>is_ct u hok2 1 (by decide) (by decide) h vs w
 simp only [ratI0] at i1z i2z
 simp only [ratI1] at i1o i2o
 simp only [ratIm] at i1m
 have cn:=fun h vs w=>opposite_ct u hok2 0 false [] [] [] h vs w
 have nA:litT t=none→foldT op t u=none:=fun e=>by unfold foldT;rw [e];rfl
 have nB:litT u=none→foldT op t u=none:=fun e=>by
  unfold foldT
  cases e1:litT t with
  | none=>rfl
  | some q=>rw [e];rfl
 have nF:∀q r P,litT t=some q→litT u=some r→foldQ op q r=fitO P→¬fits P→foldT op t u=none:=fun q r P e1 e2 x y=>by
  unfold foldT;rw [e1,e2];exact x.trans (if_neg y)
 have nY:∀q r P,litT t=some q→litT u=some r→foldQ op q r=fitO P→fits P→binS (.mk op arg neg l m name [t,u]) op t u=mkL P:=fun q r P e1 e2 x y=>by
  have e:foldT op t u=some P:=by unfold foldT;rw [e1,e2];exact x.trans (if_pos y)
  rw [binS,e]
 have c3:∀h q r (a b c d:Sl),litT t=some q→litT u=some r→IsQ h a b q→IsQ h c d r→Fn0 T F.ref01_Prod [.agg #[.bool (sg q),a.val,b.val],.agg #[.bool (sg r),c.val,d.val]] h fun v h'=>∃P,P=q*r∧QV h' v P:=fun h q r a b c d e1 e2 w w'=>(Prod_ct h a b c d q r w w' ((sr_lit hok1 e1).mono (by decide)) ((sr_lit hok2 e2).mono (by decide))).mono fun v h' _ r=>by
  obtain ⟨s,t,rfl,z⟩:=r
  exact ⟨_,rfl,QV.of z ((sr_mul (sr_lit hok1 e1) (sr_lit hok2 e2)).mono (by decide))⟩
 subst hop
 have q5:∀q r P,P=q*r→foldQ 7 q r=fitO P:=fun q r P y=>by rw [y];exact (if_neg (by decide)).trans ((if_neg (by decide)).trans (if_pos rfl))
 have b5:foldT 7 t u=none→binS (.mk 7 arg neg l m name [t,u]) 7 t u=mulS (.mk 7 arg neg l m name [t,u]) t u:=fun e=>by rw [binS,e];exact (if_neg (by decide)).trans ((if_neg (by decide)).trans (if_pos rfl))
 have r1:foldT 7 t u=none→litT t=some 0→binS (.mk 7 arg neg l m name [t,u]) 7 t u=mkL 0:=fun e x=>(b5 e).trans (if_pos (Or.inl x))
 have r2:foldT 7 t u=none→litT u=some 0→binS (.mk 7 arg neg l m name [t,u]) 7 t u=mkL 0:=fun e x=>(b5 e).trans (if_pos (Or.inr x))
 have r3:foldT 7 t u=none→¬litT t=some 0→¬litT u=some 0→litT t=some 1→binS (.mk 7 arg neg l m name [t,u]) 7 t u=u:=fun e x y z=>(b5 e).trans ((if_neg fun v=>v.elim x y).trans (if_pos z))
 have r4:foldT 7 t u=none→¬litT t=some 0→¬litT u=some 0→¬litT t=some 1→litT u=some 1→binS (.mk 7 arg neg l m name [t,u]) 7 t u=t:=fun e x y z v=>(b5 e).trans ((if_neg fun v=>v.elim x y).trans ((if_neg z).trans (if_pos v)))
 have r6:foldT 7 t u=none→¬litT t=some 0→¬litT u=some 0→¬litT t=some 1→¬litT u=some 1→litT t=some (-1)→binS (.mk 7 arg neg l m name [t,u]) 7 t u=negS (nodeT 4 0 [u]) u:=fun e x y z v k=>(b5 e).trans ((if_neg fun v=>v.elim x y).trans ((if_neg z).trans ((if_neg v).trans (if_pos k))))
 have r7:foldT 7 t u=none→¬litT t=some 0→¬litT u=some 0→¬litT t=some 1→¬litT u=some 1→¬litT t=some (-1)→binS (.mk 7 arg neg l m name [t,u]) 7 t u=.mk 7 arg neg l m name [t,u]:=fun e x y z v k=>(b5 e).trans ((if_neg fun v=>v.elim x y).trans ((if_neg z).trans ((if_neg v).trans (if_neg k))))
 clear b5
 have c5:=fun h=>IntQ_ct h 0 (by decide) (by decide)
 have c6:=fun h (a b:Sl) w=>rlit_ct h a b 0 w ((sr_of fits_zero).mono (by decide)) ((fits_sz fits_zero).mono (by decide))
 simp only [ratI0] at c5
 obtain ⟨R,hR⟩:∃R,R=binS (.mk 7 arg neg l m name [t,u]) 7 t u:=⟨_,rfl⟩
 obtain ⟨N,hN⟩:∃N,N=(foldT 7 t u=none):=⟨_,rfl⟩
 rw [← hR]
 simp only [← hR,← hN] at nA nB nF nY r1 r2 r3 r4 r6 r7
 replace nF:=Hq.mk nF
 replace nY:=Hq.mk nY
 replace q5:=Hq.mk q5
 replace r1:=Hq.mk r1
 replace r2:=Hq.mk r2
 replace r3:=Hq.mk r3
 replace r4:=Hq.mk r4
 replace r6:=Hq.mk r6
 replace r7:=Hq.mk r7
 clear hR hN
 refine f0C ok D.ref04_product rfl ?_
 repeat' first|(refine cI.seqN (a:=.region 1 _ _) ?_)|((first|refine oI.z ?_|refine cI.z ?_);conv=>whnf)|(intro (_:Nat);conv=>whnf)
 rename_i bx by_
 refine SeqN.cut (fun ρ h' L'=>∃(b3 b4:Nat),rd ρ 3=.pointer (some { block:=b3,off:=0 })∧rd ρ 4=.pointer (some { block:=b4,off:=0 })∧h'=h∧(L'=(b4,.cells [.int .i64 op2,.int .i64 ar2,.bool ng2,nn2.val,dd2.val,.string (txt nm2),ss2.val].toArray Ty.api_Expr (0,0))::(b3,.cells [.int .i64 op1,.int .i64 ar1,.bool ng1,nn1.val,dd1.val,.string (txt nm1),ss1.val].toArray Ty.api_Expr (0,0))::[(by_,.cells [.int .i64 0,.int .i64 0,.bool false,.slice none 0 0,.slice none 0 0,.string (txt []),.slice none 0 0].toArray Ty.api_Expr (0,0)),(bx,.cells [.int .i64 7,.int .i64 arg,.bool neg,a.val,b.val,.string (txt name),s.val].toArray Ty.api_Expr (0,0))]∨L'=(b3,.cells [.int .i64 op1,.int .i64 ar1,.bool ng1,nn1.val,dd1.val,.string (txt nm1),ss1.val].toArray Ty.api_Expr (0,0))::(b4,.cells [.int .i64 op2,.int .i64 ar2,.bool ng2,nn2.val,dd2.val,.string (txt nm2),ss2.val].toArray Ty.api_Expr (0,0))::[(by_,.cells [.int .i64 0,.int .i64 0,.bool false,.slice none 0 0,.slice none 0 0,.string (txt []),.slice none 0 0].toArray Ty.api_Expr (0,0)),(bx,.cells [.int .i64 7,.int .i64 arg,.bool neg,a.val,b.val,.string (txt name),s.val].toArray Ty.api_Expr (0,0))])) ?_ ?_
 ·conv=>whnf
  repeat ((first|refine oI.z ?_|refine cI.z ?_);conv=>whnf)
  repeat' first|((first|(show DrN _ _ _ _ _ _;refine DrN.own [_] (by exact List.Sublist.cons _ (List.Sublist.cons_cons _ (List.nil_sublist _))) (by decide +kernel) ?_)|(refine ⟨fun _=>⟨HasLe.o (by first|exact Heap.lr _|assumption|exact Heap.lt (by assumption) (by assumption)|exact Heap.lt (Heap.lt (by assumption) (by assumption)) (by assumption)),by repeat first|exact List.nil_sublist _|apply List.Sublist.cons_cons|apply List.Sublist.cons⟩,?_⟩)|refine hix1 _ _ rfl ?_|refine hix2 _ _ rfl ?_|intro (_:Nat)|(show LdN _ _ _ _ _;first|(refine LdN.hasN [.int .i64 op1,.int .i64 ar1,.bool ng1,nn1.val,dd1.val,.string (txt nm1),ss1.val] rfl (fun i v hv=>hld1 _ _ i v (by first|assumption|exact Heap.lr _) hv) ?_)|(refine LdN.hasN [.int .i64 op2,.int .i64 ar2,.bool ng2,nn2.val,dd2.val,.string (txt nm2),ss2.val] rfl (fun i v hv=>hld2 _ _ i v (by first|assumption|exact Heap.lr _) hv) ?_))|refine Ld.o 0 rfl rfl ?_|(show Sto _ _ _ _;first|refine Sto.l 0 rfl rfl rfl ?_|refine Sto.l 1 rfl rfl rfl ?_)) <;> (conv=>whnf))|(refine Both.mk ?_ ?_ <;> (conv=>whnf))
  all_goals first
   | exact ⟨rfl,_,_,rfl,rfl,rfl,Or.inl rfl⟩
   | exact ⟨rfl,_,_,rfl,rfl,rfl,Or.inr rfl⟩
 conv=>whnf
 repeat intro _
 rename_i h7 L7 hj
 obtain ⟨b3,b4,e3,e4,rfl,eL⟩:=hj
 conv at e3=>lhs;whnf
 subst e3
 conv at e4=>lhs;whnf
 subst e4
 rcases eL with rfl|rfl
 all_goals (conv=>whnf)
 all_goals (repeat' first|((first|(show SeqN _ _ _ _ _ _ _;refine SeqN.go ?_)|(show LdN _ _ _ _ _;first|refine LdN.oA 0 rfl rfl ?_|refine LdN.oA 1 rfl rfl ?_|refine LdN.oA 2 rfl rfl ?_|refine LdN.oA 3 rfl rfl ?_|refine LdN.oA 4 rfl rfl ?_|refine LdN.oA 5 rfl rfl ?_|refine LdN.oA 6 rfl rfl ?_)|(show CN _ _ _ _ _ _;first|(refine CN.f rfl (c1 _ _ (hE1.mono (by first|assumption|exact Heap.lr _))) (fun v h' hl2 hr=>?_);obtain ⟨bb5,cc5,de5,i5,rfl,t1,t2⟩:=hr)|(refine CN.f rfl (c2 _ _ (hE2.mono (by assumption))) (fun v h' hl2 hr=>?_);obtain ⟨bb6,cc6,de6,i6,rfl,u1,u2⟩:=hr)|(obtain ⟨q,e1,-,rfl,f1⟩:=t1 rfl;obtain ⟨r,e2,-,rfl,f2⟩:=u1 rfl;refine CN.f rfl (c3 _ q r _ _ _ _ e1 e2 (by (iterate 30 try first|assumption|refine IsQ.mono ?_ (by assumption));first|done|assumption) (by assumption)) (fun v h' hl2 hr=>?_);obtain ⟨P,hP,s7,t7,rfl,hq7,z7,z8⟩:=hr)|(refine CN.f rfl (c4 _ _ _ _ hq7 z7 z8) (fun v h' hl2 hr=>?_);obtain ⟨_,rfl,op9,ar9,ng9,nn9,dd9,nm9,ss9,rfl,hE9⟩:=hr)|(refine CN.f rfl (i1z _ _ (hE1.mono (by (iterate 30 try first|assumption|refine Heap.lt ?_ (by assumption));first|done|assumption))) (fun v h' hl2 hr=>?_);subst hr)|(refine CN.f rfl (i1o _ _ (hE1.mono (by (iterate 30 try first|assumption|refine Heap.lt ?_ (by assumption));first|done|assumption))) (fun v h' hl2 hr=>?_);subst hr)|(refine CN.f rfl (i1m _ _ (hE1.mono (by (iterate 30 try first|assumption|refine Heap.lt ?_ (by assumption));first|done|assumption))) (fun v h' hl2 hr=>?_);subst hr)|(refine CN.f rfl (i2z _ _ (hE2.mono (by (iterate 30 try first|assumption|refine Heap.lt ?_ (by assumption));first|done|assumption))) (fun v h' hl2 hr=>?_);subst hr)|(refine CN.f rfl (i2o _ _ (hE2.mono (by (iterate 30 try first|assumption|refine Heap.lt ?_ (by assumption));first|done|assumption))) (fun v h' hl2 hr=>?_);subst hr)|(refine CN.f rfl (rone_ct 4 0 (by decide) (by decide) u _ _ (hE2.mono (by (iterate 30 try first|assumption|refine Heap.lt ?_ (by assumption));first|done|assumption))) (fun v h' hl2 hr=>?_);obtain ⟨op8,ar8,ng8,nn8,dd8,nm8,ss8,rfl,hE8⟩:=hr)|(refine CN.f rfl (cn _ _ hE8) (fun v h' hl2 hr=>?_);obtain ⟨op6,ar6,ng6,nn6,dd6,nm6,ss6,rfl,hE6⟩:=hr)|(refine CN.f rfl (c5 _) (fun v h' hl2 hr=>?_);obtain ⟨s8,t8,rfl,hq8⟩:=hr)|(refine CN.f rfl (c6 _ _ _ hq8) (fun v h' hl2 hr=>?_);obtain ⟨op7,ar7,ng7,nn7,dd7,nm7,ss7,rfl,hE7⟩:=hr))|((first|refine oI.z ?_|refine cI.z ?_))|intro (_:Nat)|(show Sto _ _ _ _;first|refine Sto.l 0 rfl rfl rfl ?_|refine Sto.l 4 rfl rfl rfl ?_|refine Sto.l 5 rfl rfl rfl ?_)) <;> (conv=>whnf))|(show cnd _ _ _;first|(refine cnd_dec (fun _=>?_) (fun _=>?_) <;> first|(exfalso;omega)|(conv=>whnf))|(refine cnd_bool (fun hb=>?_) (fun hb=>?_) <;> (first|cases hb|subst hb) <;> (conv=>whnf))))
 all_goals first
  | (rw [nY.out q r P e1 e2 (q5.out q r P hP) (by assumption)];exact RN.a ⟨op9,ar9,ng9,nn9,dd9,nm9,ss9,rfl,(by assumption)⟩)
  | (have n0:N:=(by first
      | exact nA (t2 rfl)
      | exact nB (u2 rfl)
      | exact nF.out q r P e1 e2 (q5.out q r P hP) (by assumption))
     first
      | (rw [r1.out n0 (by assumption)];exact RN.a ⟨op7,ar7,ng7,nn7,dd7,nm7,ss7,rfl,(by assumption)⟩)
      | (rw [r2.out n0 (by assumption)];exact RN.a ⟨op7,ar7,ng7,nn7,dd7,nm7,ss7,rfl,(by assumption)⟩)
      | (rw [r3.out n0 (by assumption) (by assumption) (by assumption)];exact RN.a ⟨op2,ar2,ng2,nn2,dd2,nm2,ss2,rfl,(by (iterate 30 try first|assumption|refine IsE.mono ?_ (by assumption));first|done|assumption)⟩)
      | (rw [r4.out n0 (by assumption) (by assumption) (by assumption) (by assumption)];exact RN.a ⟨op1,ar1,ng1,nn1,dd1,nm1,ss1,rfl,(by (iterate 30 try first|assumption|refine IsE.mono ?_ (by assumption));first|done|assumption)⟩)
      | (rw [r6.out n0 (by assumption) (by assumption) (by assumption) (by assumption) (by assumption)];exact RN.a ⟨op6,ar6,ng6,nn6,dd6,nm6,ss6,rfl,(by assumption)⟩)
      | (rw [r7.out n0 (by assumption) (by assumption) (by assumption) (by assumption) (by assumption)];exact RN.a ⟨_,arg,neg,a,b,name,s,rfl,(by (iterate 30 try first|assumption|refine IsE.mono ?_ (by assumption));first|done|assumption)⟩))
theorem quotient_ct (t u:Tr) (op arg:Int) (hop:op=8) (neg:Bool) (l m name:List Nat) (hok1:okG t) (hok2:okG u) (h:Heap) (vs:List Value) (w:IsE h vs (.mk op arg neg l m name [t,u])):
  Fn0 T F.ref04_quotient [.agg vs.toArray] h fun v h'=>VE h' v (binS (.mk op arg neg l m name [t,u]) op t u):=by
 obtain ⟨a,b,s,rfl,ho,ha,hv,hb,hk⟩:=w.isK
 have hkl:s.l=2:=hk.len
 obtain ⟨bl1,off1,op1,ar1,ng1,nn1,dd1,nm1,ss1,hE1,hld1,hln1,hix1⟩:=hk.kidP 0 _ rfl
 obtain ⟨bl2,off2,op2,ar2,ng2,nn2,dd2,nm2,ss2,hE2,hld2,hln2,hix2⟩:=hk.kidP 1 _ rfl
 have c1:=fun h vs w=>rliteral_g t hok1 h vs w
 have c2:=fun h vs w=>rliteral_g u hok2 h vs w
 have c4:=fun h P (a b:Sl) w s z=>made_ct h a b P w s z
 have i1z:=fun h vs w=>is_ct t hok1 0 (by decide) (by decide) h vs w
 have i1o:=fun h vs w=>is_ct t hok1 1 (by decide) (by decide) h vs w
 have i1m:=fun h vs w=>is_ct t hok1 (-1) (by decide) (by decide) h vs w
 have i2z:=fun h vs w=>is_ct u hok2 0 (by decide) (by decide) h vs w
 have i2o:=fun h vs w=>is_ct u hok2 1 (by decide) (by decide) h vs w
 simp only [ratI0] at i1z i2z
 simp only [ratI1] at i1o i2o
 simp only [ratIm] at i1m
 have cn:=fun h vs w=>opposite_ct u hok2 0 false [] [] [] h vs w
 have nA:litT t=none→foldT op t u=none:=fun e=>by unfold foldT;rw [e];rfl
 have nB:litT u=none→foldT op t u=none:=fun e=>by
  unfold foldT
  cases e1:litT t with
  | none=>rfl
  | some q=>rw [e];rfl
 have nF:∀q r P,litT t=some q→litT u=some r→foldQ op q r=fitO P→¬fits P→foldT op t u=none:=fun q r P e1 e2 x y=>by
  unfold foldT;rw [e1,e2];exact x.trans (if_neg y)
 have nY:∀q r P,litT t=some q→litT u=some r→foldQ op q r=fitO P→fits P→binS (.mk op arg neg l m name [t,u]) op t u=mkL P:=fun q r P e1 e2 x y=>by
  have e:foldT op t u=some P:=by unfold foldT;rw [e1,e2];exact x.trans (if_pos y)
  rw [binS,e]
 have c3:∀h q r (a b c d:Sl),litT t=some q→litT u=some r→IsQ h a b q→IsQ h c d r→Fn0 T F.ref01_Div [.agg #[.bool (sg q),a.val,b.val],.agg #[.bool (sg r),c.val,d.val]] h fun v h'=>∃P,P=q / r∧(nu r≠0→QV h' v P):=fun h q r a b c d e1 e2 w w'=>(Quo_ct h a b c d q r w w' ((sr_lit hok1 e1).mono (by decide)) ((sr_lit hok2 e2).mono (by decide))).mono fun v h' _ rr=>by
  obtain ⟨s,t,rfl,z⟩:=rr
  exact ⟨_,rfl,fun x=>QV.of z ((sr_div (sr_lit hok1 e1) (sr_lit hok2 e2) x).mono (by decide))⟩
 have c8:∀h q (c d:Sl),litT u=some q→IsQ h c d q→Fn0 T F.ref01_Sgn [.agg #[.bool (sg q),c.val,d.val]] h fun v h'=>h'=h∧∃S,S=signQ q∧v=.int .i64 S:=fun h q c d e w=>(Sgn_q h c d q w ((sr_lit hok2 e).mono (by decide))).mono fun v h' _ r=>⟨r.1,_,rfl,r.2⟩
 have nz:∀r Sg,Sg=signQ r→Sg≠0→nu r≠0:=fun r Sg e x y=>x (e.trans (signQ_zero.2 y))
 subst hop
 have q5:∀q r P Sg,Sg=signQ r→Sg≠0→P=q / r→foldQ 8 q r=fitO P:=fun q r P Sg e x y=>by rw [y];exact (if_neg (by decide)).trans ((if_neg (by decide)).trans ((if_neg (by decide)).trans (if_neg fun z=>nz r Sg e x (nu_eq_zero.2 z))))
 have nC:∀q r Sg,litT t=some q→litT u=some r→Sg=signQ r→Sg=0→foldT 8 t u=none:=fun q r Sg e1 e2 e x=>by
  unfold foldT;rw [e1,e2];show foldQ 8 q r=none;unfold foldQ;rw [if_neg (by decide),if_neg (by decide),if_neg (by decide)];exact if_pos (nu_eq_zero.1 (signQ_zero.1 (e▸x)))
 have b5:foldT 8 t u=none→binS (.mk 8 arg neg l m name [t,u]) 8 t u=divS (.mk 8 arg neg l m name [t,u]) t u:=fun e=>by rw [binS,e];exact (if_neg (by decide)).trans ((if_neg (by decide)).trans (if_neg (by decide)))
 have r1:foldT 8 t u=none→litT t=some 0→binS (.mk 8 arg neg l m name [t,u]) 8 t u=mkL 0:=fun e x=>(b5 e).trans (if_pos x)
 have r2:foldT 8 t u=none→¬litT t=some 0→litT u=some 1→binS (.mk 8 arg neg l m name [t,u]) 8 t u=t:=fun e x y=>(b5 e).trans ((if_neg x).trans (if_pos y))
 have r3:foldT 8 t u=none→¬litT t=some 0→¬litT u=some 1→binS (.mk 8 arg neg l m name [t,u]) 8 t u=.mk 8 arg neg l m name [t,u]:=fun e x y=>(b5 e).trans ((if_neg x).trans (if_neg y))
 clear b5
 have c5:=fun h=>IntQ_ct h 0 (by decide) (by decide)
 have c6:=fun h (a b:Sl) w=>rlit_ct h a b 0 w ((sr_of fits_zero).mono (by decide)) ((fits_sz fits_zero).mono (by decide))
 simp only [ratI0] at c5
 obtain ⟨R,hR⟩:∃R,R=binS (.mk 8 arg neg l m name [t,u]) 8 t u:=⟨_,rfl⟩
 obtain ⟨N,hN⟩:∃N,N=(foldT 8 t u=none):=⟨_,rfl⟩
 rw [← hR]
 simp only [← hR,← hN] at nA nB nF nY nC r1 r2 r3
 replace nF:=Hq.mk nF
 replace nY:=Hq.mk nY
 replace q5:=Hq.mk q5
 replace nC:=Hq.mk nC
 replace nz:=Hq.mk nz
 replace r1:=Hq.mk r1
 replace r2:=Hq.mk r2
 replace r3:=Hq.mk r3
 clear hR hN
 refine f0C ok D.ref04_quotient rfl ?_
 repeat' first|(refine cI.seqN (a:=.region 1 _ _) ?_)|((first|refine oI.z ?_|refine cI.z ?_);conv=>whnf)|(intro (_:Nat);conv=>whnf)
 rename_i bx by_
 refine SeqN.cut (fun ρ h' L'=>∃(b3 b4:Nat),rd ρ 3=.pointer (some { block:=b3,off:=0 })∧rd ρ 4=.pointer (some { block:=b4,off:=0 })∧h'=h∧(L'=(b4,.cells [.int .i64 op2,.int .i64 ar2,.bool ng2,nn2.val,dd2.val,.string (txt nm2),ss2.val].toArray Ty.api_Expr (0,0))::(b3,.cells [.int .i64 op1,.int .i64 ar1,.bool ng1,nn1.val,dd1.val,.string (txt nm1),ss1.val].toArray Ty.api_Expr (0,0))::[(by_,.cells [.int .i64 0,.int .i64 0,.bool false,.slice none 0 0,.slice none 0 0,.string (txt []),.slice none 0 0].toArray Ty.api_Expr (0,0)),(bx,.cells [.int .i64 8,.int .i64 arg,.bool neg,a.val,b.val,.string (txt name),s.val].toArray Ty.api_Expr (0,0))]∨L'=(b3,.cells [.int .i64 op1,.int .i64 ar1,.bool ng1,nn1.val,dd1.val,.string (txt nm1),ss1.val].toArray Ty.api_Expr (0,0))::(b4,.cells [.int .i64 op2,.int .i64 ar2,.bool ng2,nn2.val,dd2.val,.string (txt nm2),ss2.val].toArray Ty.api_Expr (0,0))::[(by_,.cells [.int .i64 0,.int .i64 0,.bool false,.slice none 0 0,.slice none 0 0,.string (txt []),.slice none 0 0].toArray Ty.api_Expr (0,0)),(bx,.cells [.int .i64 8,.int .i64 arg,.bool neg,a.val,b.val,.string (txt name),s.val].toArray Ty.api_Expr (0,0))])) ?_ ?_
 ·conv=>whnf
  repeat ((first|refine oI.z ?_|refine cI.z ?_);conv=>whnf)
  repeat' first|((first|(show DrN _ _ _ _ _ _;refine DrN.own [_] (by exact List.Sublist.cons _ (List.Sublist.cons_cons _ (List.nil_sublist _))) (by decide +kernel) ?_)|(refine ⟨fun _=>⟨HasLe.o (by first|exact Heap.lr _|assumption|exact Heap.lt (by assumption) (by assumption)|exact Heap.lt (Heap.lt (by assumption) (by assumption)) (by assumption)),by repeat first|exact List.nil_sublist _|apply List.Sublist.cons_cons|apply List.Sublist.cons⟩,?_⟩)|refine hix1 _ _ rfl ?_|refine hix2 _ _ rfl ?_|intro (_:Nat)|(show LdN _ _ _ _ _;first|(refine LdN.hasN [.int .i64 op1,.int .i64 ar1,.bool ng1,nn1.val,dd1.val,.string (txt nm1),ss1.val] rfl (fun i v hv=>hld1 _ _ i v (by first|assumption|exact Heap.lr _) hv) ?_)|(refine LdN.hasN [.int .i64 op2,.int .i64 ar2,.bool ng2,nn2.val,dd2.val,.string (txt nm2),ss2.val] rfl (fun i v hv=>hld2 _ _ i v (by first|assumption|exact Heap.lr _) hv) ?_))|refine Ld.o 0 rfl rfl ?_|(show Sto _ _ _ _;first|refine Sto.l 0 rfl rfl rfl ?_|refine Sto.l 1 rfl rfl rfl ?_)) <;> (conv=>whnf))|(refine Both.mk ?_ ?_ <;> (conv=>whnf))
  all_goals first
   | exact ⟨rfl,_,_,rfl,rfl,rfl,Or.inl rfl⟩
   | exact ⟨rfl,_,_,rfl,rfl,rfl,Or.inr rfl⟩
 conv=>whnf
 repeat intro _
 rename_i h7 L7 hj
 obtain ⟨b3,b4,e3,e4,rfl,eL⟩:=hj
 conv at e3=>lhs;whnf
 subst e3
 conv at e4=>lhs;whnf
 subst e4
 rcases eL with rfl|rfl
 all_goals (conv=>whnf)
 all_goals (repeat' first|((first|(show SeqN _ _ _ _ _ _ _;refine SeqN.go ?_)|(show LdN _ _ _ _ _;first|refine LdN.oA 0 rfl rfl ?_|refine LdN.oA 1 rfl rfl ?_|refine LdN.oA 2 rfl rfl ?_|refine LdN.oA 3 rfl rfl ?_|refine LdN.oA 4 rfl rfl ?_|refine LdN.oA 5 rfl rfl ?_|refine LdN.oA 6 rfl rfl ?_)|(show CN _ _ _ _ _ _;first|(refine CN.f rfl (c1 _ _ (hE1.mono (by first|assumption|exact Heap.lr _))) (fun v h' hl2 hr=>?_);obtain ⟨bb5,cc5,de5,i5,rfl,t1,t2⟩:=hr)|(refine CN.f rfl (c2 _ _ (hE2.mono (by assumption))) (fun v h' hl2 hr=>?_);obtain ⟨bb6,cc6,de6,i6,rfl,u1,u2⟩:=hr)|(obtain ⟨q,e1,-,rfl,f1⟩:=t1 rfl;obtain ⟨r,e2,-,rfl,f2⟩:=u1 rfl;refine CN.f rfl (c8 _ r _ _ e2 (by assumption)) (fun v h' hl2 hr=>?_);obtain ⟨rfl,Sg,hS,rfl⟩:=hr;clear hl2)|(refine CN.f rfl (c3 _ q r _ _ _ _ e1 e2 (by (iterate 30 try first|assumption|refine IsQ.mono ?_ (by assumption));first|done|assumption) (by assumption)) (fun v h' hl2 hr=>?_);obtain ⟨P,hP,hr⟩:=hr;obtain ⟨s7,t7,rfl,hq7,z7,z8⟩:=hr (nz.out r _ hS (by assumption)))|(refine CN.f rfl (c4 _ _ _ _ hq7 z7 z8) (fun v h' hl2 hr=>?_);obtain ⟨_,rfl,op9,ar9,ng9,nn9,dd9,nm9,ss9,rfl,hE9⟩:=hr)|(refine CN.f rfl (i1z _ _ (hE1.mono (by (iterate 30 try first|assumption|refine Heap.lt ?_ (by assumption));first|done|assumption))) (fun v h' hl2 hr=>?_);subst hr)|(refine CN.f rfl (i2o _ _ (hE2.mono (by (iterate 30 try first|assumption|refine Heap.lt ?_ (by assumption));first|done|assumption))) (fun v h' hl2 hr=>?_);subst hr)|(refine CN.f rfl (c5 _) (fun v h' hl2 hr=>?_);obtain ⟨s8,t8,rfl,hq8⟩:=hr)|(refine CN.f rfl (c6 _ _ _ hq8) (fun v h' hl2 hr=>?_);obtain ⟨op7,ar7,ng7,nn7,dd7,nm7,ss7,rfl,hE7⟩:=hr))|((first|refine oI.z ?_|refine cI.z ?_))|intro (_:Nat)|(show Sto _ _ _ _;first|refine Sto.l 0 rfl rfl rfl ?_|refine Sto.l 4 rfl rfl rfl ?_|refine Sto.l 5 rfl rfl rfl ?_)) <;> (conv=>whnf))|(show cnd _ _ _;first|(refine cnd_eq (fun _=>?_) (fun _=>?_) <;> first|(exfalso;omega)|(conv=>whnf))|(refine cnd_not ?_)|(refine cnd_dec (fun _=>?_) (fun _=>?_) <;> first|(exfalso;omega)|(conv=>whnf))|(refine cnd_bool (fun hb=>?_) (fun hb=>?_) <;> (first|cases hb|subst hb) <;> (conv=>whnf))))
 all_goals first
  | (rw [nY.out q r P e1 e2 (q5.out q r P _ hS (by assumption) hP) (by assumption)];exact RN.a ⟨op9,ar9,ng9,nn9,dd9,nm9,ss9,rfl,(by assumption)⟩)
  | (have n0:N:=(by first
      | exact nA (t2 rfl)
      | exact nB (u2 rfl)
      | exact nC.out q r _ e1 e2 hS (by assumption)
      | exact nF.out q r P e1 e2 (q5.out q r P _ hS (by assumption) hP) (by assumption))
     first
      | (rw [r1.out n0 (by assumption)];exact RN.a ⟨op7,ar7,ng7,nn7,dd7,nm7,ss7,rfl,(by assumption)⟩)
      | (rw [r2.out n0 (by assumption) (by assumption)];exact RN.a ⟨op1,ar1,ng1,nn1,dd1,nm1,ss1,rfl,(by (iterate 30 try first|assumption|refine IsE.mono ?_ (by assumption));first|done|assumption)⟩)
      | (rw [r3.out n0 (by assumption) (by assumption)];exact RN.a ⟨_,arg,neg,a,b,name,s,rfl,(by (iterate 30 try first|assumption|refine IsE.mono ?_ (by assumption));first|done|assumption)⟩))
theorem nodeS_two {op arg:Int} {e a b:Tr} (h:op=5∨op=6∨op=7∨op=8):nodeS op arg e [a,b]=binS e op a b:=if_pos h
theorem Simple_ct:∀t:Tr,∀(h:Heap) (vs:List Value),IsE h vs t→okG t→Fn0 T F.ref04_Simple [.agg vs.toArray] h fun v h'=>VE h' v (simT t):=by
 refine tree_ind fun t ih=>?_
 intro h vs w hok
 obtain ⟨op,arg,neg,l,m,name,ks⟩:=t
 obtain ⟨a,b,s,rfl,ho,ha,hv,hb,hk⟩:=w.isK
 rw [okG] at hok
 obtain ⟨hnb,hoks⟩:=hok
 have hks:ks.length≤3:=by
  have h1:=hnb.1
  have h2:=kidsN_le op
  omega
 have hkl:=hk.len
 refine f0C ok D.ref04_Simple rfl ?_
 conv=>whnf
 repeat ((first|refine oI.z ?_|refine cI.z ?_);conv=>whnf)
 repeat' first|((first|(show LdN _ _ _ _ _;refine LdN.oA 1 rfl rfl ?_)|((first|refine oI.z ?_|refine cI.z ?_))|intro (_:Nat)|refine Ld.o 1 rfl rfl ?_|refine Sto.l 0 rfl rfl rfl ?_) <;> (conv=>whnf))
 rename_i be bz bo
 refine LpN.of (fun r ρ hx L=>∃(j:Nat) (V:Value) (F1:Vc.Own) (xs:List Value),r=ks.length-j∧h.le hx∧j≤ks.length∧rd ρ 4=.int .i64 j∧
   L=F1++((bo,.cells [.int .i64 op,.int .i64 arg,.bool neg,a.val,b.val,.string (txt name),V].toArray Ty.api_Expr (0,0))::(bz,.cells [.int .i64 0,.int .i64 0,.bool false,.slice none 0 0,.slice none 0 0,.string (txt []),.slice none 0 0].toArray Ty.api_Expr (0,0))::(be,.cells [.int .i64 op,.int .i64 arg,.bool neg,a.val,b.val,.string (txt name),s.val].toArray Ty.api_Expr (0,0))::[])∧
   GrowS Ty.api_Expr 7 V j xs F1∧KC hx xs (simTs (ks.take j))) ks.length
  ⟨0,_,[],[],rfl,Heap.lr _,Nat.zero_le _,rfl,rfl,GrowS.nil _ _ _,by rw [List.take_zero,simTs];rfl⟩ ?_
 conv=>whnf
 repeat intro _
 rename_i r hx L2 hI
 obtain ⟨j,V,F1,xs,rfl,hle,hj,e4,rfl,gF,hK⟩:=hI
 conv at e4=>lhs;whnf
 subst e4
 obtain ⟨sv,rfl⟩:=gF.sl
 by_cases hjl:j=ks.length
 ·subst hjl
  rw [List.take_length] at hK
  by_cases h4:op=4
  ·subst h4
   obtain ⟨k,rfl⟩:∃k,ks=[k]:=by
    have e:ks.length=1:=by have x:=hnb.1;rw [show kidsN 4=1 from by decide] at x;omega
    match ks,e with
    | [k],_=>exact ⟨k,rfl⟩
   have hkk:okG k:=by rw [okGs] at hoks;exact hoks.1
   have fk:=simT_G hkk
   have hR:simT (.mk 4 arg neg l m name [k])=negS (.mk 4 arg neg l m name [simT k]) (simT k):=by rw [simT,simTs,simTs];rfl
   rw [hR]
   rw [simTs,simTs] at hK
   have hsl:1=[simT k].length:=rfl
   have cc:=fun h vs w=>opposite_ct (simT k) fk arg neg l m name h vs w
   conv=>whnf
   repeat ((first|refine oI.z ?_|refine cI.z ?_);conv=>whnf)
   repeat' first|((first|(show SeqN _ _ _ _ _ _ _;refine SeqN.go ?_)|(show Ld _ _ _ _;refine Ld.tl (A:=F1) (F:=[_,_]) rfl ?_)|(show LdN _ _ _ _ _;first|refine LdN.tl (A:=[]) (F:=F1) rfl ?_|refine LdN.tl (A:=X2) (F:=[_]) rfl ?_)|(show CN _ _ _ _ _ _;(refine CN.rowX (X:=F1) gF hK hsl rfl (fun h2 X2 s2 hl2 hs hk2=>?_);obtain rfl:=Sl.val_inj hs;refine CN.f rfl (cc _ _ (IsE.mkK ho ha (hv.mono (Heap.lt hle hl2)) hb hk2)) (fun v h3 hl3 hr=>?_);obtain ⟨op6,ar6,ng6,nn6,dd6,nm6,ss6,rfl,hE6⟩:=hr))|(show Sto _ _ _ _;refine Sto.tl (A:=X2) (X:=[_]) rfl rfl ?_)|((first|refine oI.z ?_|refine cI.z ?_))) <;> (conv=>whnf))|(show cnd _ _ _;first|(refine cnd_lt (fun _=>?_) (fun _=>?_) <;> first|(exfalso;omega)|(conv=>whnf))|(refine cnd_eq (fun _=>?_) (fun _=>?_) <;> first|(exfalso;omega)|(conv=>whnf)))
   all_goals exact RN.a ⟨op6,ar6,ng6,nn6,dd6,nm6,ss6,rfl,hE6⟩
  ·by_cases h9:op=9
   ·subst h9
    obtain ⟨k,rfl⟩:∃k,ks=[k]:=by
     have e:ks.length=1:=by have x:=hnb.1;rw [show kidsN 9=1 from by decide] at x;omega
     match ks,e with
     | [k],_=>exact ⟨k,rfl⟩
    have hkk:okG k:=by rw [okGs] at hoks;exact hoks.1
    have fk:=simT_G hkk
    have hR:simT (.mk 9 arg neg l m name [k])=powS (.mk 9 arg neg l m name [simT k]) arg (simT k):=by rw [simT,simTs,simTs];rfl
    rw [hR]
    rw [simTs,simTs] at hK
    have hsl:1=[simT k].length:=rfl
    have cc:=fun h vs w=>power_ct (simT k) fk arg hnb.2.1 hnb.2.2.1 neg l m name h vs w
    conv=>whnf
    repeat ((first|refine oI.z ?_|refine cI.z ?_);conv=>whnf)
    repeat' first|((first|(show SeqN _ _ _ _ _ _ _;refine SeqN.go ?_)|(show Ld _ _ _ _;refine Ld.tl (A:=F1) (F:=[_,_]) rfl ?_)|(show LdN _ _ _ _ _;first|refine LdN.tl (A:=[]) (F:=F1) rfl ?_|refine LdN.tl (A:=X2) (F:=[_]) rfl ?_)|(show CN _ _ _ _ _ _;(refine CN.rowX (X:=F1) gF hK hsl rfl (fun h2 X2 s2 hl2 hs hk2=>?_);obtain rfl:=Sl.val_inj hs;refine CN.f rfl (cc _ _ (IsE.mkK ho ha (hv.mono (Heap.lt hle hl2)) hb hk2)) (fun v h3 hl3 hr=>?_);obtain ⟨op6,ar6,ng6,nn6,dd6,nm6,ss6,rfl,hE6⟩:=hr))|(show Sto _ _ _ _;refine Sto.tl (A:=X2) (X:=[_]) rfl rfl ?_)|((first|refine oI.z ?_|refine cI.z ?_))) <;> (conv=>whnf))|(show cnd _ _ _;first|(refine cnd_lt (fun _=>?_) (fun _=>?_) <;> first|(exfalso;omega)|(conv=>whnf))|(refine cnd_eq (fun _=>?_) (fun _=>?_) <;> first|(exfalso;omega)|(conv=>whnf)))
    all_goals exact RN.a ⟨op6,ar6,ng6,nn6,dd6,nm6,ss6,rfl,hE6⟩
   ·by_cases h5:op=5
    ·subst h5
     obtain ⟨k,k',rfl⟩:∃k k',ks=[k,k']:=by
      have e:ks.length=2:=by have x:=hnb.1;rw [show kidsN 5=2 from by decide] at x;omega
      match ks,e with
      | [k,k'],_=>exact ⟨k,k',rfl⟩
     have hkk:okG k∧okG k':=by rw [okGs,okGs] at hoks;exact ⟨hoks.1,hoks.2.1⟩
     have fk:=simT_G hkk.1
     have fk':=simT_G hkk.2
     have hR:simT (.mk 5 arg neg l m name [k,k'])=binS (.mk 5 arg neg l m name [simT k,simT k']) 5 (simT k) (simT k'):=by rw [simT,simTs,simTs,simTs];exact nodeS_two (by decide)
     rw [hR]
     rw [simTs,simTs,simTs] at hK
     have hsl:2=[simT k,simT k'].length:=rfl
     have cc:=fun h vs w=>sum_ct (simT k) (simT k') 5 arg (by decide) neg l m name fk fk' h vs w
     obtain ⟨R,hRR⟩:∃R,R=binS (.mk 5 arg neg l m name [simT k,simT k']) 5 (simT k) (simT k'):=⟨_,rfl⟩
     rw [← hRR]
     simp only [← hRR] at cc
     clear hR hRR
     conv=>whnf
     repeat ((first|refine oI.z ?_|refine cI.z ?_);conv=>whnf)
     repeat' first|((first|(show SeqN _ _ _ _ _ _ _;refine SeqN.go ?_)|(show Ld _ _ _ _;refine Ld.tl (A:=F1) (F:=[_,_]) rfl ?_)|(show LdN _ _ _ _ _;first|refine LdN.tl (A:=[]) (F:=F1) rfl ?_|refine LdN.tl (A:=X2) (F:=[_]) rfl ?_)|(show CN _ _ _ _ _ _;(refine CN.rowX (X:=F1) gF hK hsl rfl (fun h2 X2 s2 hl2 hs hk2=>?_);obtain rfl:=Sl.val_inj hs;refine CN.f rfl (cc _ _ (IsE.mkK ho ha (hv.mono (Heap.lt hle hl2)) hb hk2)) (fun v h3 hl3 hr=>?_);obtain ⟨op6,ar6,ng6,nn6,dd6,nm6,ss6,rfl,hE6⟩:=hr))|(show Sto _ _ _ _;refine Sto.tl (A:=X2) (X:=[_]) rfl rfl ?_)|((first|refine oI.z ?_|refine cI.z ?_))) <;> (conv=>whnf))|(show cnd _ _ _;first|(refine cnd_lt (fun _=>?_) (fun _=>?_) <;> first|(exfalso;omega)|(conv=>whnf))|(refine cnd_eq (fun _=>?_) (fun _=>?_) <;> first|(exfalso;omega)|(conv=>whnf)))
     all_goals exact RN.a ⟨op6,ar6,ng6,nn6,dd6,nm6,ss6,rfl,hE6⟩
    ·by_cases h6:op=6
     ·subst h6
      obtain ⟨k,k',rfl⟩:∃k k',ks=[k,k']:=by
       have e:ks.length=2:=by have x:=hnb.1;rw [show kidsN 6=2 from by decide] at x;omega
       match ks,e with
       | [k,k'],_=>exact ⟨k,k',rfl⟩
      have hkk:okG k∧okG k':=by rw [okGs,okGs] at hoks;exact ⟨hoks.1,hoks.2.1⟩
      have fk:=simT_G hkk.1
      have fk':=simT_G hkk.2
      have hR:simT (.mk 6 arg neg l m name [k,k'])=binS (.mk 6 arg neg l m name [simT k,simT k']) 6 (simT k) (simT k'):=by rw [simT,simTs,simTs,simTs];exact nodeS_two (by decide)
      rw [hR]
      rw [simTs,simTs,simTs] at hK
      have hsl:2=[simT k,simT k'].length:=rfl
      have cc:=fun h vs w=>sum_ct (simT k) (simT k') 6 arg (by decide) neg l m name fk fk' h vs w
      obtain ⟨R,hRR⟩:∃R,R=binS (.mk 6 arg neg l m name [simT k,simT k']) 6 (simT k) (simT k'):=⟨_,rfl⟩
      rw [← hRR]
      simp only [← hRR] at cc
      clear hR hRR
      conv=>whnf
      repeat ((first|refine oI.z ?_|refine cI.z ?_);conv=>whnf)
      repeat' first|((first|(show SeqN _ _ _ _ _ _ _;refine SeqN.go ?_)|(show Ld _ _ _ _;refine Ld.tl (A:=F1) (F:=[_,_]) rfl ?_)|(show LdN _ _ _ _ _;first|refine LdN.tl (A:=[]) (F:=F1) rfl ?_|refine LdN.tl (A:=X2) (F:=[_]) rfl ?_)|(show CN _ _ _ _ _ _;(refine CN.rowX (X:=F1) gF hK hsl rfl (fun h2 X2 s2 hl2 hs hk2=>?_);obtain rfl:=Sl.val_inj hs;refine CN.f rfl (cc _ _ (IsE.mkK ho ha (hv.mono (Heap.lt hle hl2)) hb hk2)) (fun v h3 hl3 hr=>?_);obtain ⟨op6,ar6,ng6,nn6,dd6,nm6,ss6,rfl,hE6⟩:=hr))|(show Sto _ _ _ _;refine Sto.tl (A:=X2) (X:=[_]) rfl rfl ?_)|((first|refine oI.z ?_|refine cI.z ?_))) <;> (conv=>whnf))|(show cnd _ _ _;first|(refine cnd_lt (fun _=>?_) (fun _=>?_) <;> first|(exfalso;omega)|(conv=>whnf))|(refine cnd_eq (fun _=>?_) (fun _=>?_) <;> first|(exfalso;omega)|(conv=>whnf)))
      all_goals exact RN.a ⟨op6,ar6,ng6,nn6,dd6,nm6,ss6,rfl,hE6⟩
     ·by_cases h7:op=7
      ·subst h7
       obtain ⟨k,k',rfl⟩:∃k k',ks=[k,k']:=by
        have e:ks.length=2:=by have x:=hnb.1;rw [show kidsN 7=2 from by decide] at x;omega
        match ks,e with
        | [k,k'],_=>exact ⟨k,k',rfl⟩
       have hkk:okG k∧okG k':=by rw [okGs,okGs] at hoks;exact ⟨hoks.1,hoks.2.1⟩
       have fk:=simT_G hkk.1
       have fk':=simT_G hkk.2
       have hR:simT (.mk 7 arg neg l m name [k,k'])=binS (.mk 7 arg neg l m name [simT k,simT k']) 7 (simT k) (simT k'):=by rw [simT,simTs,simTs,simTs];exact nodeS_two (by decide)
       rw [hR]
       rw [simTs,simTs,simTs] at hK
       have hsl:2=[simT k,simT k'].length:=rfl
       have cc:=fun h vs w=>product_ct (simT k) (simT k') 7 arg (by decide) neg l m name fk fk' h vs w
       obtain ⟨R,hRR⟩:∃R,R=binS (.mk 7 arg neg l m name [simT k,simT k']) 7 (simT k) (simT k'):=⟨_,rfl⟩
       rw [← hRR]
       simp only [← hRR] at cc
       clear hR hRR
       conv=>whnf
       repeat ((first|refine oI.z ?_|refine cI.z ?_);conv=>whnf)
       repeat' first|((first|(show SeqN _ _ _ _ _ _ _;refine SeqN.go ?_)|(show Ld _ _ _ _;refine Ld.tl (A:=F1) (F:=[_,_]) rfl ?_)|(show LdN _ _ _ _ _;first|refine LdN.tl (A:=[]) (F:=F1) rfl ?_|refine LdN.tl (A:=X2) (F:=[_]) rfl ?_)|(show CN _ _ _ _ _ _;(refine CN.rowX (X:=F1) gF hK hsl rfl (fun h2 X2 s2 hl2 hs hk2=>?_);obtain rfl:=Sl.val_inj hs;refine CN.f rfl (cc _ _ (IsE.mkK ho ha (hv.mono (Heap.lt hle hl2)) hb hk2)) (fun v h3 hl3 hr=>?_);obtain ⟨op6,ar6,ng6,nn6,dd6,nm6,ss6,rfl,hE6⟩:=hr))|(show Sto _ _ _ _;refine Sto.tl (A:=X2) (X:=[_]) rfl rfl ?_)|((first|refine oI.z ?_|refine cI.z ?_))) <;> (conv=>whnf))|(show cnd _ _ _;first|(refine cnd_lt (fun _=>?_) (fun _=>?_) <;> first|(exfalso;omega)|(conv=>whnf))|(refine cnd_eq (fun _=>?_) (fun _=>?_) <;> first|(exfalso;omega)|(conv=>whnf)))
       all_goals exact RN.a ⟨op6,ar6,ng6,nn6,dd6,nm6,ss6,rfl,hE6⟩
      ·by_cases h8:op=8
       ·subst h8
        obtain ⟨k,k',rfl⟩:∃k k',ks=[k,k']:=by
         have e:ks.length=2:=by have x:=hnb.1;rw [show kidsN 8=2 from by decide] at x;omega
         match ks,e with
         | [k,k'],_=>exact ⟨k,k',rfl⟩
        have hkk:okG k∧okG k':=by rw [okGs,okGs] at hoks;exact ⟨hoks.1,hoks.2.1⟩
        have fk:=simT_G hkk.1
        have fk':=simT_G hkk.2
        have hR:simT (.mk 8 arg neg l m name [k,k'])=binS (.mk 8 arg neg l m name [simT k,simT k']) 8 (simT k) (simT k'):=by rw [simT,simTs,simTs,simTs];exact nodeS_two (by decide)
        rw [hR]
        rw [simTs,simTs,simTs] at hK
        have hsl:2=[simT k,simT k'].length:=rfl
        have cc:=fun h vs w=>quotient_ct (simT k) (simT k') 8 arg (by decide) neg l m name fk fk' h vs w
        obtain ⟨R,hRR⟩:∃R,R=binS (.mk 8 arg neg l m name [simT k,simT k']) 8 (simT k) (simT k'):=⟨_,rfl⟩
        rw [← hRR]
        simp only [← hRR] at cc
        clear hR hRR
        conv=>whnf
        repeat ((first|refine oI.z ?_|refine cI.z ?_);conv=>whnf)
        repeat' first|((first|(show SeqN _ _ _ _ _ _ _;refine SeqN.go ?_)|(show Ld _ _ _ _;refine Ld.tl (A:=F1) (F:=[_,_]) rfl ?_)|(show LdN _ _ _ _ _;first|refine LdN.tl (A:=[]) (F:=F1) rfl ?_|refine LdN.tl (A:=X2) (F:=[_]) rfl ?_)|(show CN _ _ _ _ _ _;(refine CN.rowX (X:=F1) gF hK hsl rfl (fun h2 X2 s2 hl2 hs hk2=>?_);obtain rfl:=Sl.val_inj hs;refine CN.f rfl (cc _ _ (IsE.mkK ho ha (hv.mono (Heap.lt hle hl2)) hb hk2)) (fun v h3 hl3 hr=>?_);obtain ⟨op6,ar6,ng6,nn6,dd6,nm6,ss6,rfl,hE6⟩:=hr))|(show Sto _ _ _ _;refine Sto.tl (A:=X2) (X:=[_]) rfl rfl ?_)|((first|refine oI.z ?_|refine cI.z ?_))) <;> (conv=>whnf))|(show cnd _ _ _;first|(refine cnd_lt (fun _=>?_) (fun _=>?_) <;> first|(exfalso;omega)|(conv=>whnf))|(refine cnd_eq (fun _=>?_) (fun _=>?_) <;> first|(exfalso;omega)|(conv=>whnf)))
        all_goals exact RN.a ⟨op6,ar6,ng6,nn6,dd6,nm6,ss6,rfl,hE6⟩
       ·have hR:simT (.mk op arg neg l m name ks)=.mk op arg neg l m name (simTs ks):=by rw [simT];exact nodeS_else h4 h9 (by omega)
        conv=>whnf
        repeat ((first|refine oI.z ?_|refine cI.z ?_);conv=>whnf)
        repeat' first|((first|(show SeqN _ _ _ _ _ _ _;refine SeqN.go ?_)|(show Ld _ _ _ _;refine Ld.tl (A:=F1) (F:=[_,_]) rfl ?_)|(show LdN _ _ _ _ _;first|refine LdN.tl (A:=[]) (F:=F1) rfl ?_|refine LdN.tl (A:=F1) (F:=[_]) rfl ?_)|(show Sto _ _ _ _;refine Sto.tl (A:=F1) (X:=[_]) rfl rfl ?_)|((first|refine oI.z ?_|refine cI.z ?_))) <;> (conv=>whnf))|(show cnd _ _ _;first|(refine cnd_lt (fun _=>?_) (fun _=>?_) <;> first|(exfalso;omega)|(conv=>whnf))|(refine cnd_eq (fun _=>?_) (fun _=>?_) <;> first|(exfalso;omega)|(conv=>whnf)))
        refine RN.rowA (X:=F1) gF hK (simTs_len ks).symm fun h' s' hl hs hk'=>?_
        rw [hR,hs]
        exact ⟨op,arg,neg,a,b,name,s',rfl,IsE.mkK ho ha (hv.mono (Heap.lt hle hl)) hb hk'⟩
 ·obtain ⟨t,ht⟩:∃t,ks[j]?=some t:=⟨_,List.getElem?_eq_getElem (by omega)⟩
  have c2:=fun h vs w=>ih t (szT_kid ht) h vs w (okGs_mem hoks (List.mem_of_getElem? ht))
  have hkx:=hk.mono hle
  conv=>whnf
  repeat ((first|refine oI.z ?_|refine cI.z ?_);conv=>whnf)
  repeat' first|((first|(show Ld _ _ _ _;first|refine Ld.tl (A:=F1) (F:=[_,_]) rfl ?_|refine Ld.tl (A:=[_]) (F:=F1) rfl ?_)|(show Idx _ _ _ _ _;refine Idx.kid hkx j t (by omega) ht (fun ad op3 arg3 neg3 a3 b3 name3 s3 hE hld=>?_))|refine hld _ _ _ (Heap.lr _) ?_|((first|refine oI.z ?_|refine cI.z ?_))|intro (_:Nat)|(show CN _ _ _ _ _ _;(refine CN.f rfl (c2 _ _ (by assumption)) (fun v h' hl2 hr=>?_);obtain ⟨op4,ar4,ng4,nn4,dd4,nm4,ss4,rfl,hE2⟩:=hr;have hK2:=hK.mono hl2))|(show App _ _ _ _ _ _ _ _ _;(refine App.growK (A:=[_,_]) (F:=F1) (size:=7) (bytes:=112) (z:=[.int .i64 0,.int .i64 0,.bool false,.slice none 0 0,.slice none 0 0,.string (txt []),.slice none 0 0]) rfl rfl gF ⟨_,0,none⟩ 1 1 [_,_,_,_,_,_,_] rfl (Has.front _) rfl (by decide) (by omega) (by omega) (by decide) (fun v' F' g'=>?_);obtain ⟨sv',rfl⟩:=g'.sl))|(show Sto _ _ _ _;first|refine Sto.tl (A:=[_,_]) (X:=F') rfl rfl ?_|refine Sto.l 0 rfl rfl rfl ?_)|refine WN.i64 (by omega) (by omega) ?_|refine LdN.o 0 rfl rfl ?_) <;> (conv=>whnf))|(refine cnd_lt (fun _=>?_) (fun _=>?_) <;> first|(exfalso;omega)|(conv=>whnf))
  exact ⟨rfl,ks.length-(j+1),by omega,j+1,_,_::_::F',_,rfl,(by (iterate 30 try first|assumption|refine Heap.lt ?_ (by assumption));first|done|assumption),by omega,vi (by omega),rfl,(g'.cons _).cons _,by rw [take_snoc ht,simTs_append,simTs,simTs];exact KC.snoc rfl hE2 hK2⟩
def simY (t:Tr):Tr × Nat:=if ValT t then (simT t,0) else (zeroT,40)
end Go.Proofs.YtbgicephinomlaaGreatDoor