/- Literals of numbers, on both sides. -/
import Derived.Test.YtmblpmegfmgjgaaGreatDoorE63
import Derived.Test.YtmblpmegfmgjgaaGreatDoorE66
import Derived.Test.YtmblpmegfmgjgaaGreatDoorE47
import Derived.Test.YtmblpmegfmgjgaaGreatDoorE65
import Derived.Test.YtmblpmegfmgjgaaGreatDoorE33
set_option linter.unusedVariables false
set_option linter.unusedSimpArgs false
namespace Go.Proofs.YtmblpmegfmgjgaaGreatDoor
open Go Go.Vc Go.Dig
def litX:Option Rat→Tr × Nat
 | some q=>(mkL q,0)
 | none=>(zeroT,1)
theorem VE.numQ {h:Heap} {c d:Sl} {p:Rat} (hf:fits p) (w:IsRat h c d p):IsE h [.int .i64 1,.int .i64 0,.bool (sg p),c.val,d.val,.string (txt []),.slice none 0 0] (numQ p):=
 IsE.mkK (s:=⟨none,0,0⟩) (by decide) (by decide) (israt_val w (fits_sz hf)) (fun _ x=>by cases x) (IsK.nil _)
theorem outR_fits (q:Rat):fits (outR q).1:=(Fok.out q).ft
def LitR (h:Heap) (v:Value) (q:Rat):Prop:=∃a tt b,v=.tuple #[a,.bool b]∧VE h a tt∧(b=true→fits q∧tt=mkL q)∧(b=false→¬fits q)
theorem absQ_sg {q:Rat}:(sg q=true→q<0∧absQ q=-q)∧(sg q=false→¬q<0∧absQ q=q):=by
 unfold sg
 constructor
 ·intro h
  have h:=of_decide_eq_true h
  have h1:q<0:=by
   rcases Classical.em (q<0) with x | x
   ·exact x
   ·have:=Rat.num_nonneg.2 (Rat.not_lt.1 x);omega
  exact ⟨h1,absQ_neg (Rat.not_le.2 h1)⟩
 ·intro h
  have h:=of_decide_eq_false h
  have h1:0≤q:=Rat.num_nonneg.1 (by omega)
  exact ⟨Rat.not_lt.2 h1,absQ_pos h1⟩
theorem fits_abs {q:Rat}:fits (absQ q)↔fits q:=by unfold fits;rw [nu_abs,den_abs]
theorem mkL_abs {q:Rat}:(sg q=true→mkL q=nodeT 4 0 [numQ (absQ q)])∧(sg q=false→mkL q=numQ (absQ q)):=by
 obtain ⟨h1,h2⟩:=absQ_sg (q:=q)
 unfold mkL
 exact ⟨fun x=>by rw [if_pos (h1 x).1,(h1 x).2],fun x=>by rw [if_neg (h2 x).1,(h2 x).2]⟩
set_option maxRecDepth 20000 in
set_option maxHeartbeats 1000000 in
theorem lit_ct (h:Heap) (a b:Sl) (q:Rat) (w:IsFr h a b q) (z:Sz 1073741824 q):Fn0 T F.expr_lit [.agg #[.bool (sg q),a.val,b.val]] h fun v h'=>LitR h' v q:=by
 have w':IsFr h a b (absQ q):=⟨by rw [nu_abs];exact w.num,by rw [den_abs];exact w.den⟩
 have c1:=fun h w=>Give_ct h a b (absQ q) w ⟨by rw [nu_abs];exact z.num,by rw [den_abs];exact z.den⟩
 rw [sg_abs] at c1
 have hf:=outR_fits (absQ q)
 have e1:(outR (absQ q)).2=0→fits q∧(outR (absQ q)).1=absQ q:=fun x=>by
  unfold outR at x ⊢
  split at x
  ·rename_i y;rw [if_pos y];exact ⟨fits_abs.1 y,rfl⟩
  ·cases x
 have e2:(outR (absQ q)).2≠0→¬fits q:=fun x y=>x (by unfold outR;rw [if_pos (fits_abs.2 y)])
 obtain ⟨l1,l2⟩:=mkL_abs (q:=q)
 obtain ⟨S,hS⟩:∃S,S=sg q:=⟨_,rfl⟩
 obtain ⟨P,hP⟩:∃S,S=outR (absQ q):=⟨_,rfl⟩
 obtain ⟨P1,P2⟩:=P
 rw [← hS] at l1 l2 ⊢
 simp only [← hP] at c1 hf e1 e2
 replace c1:∀h,IsFr h a b (absQ q)→Fn0 T F.word_Frac_Give [.agg #[.bool false,a.val,b.val]] h fun v h'=>∃c d:Sl,v=.tuple #[.agg #[.bool (sg P1),c.val,d.val],.int .i64 P2]∧IsRat h' c d P1:=c1
 have fin:∀h (v:Value) (t:Tr),(S=true→t=nodeT 4 0 [numQ P1])→(S=false→t=numQ P1)→VE h v t→LitR h (.tuple #[v,.bool (eq P2 0)]) q:=fun h v t s1 s2 ve=>by
  refine ⟨v,t,_,rfl,ve,fun x=>?_,fun x=>e2 fun y=>?_⟩
  ·have y:P2=0:=by
    by_cases y:P2=0
    ·exact y
    ·rw [eq_dec,dec_false y] at x;cases x
   obtain ⟨y1,y2⟩:=e1 y
   refine ⟨y1,?_⟩
   have y2:P1=absQ q:=y2
   cases S with
   | true=>rw [s1 rfl,l1 rfl,y2]
   | false=>rw [s2 rfl,l2 rfl,y2]
  ·rw [eq_dec,dec_true y] at x;cases x
 have hf:fits P1:=hf
 clear e1 e2 l1 l2 hS hP w z
 refine fn0_of_codeI ok D.expr_lit rfl ?_
 cases S
 ·conv=>whnf
  repeat ((first | refine opsI.step ?_ | refine codeI.step ?_);conv=>whnf)
  repeat' first | ((first | (show SeqN _ _ _ _ _ _ _;refine SeqN.go ?_) | (show CallN _ _ _ _ _ _;(refine CallN.fn rfl (c1 _ (by assumption)) (fun v h' hl2 hr=>?_);obtain ⟨c,d,rfl,hq⟩:=hr)) | ((first | refine opsI.step ?_ | refine codeI.step ?_)) | intro (_:Nat) | (show LdN _ _ _ _ _;first | refine LdN.own 0 rfl rfl ?_ | refine LdN.own 1 rfl rfl ?_ | refine LdN.own 2 rfl rfl ?_) | refine Ld.own 1 rfl rfl ?_ | (show Sto _ _ _ _;first | refine Sto.lit 0 rfl rfl rfl ?_ | refine Sto.lit 1 rfl rfl rfl ?_ | refine Sto.lit 2 rfl rfl rfl ?_)) <;> (conv=>whnf))
  all_goals exact RetN.all (fin _ _ (numQ P1) (fun x=>by cases x) (fun _=>rfl) ⟨1,0,_,c,d,[],⟨none,0,0⟩,rfl,VE.numQ hf (by assumption)⟩)
 ·conv=>whnf
  repeat ((first | refine opsI.step ?_ | refine codeI.step ?_);conv=>whnf)
  repeat' first | ((first | (show SeqN _ _ _ _ _ _ _;refine SeqN.go ?_) | (show CallN _ _ _ _ _ _;first | (refine CallN.fn rfl (c1 _ (by assumption)) (fun v h' hl2 hr=>?_);obtain ⟨c,d,rfl,hq⟩:=hr;have hE:=VE.numQ hf hq) | (refine CallN.keep 0 rfl rfl (fun hl2=>?_);refine CallN.fn rfl (enode_ct 4 0 (by decide) (by decide) [numQ P1] ⟨some ⟨_,0,none⟩,1,1⟩ _ (IsK.one (hE.mono (by (iterate 30 (try first | assumption | exact Heap.le_refl _));first | done | assumption)) rfl hl2)) (fun v h3 hl3 hr=>?_);obtain ⟨op9,ar9,ng9,nn9,dd9,nm9,ss9,rfl,hE9⟩:=hr)) | ((first | refine opsI.step ?_ | refine codeI.step ?_)) | intro (_:Nat) | (show LdN _ _ _ _ _;first | refine LdN.own 0 rfl rfl ?_ | refine LdN.own 1 rfl rfl ?_ | refine LdN.own 2 rfl rfl ?_) | refine Ld.own 1 rfl rfl ?_ | (show Sto _ _ _ _;first | refine Sto.lit 0 rfl rfl rfl ?_ | refine Sto.lit 1 rfl rfl rfl ?_ | refine Sto.lit 2 rfl rfl rfl ?_)) <;> (conv=>whnf))
  all_goals exact RetN.all (fin _ _ _ (fun _=>rfl) (fun x=>by cases x) ⟨op9,ar9,ng9,nn9,dd9,nm9,ss9,rfl,hE9⟩)
set_option maxRecDepth 20000 in
theorem Literal_ct (h:Heap) (tb:Tb h) (n:Bool) (a b:Sl) (x:Option Rat) (w:IsNum h n a b x):Fn0 T F.expr_Literal [.agg #[.bool n,a.val,b.val]] h fun v h'=>ResT h' v (litX x):=by
 obtain ⟨l,m,v,rfl⟩:=w.ex
 have c1:=fun h tb v=>Read_ct h tb n a b l m v
 have k0:¬okR n l m→litX (valOf n l m)=(zeroT,1):=fun x=>by unfold valOf;rw [if_neg x];rfl
 have k1:okR n l m→litX (valOf n l m)=(mkL (ratOf n l m),0):=fun x=>by unfold valOf;rw [if_pos x];rfl
 have k2:okR n l m→fits (ratOf n l m):=fun x=>x.2.2
 have c2:=fun h s t w (x:okR n l m)=>lit_ct h s t (ratOf n l m) w (fits_sz (k2 x))
 obtain ⟨R,hR⟩:∃R,R=litX (valOf n l m):=⟨_,rfl⟩
 obtain ⟨q,hq⟩:∃q,q=ratOf n l m:=⟨_,rfl⟩
 rw [← hR] at k0 k1 ⊢
 rw [← hq] at k1 k2
 simp only [← hq] at c1 c2
 clear hR
 refine fn0_of_codeI ok D.expr_Literal rfl ?_
 conv=>whnf
 repeat ((first | refine opsI.step ?_ | refine codeI.step ?_);conv=>whnf)
 repeat' first | ((first | (show CallN _ _ _ _ _ _;first | (refine CallN.fn rfl (c1 _ (by assumption) (by assumption)) (fun v h' hl2 hr=>?_);obtain ⟨s,c,d,rfl,hr2⟩:=hr) | (obtain ⟨rfl,hq2⟩:=hr2 (by assumption);refine CallN.fn rfl (c2 _ _ _ hq2 (by assumption)) (fun v h' hl2 hr=>?_);obtain ⟨_,tt,bb,rfl,⟨op9,ar9,ng9,nn9,dd9,nm9,ss9,rfl,hE9⟩,t1,t2⟩:=hr)) | ((first | refine opsI.step ?_ | refine codeI.step ?_)) | intro (_:Nat) | (show LdN _ _ _ _ _;first | refine LdN.own 0 rfl rfl ?_ | refine LdN.own 1 rfl rfl ?_ | refine LdN.own 2 rfl rfl ?_) | (show Sto _ _ _ _;first | refine Sto.lit 0 rfl rfl rfl ?_ | refine Sto.lit 1 rfl rfl rfl ?_ | refine Sto.lit 2 rfl rfl rfl ?_)) <;> (conv=>whnf)) | (show cnd _ _ _;first | (refine cnd_not ?_) | (refine cnd_dec (fun _=>?_) (fun _=>?_) <;> first | (exfalso;omega) | (conv=>whnf)))
 all_goals first
  | (rw [k0 (by assumption)];exact RetN.all ⟨_,rfl,VE.zero _⟩)
  | (have hk:okR n l m:=by assumption
     rw [k1 hk]
     have e:tt=mkL q:=by
       cases bb with
       | true=>exact (t1 rfl).2
       | false=>exact absurd (k2 hk) (t2 rfl)
     subst e
     exact RetN.all ⟨_,rfl,op9,ar9,ng9,nn9,dd9,nm9,ss9,rfl,hE9⟩)
theorem signQ_neg {q:Rat}:(signQ q<0→mkL q=nodeT 4 0 [numQ (-q)])∧(¬signQ q<0→mkL q=numQ q):=by
 have h:signQ q<0↔q<0:=by
  rw [signQ_eq,Int.sign_neg_iff]
  exact ⟨fun x=>Rat.not_le.1 fun y=>by have:=Rat.num_nonneg.2 y;omega,fun x=>by
    by_cases y:q.num<0
    ·exact y
    ·exact absurd x (Rat.not_lt.2 (Rat.num_nonneg.1 (by omega)))⟩
 unfold mkL
 exact ⟨fun x=>if_pos (h.1 x),fun x=>if_neg fun y=>x (h.2 y)⟩
set_option maxRecDepth 20000 in
theorem rnum_ct (h:Heap) (a b:Sl) (q:Rat) (w:IsQ h a b q) (z:Sr 4294967296 q) (zf:Sz 1073741824 q):Fn0 T F.ref04_num [.agg #[.bool (sg q),a.val,b.val]] h fun v h'=>VE h' v (numQ q):=by
 have c1:=fun h w=>Rat_ct h a b q w z
 refine fn0_of_codeI ok D.ref04_num rfl ?_
 conv=>whnf
 repeat ((first | refine opsI.step ?_ | refine codeI.step ?_);conv=>whnf)
 repeat' first | ((first | (show CallN _ _ _ _ _ _;(refine CallN.fn rfl (c1 _ (by assumption)) (fun v h' hl2 hr=>?_);obtain ⟨c,d,rfl,hq⟩:=hr)) | ((first | refine opsI.step ?_ | refine codeI.step ?_)) | intro (_:Nat) | (show LdN _ _ _ _ _;first | refine LdN.own 0 rfl rfl ?_ | refine LdN.own 1 rfl rfl ?_) | refine Sto.lit 0 rfl rfl rfl ?_) <;> (conv=>whnf))
 all_goals exact RetN.all ⟨1,0,_,c,d,[],⟨none,0,0⟩,rfl,IsE.mkK (s:=⟨none,0,0⟩) (by decide) (by decide) (israt_val (by assumption) zf) (fun _ x=>by cases x) (IsK.nil _)⟩
set_option maxRecDepth 20000 in
set_option maxHeartbeats 1000000 in
theorem rlit_ct (h:Heap) (a b:Sl) (q:Rat) (w:IsQ h a b q) (z:Sr 4294967296 q) (zf:Sz 1073741824 q):Fn0 T F.ref04_lit [.agg #[.bool (sg q),a.val,b.val]] h fun v h'=>VE h' v (mkL q):=by
 obtain ⟨l1,l2⟩:=signQ_neg (q:=q)
 have c1:=fun h w=>Sgn_q h a b q w (z.mono (by decide))
 have c2:=fun h w=>Opp_q h a b q w (z.mono (by decide))
 have c3:=fun h w=>rnum_ct h a b q w z zf
 have c4:=fun h w=>rnum_ct h a b (-q) (IsQ.neg w) (Sr.neg z) ⟨by rw [nu_neg];exact zf.num,by rw [Rat.neg_den];exact zf.den⟩
 obtain ⟨S,hS⟩:∃S,S=signQ q:=⟨_,rfl⟩
 simp only [← hS] at c1 l1 l2
 clear hS
 refine fn0_of_codeI ok D.ref04_lit rfl ?_
 conv=>whnf
 repeat ((first | refine opsI.step ?_ | refine codeI.step ?_);conv=>whnf)
 repeat' first | ((first | (show CallN _ _ _ _ _ _;first | refine CallN.quiet rfl (c1 _ (by assumption)) ?_ | refine CallN.quiet rfl (c2 _ (by assumption)) ?_ | (refine CallN.fn rfl (c3 _ (by assumption)) (fun v h' hl2 hr=>?_);obtain ⟨op9,ar9,ng9,nn9,dd9,nm9,ss9,rfl,hE9⟩:=hr) | (refine CallN.fn rfl (c4 _ (by assumption)) (fun v h' hl2 hr=>?_);obtain ⟨op9,ar9,ng9,nn9,dd9,nm9,ss9,rfl,hE9⟩:=hr) | (refine CallN.fn rfl (rone_ct 4 0 (by decide) (by decide) _ _ _ hE9) (fun v h' hl2 hr=>?_);obtain ⟨op8,ar8,ng8,nn8,dd8,nm8,ss8,rfl,hE8⟩:=hr)) | ((first | refine opsI.step ?_ | refine codeI.step ?_)) | intro (_:Nat) | (show LdN _ _ _ _ _;first | refine LdN.own 0 rfl rfl ?_ | refine LdN.own 1 rfl rfl ?_) | refine Sto.lit 0 rfl rfl rfl ?_) <;> (conv=>whnf)) | (refine cnd_lt (fun _=>?_) (fun _=>?_) <;> first | (exfalso;omega) | (conv=>whnf))
 all_goals first
  | (rw [l1 (by omega)];exact RetN.all ⟨op8,ar8,ng8,nn8,dd8,nm8,ss8,rfl,hE8⟩)
  | (rw [l2 (by omega)];exact RetN.all ⟨op9,ar9,ng9,nn9,dd9,nm9,ss9,rfl,hE9⟩)
theorem LargeP (h:Heap) (n:Bool) (a b:Sl) (x:Option Rat) (w:IsNum h n a b x):Fn0 T F.ref01_Large [.agg #[.bool n,a.val,b.val]] h fun v _=>v=.bool (!dec (x.isSome=true)):=by
 obtain ⟨l,m,v,rfl⟩:=w.ex
 refine (Large_ct h n a b l m v).mono fun v h' _ r=>?_
 rw [r,dec_congr (q:=(valOf n l m).isSome=true)]
 unfold valOf
 by_cases k:okR n l m <;> simp [k]
theorem QOf_p (h:Heap) (n:Bool) (a b:Sl) (q:Rat) (w:IsNum h n a b (some q)):Fn0 T F.ref01_Of [.agg #[.bool n,a.val,b.val]] h fun v h'=>∃s t:Sl,v=.agg #[.bool (sg q),s.val,t.val]∧IsQ h' s t q:=by
 obtain ⟨l,m,v,-,rfl⟩:=w.of
 exact QOf_ct h n a b l m v
set_option maxRecDepth 20000 in
theorem RLiteral_ct (h:Heap) (n:Bool) (a b:Sl) (x:Option Rat) (w:IsNum h n a b x):Fn0 T F.ref04_Literal [.agg #[.bool n,a.val,b.val]] h fun v h'=>ResT h' v (litX x):=by
 have c1:=fun h w=>LargeP h n a b x w
 cases x with
 | none=>
  refine fn0_of_codeI ok D.ref04_Literal rfl ?_
  conv=>whnf
  repeat ((first | refine opsI.step ?_ | refine codeI.step ?_);conv=>whnf)
  repeat' first | ((first | (show CallN _ _ _ _ _ _;(refine CallN.fn rfl (c1 _ (by assumption)) (fun v h' hl2 hr=>?_);rw [dec_false (by simp)] at hr;subst hr)) | ((first | refine opsI.step ?_ | refine codeI.step ?_)) | intro (_:Nat) | (show LdN _ _ _ _ _;first | refine LdN.own 0 rfl rfl ?_ | refine LdN.own 1 rfl rfl ?_) | refine Sto.lit 0 rfl rfl rfl ?_) <;> (conv=>whnf))
  all_goals exact RetN.all ⟨_,rfl,VE.zero _⟩
 | some q=>
  have hf:=w.fits
  have z:=(sr_of hf).mono (l:=4294967296) (by decide)
  have zf:=fits_sz hf
  have c2:=fun h w=>QOf_p h n a b q w
  have c3:=fun h s t w=>rlit_ct h s t q w z zf
  refine fn0_of_codeI ok D.ref04_Literal rfl ?_
  conv=>whnf
  repeat ((first | refine opsI.step ?_ | refine codeI.step ?_);conv=>whnf)
  repeat' first | ((first | (show CallN _ _ _ _ _ _;first | (refine CallN.fn rfl (c1 _ (by assumption)) (fun v h' hl2 hr=>?_);rw [dec_true (by simp)] at hr;subst hr) | (refine CallN.fn rfl (c2 _ (by (iterate 30 (try first | assumption | refine IsNum.mono ?_ (by assumption)));first | done | assumption)) (fun v h' hl2 hr=>?_);obtain ⟨s1,t1,rfl,hq⟩:=hr) | (refine CallN.fn rfl (c3 _ _ _ (by assumption)) (fun v h' hl2 hr=>?_);obtain ⟨op9,ar9,ng9,nn9,dd9,nm9,ss9,rfl,hE9⟩:=hr)) | ((first | refine opsI.step ?_ | refine codeI.step ?_)) | intro (_:Nat) | (show LdN _ _ _ _ _;first | refine LdN.own 0 rfl rfl ?_ | refine LdN.own 1 rfl rfl ?_) | refine Sto.lit 0 rfl rfl rfl ?_) <;> (conv=>whnf))
  all_goals exact RetN.all ⟨_,rfl,op9,ar9,ng9,nn9,dd9,nm9,ss9,rfl,hE9⟩
theorem stripV_get {bs:List (List Nat × Option Rat)} {j:Nat} {n:List Nat} {x:Option Rat} (h:bs[j]?=some (n,x)):(stripV bs).drop j=(n,x.getD 0)::(stripV bs).drop (j+1):=by
 have:(stripV bs)[j]?=some (n,x.getD 0):=by unfold stripV;rw [List.getElem?_map,h];rfl
 obtain ⟨h1,h2⟩:=List.getElem?_eq_some_iff.1 this
 rw [← h2]
 exact (List.drop_eq_getElem_cons h1)
theorem bind_some {q:Rat} (h:fits q):(some q).bind fitO=some q:=if_pos h
def RV (h:Heap) (v:Value) (x:Option Rat):Prop:=RQ h v x
set_option maxRecDepth 20000 in
set_option maxHeartbeats 4000000 in
theorem operate_ct (bs:List (List Nat × Option Rat)) (hbl:bs.length≤1099511627776) (hsm:SmlV bs) (hvf:∀b∈stripV bs,fits b.2) (sb:Sl) (t:Tr) (ih:∀u,szT u<szT t→∀(h:Heap) (vs:List Value) (d:Nat),IsV h sb bs→IsE h vs u→okT d u→Fn0 T F.ref04_value [.agg vs.toArray,sb.val] h fun v h'=>RQ h' v (valT (stripV bs) u))
  (h:Heap) (vs:List Value) (d:Nat) (wb:IsV h sb bs) (w:IsE h vs t) (hok:okT d t):Fn0 T F.ref04_operate [.agg vs.toArray,sb.val] h fun v h'=>∃x,RQ h' v x∧x.bind fitO=valT (stripV bs) t:=by
 have hsl:=wb.len
 obtain ⟨op,arg,neg,l,m,name,ks⟩:=t
 obtain ⟨a,b,s,rfl,ho,ha,hv,hb,hk⟩:=w.isK
 rw [okT] at hok
 obtain ⟨hd,hnb,hoks⟩:=hok
 have hks:=hnb.1
 have hkl:=hk.len
 obtain ⟨vals,hvals⟩:∃x,x=stripV bs:=⟨_,rfl⟩
 rw [← hvals] at hvf ⊢
 simp only [← hvals] at ih
 have hnum:op=1→IsNum h neg a b (some (ratOf neg l m)):=fun x=>by
  have hn:=hnb.2.2.2.2
  rw [if_pos x] at hn
  exact ⟨l,m,hv,(if_pos hn.1).symm⟩
 have hnf:op=1→fits (ratOf neg l m):=fun x=>(hnum x).fits
 have r1:op=1→valT vals (.mk op arg neg l m name ks)=some (ratOf neg l m):=fun x=>by rw [valT,if_pos x]
 have r2:op=2→valT vals (.mk op arg neg l m name ks)=findB vals name:=fun x=>by rw [valT,if_neg (by omega),if_pos x]
 have r3:op=3→valT vals (.mk op arg neg l m name ks)=none:=fun x=>by rw [valT,if_neg (by omega),if_neg (by omega),if_pos x]
 have r4:op≠1→op≠2→op≠3→valT vals (.mk op arg neg l m name ks)=combQ op arg (valTs vals ks):=fun x y z=>by rw [valT,if_neg x,if_neg y,if_neg z]
 obtain ⟨R,hR⟩:∃R,R=valT vals (.mk op arg neg l m name ks):=⟨_,rfl⟩
 obtain ⟨N,hN⟩:∃N,N=ratOf neg l m:=⟨_,rfl⟩
 rw [← hR] at r1 r2 r3 r4 ⊢
 rw [← hN] at r1 hnum hnf
 clear hR hN
 by_cases o2:op=2
 ·replace r2:=r2 o2
  clear r1 r3 r4 hnum hnf ih
  refine fn0_of_codeI ok D.ref04_operate rfl ?_
  conv=>whnf
  repeat ((first | refine opsI.step ?_ | refine codeI.step ?_);conv=>whnf)
  repeat' first | ((first | ((first | refine opsI.step ?_ | refine codeI.step ?_)) | intro (_:Nat) | refine Ld.own 1 rfl rfl ?_) <;> (conv=>whnf)) | (refine cnd_eq (fun _=>?_) (fun _=>?_) <;> first | (exfalso;omega) | (conv=>whnf))
  refine LoopN.keepL (fun r ρ hx=>∃j:Nat,r=bs.length-j∧j≤bs.length∧rd ρ 6=.int .i64 j∧Hq (R=findB (vals.drop j) name)) bs.length ⟨0,rfl,Nat.zero_le _,rfl,⟨r2⟩⟩ ?_
  conv=>whnf
  repeat intro _
  rename_i r hx hle hI
  obtain ⟨j,rfl,hj,e6,hq⟩:=hI
  conv at e6=>lhs;whnf
  subst e6
  by_cases hjl:j=bs.length
  ·subst hjl
   have hq:=hq.out
   rw [hvals,List.drop_eq_nil_of_le (by unfold stripV;rw [List.length_map];exact Nat.le_refl _)] at hq
   conv=>whnf
   repeat ((first | refine opsI.step ?_ | refine codeI.step ?_);conv=>whnf)
   repeat' first | ((first | (show LdN _ _ _ _ _;refine LdN.ownAt 0 rfl rfl ?_) | ((first | refine opsI.step ?_ | refine codeI.step ?_)) | refine Sto.lit 0 rfl rfl rfl ?_) <;> (conv=>whnf)) | (refine cnd_lt (fun _=>?_) (fun _=>?_) <;> first | (exfalso;omega) | (conv=>whnf))
   all_goals exact RetN.all ⟨none,RQ.none _ false ⟨none,0,0⟩ ⟨none,0,0⟩,hq.symm⟩
  ·obtain ⟨⟨n,x⟩,hu⟩:∃x,bs[j]?=some x:=⟨_,List.getElem?_eq_getElem (by omega)⟩
   have wbx:=wb.mono hle
   have hnb':=wb.bytes hu
   obtain ⟨q,rfl⟩:∃q,x=some q:=Option.isSome_iff_exists.1 (hsm _ (List.mem_of_getElem? hu))
   have hdr:=stripV_get hu
   rw [← hvals] at hdr
   have hq:=hq.out
   rw [hdr,findB] at hq
   have q1:n=name→R=some q:=fun e=>hq.trans (if_pos e)
   have q2:n≠name→R=findB (vals.drop (j+1)) name:=fun e=>hq.trans (if_neg e)
   clear hdr hq r2 hvf
   have cq:=fun h n a b w=>QOf_p h n a b q w
   conv=>whnf
   repeat ((first | refine opsI.step ?_ | refine codeI.step ?_);conv=>whnf)
   repeat' first | ((first | (show DrawN _ _ _ _ _ _;refine DrawN.run (by decide +kernel) ?_) | (show LdN _ _ _ _ _;first | refine LdN.ownAt 0 rfl rfl ?_ | refine LdN.hasN [.bool ng,a2.val,b2.val] rfl (fun i v hv=>h2 _ _ i v (Heap.le_refl _) hv) ?_) | (show Idx _ _ _ _ _;refine Idx.valu wbx j n (some q) (by omega) hu (fun bl off ng a2 b2 hnn hE h1 h2=>?_)) | (show Ld _ _ _ _;first | refine Ld.of (h1 _ _ (Heap.le_refl _)) ?_ | refine Ld.own 1 rfl rfl ?_) | (show CallN _ _ _ _ _ _;(refine CallN.fn rfl (cq _ _ _ _ (by assumption)) (fun v h' hl2 hr=>?_);obtain ⟨s1,t1,rfl,hq1⟩:=hr)) | ((first | refine opsI.step ?_ | refine codeI.step ?_)) | refine WrapN.i64 (by omega) (by omega) ?_ | refine Sto.lit 0 rfl rfl rfl ?_) <;> (conv=>whnf)) | (show cnd _ _ _;first | (refine cnd_txt hnb' hb (fun _=>?_) (fun _=>?_) <;> (conv=>whnf)) | (refine cnd_lt (fun _=>?_) (fun _=>?_) <;> first | (exfalso;omega) | (conv=>whnf)))
   all_goals first
    | (have fq:fits q:=IsNum.fits (by assumption)
       rw [q1 (by assumption)]
       exact RetN.all ⟨some q,RQ.some (by assumption) ((sr_of fq).mono (by decide)),bind_some fq⟩)
    | exact ⟨rfl,bs.length-(j+1),by omega,(by assumption),rfl,j+1,rfl,by omega,vi (by omega),⟨q2 (by assumption)⟩⟩
 clear r2
 by_cases o15:op=15
 ·obtain ⟨k0,k1,k2,rfl⟩:=len3 (by rw [← o15];exact hks)
  replace r4:=r4 (by omega) (by omega) (by omega)
  rw [valTs,valTs,valTs,valTs] at r4
  replace r4:R=(valT vals k0).bind fun c=>if 0≤c then valT vals k1 else valT vals k2:=r4
  have o0:=okTs_get hoks (j:=0) rfl
  have o1:=okTs_get hoks (j:=1) rfl
  have o2':=okTs_get hoks (j:=2) rfl
  have i0:=fun h vs wb w=>ih k0 (szT_kid (j:=0) rfl) h vs (d+1) wb w o0
  have i1:=fun h vs wb w=>ih k1 (szT_kid (j:=1) rfl) h vs (d+1) wb w o1
  have i2:=fun h vs wb w=>ih k2 (szT_kid (j:=2) rfl) h vs (d+1) wb w o2'
  have g0:valT vals k0=none→R=none:=fun x=>by rw [r4,x];rfl
  have g1:∀c,valT vals k0=some c→0≤signQ c→R=valT vals k1:=fun c x y=>by
   rw [r4,x]
   exact if_pos (by have:=le_sign c;rw [Vc.le_true' y] at this;by_cases z:0≤c;exact z;rw [dec_false z] at this;cases this)
  have g2:∀c,valT vals k0=some c→¬0≤signQ c→R=valT vals k2:=fun c x y=>by
   rw [r4,x]
   exact if_neg fun z=>by have:=le_sign c;rw [dec_true z,Vc.le_false' (by omega)] at this;cases this
  have f1:=fitO_bind fun q=>valT_fits hvf k1 (d+1) o1 q
  have f2:=fitO_bind fun q=>valT_fits hvf k2 (d+1) o2' q
  clear r1 r3 r4 hnum hnf ih
  obtain ⟨V0,h0⟩:∃V,V=valT vals k0:=⟨_,rfl⟩
  obtain ⟨V1,h1⟩:∃V,V=valT vals k1:=⟨_,rfl⟩
  obtain ⟨V2,h2⟩:∃V,V=valT vals k2:=⟨_,rfl⟩
  simp only [← h0] at i0 g0 g1 g2
  simp only [← h1] at i1 g1 f1
  simp only [← h2] at i2 g2 f2
  clear h0 h1 h2
  simp only [List.length_cons,List.length_nil] at hkl
  refine fn0_of_codeI ok D.ref04_operate rfl ?_
  conv=>whnf
  repeat ((first | refine opsI.step ?_ | refine codeI.step ?_);conv=>whnf)
  repeat' first | ((first | (show LdN _ _ _ _ _;first | refine LdN.ownAt 0 rfl rfl ?_ | refine LdN.ownAt 1 rfl rfl ?_) | (show Idx _ _ _ _ _;first | (refine Idx.kid (hk.mono (by (iterate 30 (try first | assumption | exact Heap.le_refl _));first | done | assumption)) 0 k0 (by omega) rfl (fun ad op3 arg3 neg3 a3 b3 name3 s3 hE hld=>?_)) | refine Idx.kid (hk.mono (by assumption)) 1 k1 (by omega) rfl (fun ad op3 arg3 neg3 a3 b3 name3 s3 hE hld=>?_) | refine Idx.kid (hk.mono (by assumption)) 2 k2 (by omega) rfl (fun ad op3 arg3 neg3 a3 b3 name3 s3 hE hld=>?_)) | (refine hld _ _ _ (by (iterate 30 (try first | assumption | exact Heap.le_refl _));first | done | assumption) ?_) | ((first | refine opsI.step ?_ | refine codeI.step ?_)) | intro (_:Nat) | (show CallN _ _ _ _ _ _;first | (refine CallN.fn rfl (i0 _ _ (wb.mono (by (iterate 30 (try first | assumption | exact Heap.le_refl _));first | done | assumption)) (by (iterate 30 (try first | assumption | refine IsE.mono ?_ (by assumption)));first | done | assumption)) (fun v h' hl hr=>?_);obtain ⟨n1,a1,b1,bb1,rfl,t1,t2⟩:=hr) | ((first | refine CallN.fn rfl (i1 _ _ (wb.mono (by assumption)) (by (iterate 30 (try first | assumption | refine IsE.mono ?_ (by assumption)));first | done | assumption)) (fun v h' hl hr=>?_) | refine CallN.fn rfl (i2 _ _ (wb.mono (by assumption)) (by assumption)) (fun v h' hl hr=>?_));obtain ⟨n2,a2,b2,bb2,rfl,u1,u2⟩:=hr) | (obtain ⟨c,t3,rfl,t4,t5⟩:=t1 rfl;refine CallN.quiet rfl (Sgn_q _ _ _ c t4 (t5.mono (by decide))) ?_)) | (show Ld _ _ _ _;first | refine Ld.own 1 rfl rfl ?_ | refine Ld.own 2 rfl rfl ?_) | (show Sto _ _ _ _;first | refine Sto.lit 0 rfl rfl rfl ?_ | refine Sto.lit 1 rfl rfl rfl ?_)) <;> (conv=>whnf)) | (show cnd _ _ _;first | (refine cnd_le (fun _=>?_) (fun _=>?_) <;> first | (exfalso;omega) | (conv=>whnf)) | (refine cnd_eq (fun _=>?_) (fun _=>?_) <;> first | (exfalso;omega) | (conv=>whnf)) | (refine cnd_not ?_) | (refine cnd_bool (fun hb=>?_) (fun hb=>?_) <;> (first | cases hb | subst hb) <;> (conv=>whnf)))
  all_goals first
   | (rw [g0 (t2 rfl)];exact RetN.all ⟨none,RQ.none _ false ⟨none,0,0⟩ ⟨none,0,0⟩,rfl⟩)
   | (rw [g1 c t3 (by omega)];exact RetN.all ⟨V1,⟨n2,a2,b2,bb2,rfl,u1,u2⟩,f1⟩)
   | (rw [g2 c t3 (by omega)];exact RetN.all ⟨V2,⟨n2,a2,b2,bb2,rfl,u1,u2⟩,f2⟩)
 ·have hk2:op≠1→op≠2→op≠3→1≤ks.length∧ks.length≤2:=fun x y z=>by
   have h:=kidsN_le op
   have:kidsN op≠3:=fun e=>o15 (ops3 e)
   have h0:kidsN op≠0:=fun e=>by
    unfold kidsN at e
    repeat' split at e
    all_goals omega
   omega
  by_cases oo:op=1∨op=3
  ·clear r4 ih
   refine fn0_of_codeI ok D.ref04_operate rfl ?_
   conv=>whnf
   repeat ((first | refine opsI.step ?_ | refine codeI.step ?_);conv=>whnf)
   repeat' first | ((first | (show LdN _ _ _ _ _;first | refine LdN.ownAt 0 rfl rfl ?_ | refine LdN.ownAt 1 rfl rfl ?_) | (show CallN _ _ _ _ _ _;(refine CallN.fn rfl (QOf_p _ neg a b N (hnum (by omega))) (fun v h' hl2 hr=>?_);obtain ⟨s1,t1,rfl,hq1⟩:=hr)) | ((first | refine opsI.step ?_ | refine codeI.step ?_)) | intro (_:Nat) | refine Ld.own 1 rfl rfl ?_ | refine Sto.lit 0 rfl rfl rfl ?_) <;> (conv=>whnf)) | (refine cnd_eq (fun _=>?_) (fun _=>?_) <;> first | (exfalso;omega) | (conv=>whnf))
   all_goals first
    | (rw [r1 (by assumption)];exact RetN.all ⟨some N,RQ.some (by assumption) ((sr_of (hnf (by assumption))).mono (by decide)),bind_some (hnf (by assumption))⟩)
    | (rw [r3 (by omega)];exact RetN.all ⟨none,RQ.none _ false ⟨none,0,0⟩ ⟨none,0,0⟩,rfl⟩)
  replace r4:=r4 (by omega) o2 (by omega)
  have hk2:=hk2 (by omega) o2 (by omega)
  clear r1 r3 hnum hnf
  rcases (by omega:ks.length=1∨ks.length=2) with e1 | e1
  ·obtain ⟨k0,rfl⟩:∃k0,ks=[k0]:=by
    match ks,e1 with
    | [k0],_=>exact ⟨k0,rfl⟩
   have hun:=ops1 (op:=op) (arg:=arg) (by omega) hnb.2.1 hnb.2.2.1
   have o0:=okTs_get hoks (j:=0) rfl
   have i0:=fun h vs wb w=>ih k0 (szT_kid (j:=0) rfl) h vs (d+1) wb w o0
   have f0:=fun q=>valT_fits hvf k0 (d+1) o0 q
   rw [valTs,valTs] at r4
   have g0:valT vals k0=none→R=none:=fun x=>by rw [r4,x];rfl
   have g1:∀q,valT vals k0=some q→unQ op arg q=R:=fun q x=>by rw [r4,x];rfl
   clear r4 ih
   obtain ⟨V0,h0⟩:∃V,V=valT vals k0:=⟨_,rfl⟩
   simp only [← h0] at i0 g0 g1 f0
   clear h0
   simp only [List.length_cons,List.length_nil] at hkl
   refine fn0_of_codeI ok D.ref04_operate rfl ?_
   conv=>whnf
   repeat ((first | refine opsI.step ?_ | refine codeI.step ?_);conv=>whnf)
   repeat' first | ((first | (show LdN _ _ _ _ _;first | refine LdN.ownAt 0 rfl rfl ?_ | refine LdN.ownAt 1 rfl rfl ?_ | refine LdN.ownAt 2 rfl rfl ?_) | (show Idx _ _ _ _ _;(refine Idx.kid (hk.mono (by (iterate 30 (try first | assumption | exact Heap.le_refl _));first | done | assumption)) 0 k0 (by omega) rfl (fun ad op3 arg3 neg3 a3 b3 name3 s3 hE hld=>?_))) | (refine hld _ _ _ (by (iterate 30 (try first | assumption | exact Heap.le_refl _));first | done | assumption) ?_) | ((first | refine opsI.step ?_ | refine codeI.step ?_)) | intro (_:Nat) | (show CallN _ _ _ _ _ _;first | (refine CallN.fn rfl (i0 _ _ (wb.mono (by (iterate 30 (try first | assumption | exact Heap.le_refl _));first | done | assumption)) (by assumption)) (fun v h' hl hr=>?_);obtain ⟨n1,a1,b1,bb1,rfl,t1,t2⟩:=hr) | (obtain ⟨c,t3,rfl,t4,t5⟩:=t1 rfl;refine CallN.fn rfl (alone_ct c (f0 c t3) _ op arg neg a b s name _ _ hun (by assumption)) (fun v h' hl hr=>?_);obtain ⟨x,hx,ex⟩:=hr;obtain ⟨n2,a2,b2,bb2,rfl,u1,u2⟩:=hx)) | (show Ld _ _ _ _;first | refine Ld.own 1 rfl rfl ?_ | refine Ld.own 2 rfl rfl ?_) | (show Sto _ _ _ _;first | refine Sto.lit 0 rfl rfl rfl ?_ | refine Sto.lit 1 rfl rfl rfl ?_)) <;> (conv=>whnf)) | (show cnd _ _ _;first | (refine cnd_eq (fun _=>?_) (fun _=>?_) <;> first | (exfalso;omega) | (conv=>whnf)) | (refine cnd_not ?_) | (refine cnd_bool (fun hb=>?_) (fun hb=>?_) <;> (first | cases hb | subst hb) <;> (conv=>whnf)))
   all_goals first
    | (rw [g0 (t2 rfl)];exact RetN.all ⟨none,RQ.none _ false ⟨none,0,0⟩ ⟨none,0,0⟩,rfl⟩)
    | (rw [← g1 c t3];exact RetN.all ⟨x,⟨_,_,_,_,rfl,u1,u2⟩,ex⟩)
  ·obtain ⟨k0,k1,rfl⟩:∃k0 k1,ks=[k0,k1]:=by
    match ks,e1 with
    | [k0,k1],_=>exact ⟨k0,k1,rfl⟩
   have hbi:=ops2 (op:=op) (by omega)
   have o0:=okTs_get hoks (j:=0) rfl
   have o1:=okTs_get hoks (j:=1) rfl
   have i0:=fun h vs wb w=>ih k0 (szT_kid (j:=0) rfl) h vs (d+1) wb w o0
   have i1:=fun h vs wb w=>ih k1 (szT_kid (j:=1) rfl) h vs (d+1) wb w o1
   have f0:=fun q=>valT_fits hvf k0 (d+1) o0 q
   have f1:=fun q=>valT_fits hvf k1 (d+1) o1 q
   rw [valTs,valTs,valTs] at r4
   have g0:valT vals k0=none→R=none:=fun x=>by rw [r4,x];rfl
   have g1:valT vals k1=none→R=none:=fun x=>by rw [r4,x];cases valT vals k0 <;> rfl
   have g2:∀p q,valT vals k0=some p→valT vals k1=some q→biQ op p q=R:=fun p q x y=>by rw [r4,x,y];rfl
   clear r4 ih
   obtain ⟨V0,h0⟩:∃V,V=valT vals k0:=⟨_,rfl⟩
   obtain ⟨V1,h1⟩:∃V,V=valT vals k1:=⟨_,rfl⟩
   simp only [← h0] at i0 g0 g2 f0
   simp only [← h1] at i1 g1 g2 f1
   clear h0 h1
   simp only [List.length_cons,List.length_nil] at hkl
   refine fn0_of_codeI ok D.ref04_operate rfl ?_
   conv=>whnf
   repeat ((first | refine opsI.step ?_ | refine codeI.step ?_);conv=>whnf)
   repeat' first | ((first | (show LdN _ _ _ _ _;first | refine LdN.ownAt 0 rfl rfl ?_ | refine LdN.ownAt 1 rfl rfl ?_ | refine LdN.ownAt 2 rfl rfl ?_) | (show Idx _ _ _ _ _;first | (refine Idx.kid (hk.mono (by (iterate 30 (try first | assumption | exact Heap.le_refl _));first | done | assumption)) 0 k0 (by omega) rfl (fun ad op3 arg3 neg3 a3 b3 name3 s3 hE hld=>?_)) | refine Idx.kid (hk.mono (by assumption)) 1 k1 (by omega) rfl (fun ad op3 arg3 neg3 a3 b3 name3 s3 hE hld=>?_)) | (refine hld _ _ _ (by (iterate 30 (try first | assumption | exact Heap.le_refl _));first | done | assumption) ?_) | ((first | refine opsI.step ?_ | refine codeI.step ?_)) | intro (_:Nat) | (show CallN _ _ _ _ _ _;first | (refine CallN.fn rfl (i0 _ _ (wb.mono (by (iterate 30 (try first | assumption | exact Heap.le_refl _));first | done | assumption)) (by (iterate 30 (try first | assumption | refine IsE.mono ?_ (by assumption)));first | done | assumption)) (fun v h' hl hr=>?_);obtain ⟨n1,a1,b1,bb1,rfl,t1,t2⟩:=hr) | (obtain ⟨c,t3,rfl,t4,t5⟩:=t1 rfl;refine CallN.fn rfl (i1 _ _ (wb.mono (by assumption)) (by assumption)) (fun v h' hl hr=>?_);obtain ⟨n2,a2,b2,bb2,rfl,u1,u2⟩:=hr) | (obtain ⟨e,u3,rfl,u4,u5⟩:=u1 rfl;refine CallN.fn rfl (pair_ct c e (f0 c t3) (f1 e u3) _ op _ _ _ _ hbi (by (iterate 30 (try first | assumption | refine IsQ.mono ?_ (by assumption)));first | done | assumption) (by assumption)) (fun v h' hl hr=>?_);obtain ⟨x,hx,ex⟩:=hr;obtain ⟨n6,a6,b6,bb6,rfl,x1,x2⟩:=hx)) | (show Ld _ _ _ _;first | refine Ld.own 1 rfl rfl ?_ | refine Ld.own 2 rfl rfl ?_ | refine Ld.own 3 rfl rfl ?_) | (show Sto _ _ _ _;first | refine Sto.lit 0 rfl rfl rfl ?_ | refine Sto.lit 1 rfl rfl rfl ?_ | refine Sto.lit 2 rfl rfl rfl ?_)) <;> (conv=>whnf)) | (show cnd _ _ _;first | (refine cnd_eq (fun _=>?_) (fun _=>?_) <;> first | (exfalso;omega) | (conv=>whnf)) | (refine cnd_not ?_) | (refine cnd_bool (fun hb=>?_) (fun hb=>?_) <;> (first | cases hb | subst hb) <;> (conv=>whnf)))
   all_goals first
    | (rw [g0 (t2 rfl)];exact RetN.all ⟨none,RQ.none _ false ⟨none,0,0⟩ ⟨none,0,0⟩,rfl⟩)
    | (rw [g1 (u2 rfl)];exact RetN.all ⟨none,RQ.none _ false ⟨none,0,0⟩ ⟨none,0,0⟩,rfl⟩)
    | (rw [← g2 c e t3 u3];exact RetN.all ⟨x,⟨_,_,_,_,rfl,x1,x2⟩,ex⟩)
set_option maxRecDepth 20000 in
set_option maxHeartbeats 1000000 in
theorem Rvalue_ct (bs:List (List Nat × Option Rat)) (hbl:bs.length≤1099511627776) (hsm:SmlV bs) (hvf:∀b∈stripV bs,fits b.2) (sb:Sl):∀t:Tr,∀(h:Heap) (vs:List Value) (d:Nat),IsV h sb bs→IsE h vs t→okT d t→Fn0 T F.ref04_value [.agg vs.toArray,sb.val] h fun v h'=>RQ h' v (valT (stripV bs) t):=by
 refine tree_ind fun t ih=>?_
 intro h vs d wb w hok
 have c1:=fun h vs wb w=>operate_ct bs hbl hsm hvf sb t ih h vs d wb w hok
 obtain ⟨⟨op,arg,neg,l,m,name,ks⟩,ht⟩:∃x,x=t:=⟨_,rfl⟩
 obtain ⟨a,b,s,hvs,-⟩:=(ht.symm▸w:IsE h vs (.mk op arg neg l m name ks)).isK
 subst hvs
 obtain ⟨R,hR⟩:∃R,R=valT (stripV bs) t:=⟨_,rfl⟩
 simp only [← hR] at c1
 rw [← hR]
 clear hR
 have fo1:∀q,fits q→fitO q=some q:=fun q x=>if_pos x
 have fo2:∀q,¬fits q→fitO q=none:=fun q x=>if_neg x
 refine fn0_of_codeI ok D.ref04_value rfl ?_
 conv=>whnf
 repeat ((first | refine opsI.step ?_ | refine codeI.step ?_);conv=>whnf)
 repeat' first | ((first | (show LdN _ _ _ _ _;first | refine LdN.ownAt 0 rfl rfl ?_ | refine LdN.ownAt 1 rfl rfl ?_) | (show CallN _ _ _ _ _ _;first | (refine CallN.fn rfl (c1 _ _ (wb.mono (by (iterate 30 (try first | assumption | exact Heap.le_refl _));first | done | assumption)) (by assumption)) (fun v h' hl hr=>?_);obtain ⟨x,hx,rfl⟩:=hr;obtain ⟨n1,a1,b1,bb1,rfl,t1,t2⟩:=hx) | (obtain ⟨c,rfl,rfl,t4,t5⟩:=t1 rfl;refine CallN.quiet rfl (Over_q _ _ _ c t4 t5) ?_)) | ((first | refine opsI.step ?_ | refine codeI.step ?_)) | intro (_:Nat) | (show Sto _ _ _ _;first | refine Sto.lit 0 rfl rfl rfl ?_ | refine Sto.lit 1 rfl rfl rfl ?_)) <;> (conv=>whnf)) | (show cnd _ _ _;first | (refine cnd_not ?_) | (refine cnd_dec (fun _=>?_) (fun _=>?_) <;> first | (exfalso;omega) | (conv=>whnf)) | (refine cnd_bool (fun hb=>?_) (fun hb=>?_) <;> (first | cases hb | subst hb) <;> (conv=>whnf)))
 all_goals first
  | (rw [t2 rfl];exact RetN.all (RQ.none _ false ⟨none,0,0⟩ ⟨none,0,0⟩))
  | (rw [show (some c).bind fitO=none from fo2 c (by assumption)];exact RetN.all (RQ.none _ false ⟨none,0,0⟩ ⟨none,0,0⟩))
  | (rw [show (some c).bind fitO=some c from fo1 c (by assumption)];exact RetN.all (RQ.some t4 t5))
def errV (bs:List (List Nat × Option Rat)):Int:=if ¬NmsB bs then 41 else if ¬SmlV bs then 1 else 0
set_option maxRecDepth 20000 in
set_option maxHeartbeats 4000000 in
theorem values_ct (bs:List (List Nat × Option Rat)) (hbl:bs.length≤1099511627776) (sb:Sl) (h:Heap) (wb:IsV h sb bs):Fn0 T F.ref04_values [sb.val] h fun v h'=>v=.int .i64 (errV bs):=by
 have c2:=fun h n hn=>RIsName_any h n hn
 have hsl:=wb.len
 have r2:∀(j:Nat) n u,bs[j]?=some (n,u)→¬IsNm n→errV bs=41:=fun j n u hj x=>if_pos fun y=>x (y.1 _ (List.mem_of_getElem? hj))
 have r3:∀(i j:Nat) n n' u u',i<j→bs[i]?=some (n',u')→bs[j]?=some (n,u)→n'=n→errV bs=41:=fun i j n n' u u' hij hi hj e=>if_pos fun y=>by
  have h1:(bs.map (·.1))[i]?=some n':=by rw [List.getElem?_map,hi];rfl
  have h2:(bs.map (·.1))[j]?=some n:=by rw [List.getElem?_map,hj];rfl
  obtain ⟨g1,k1⟩:=List.getElem?_eq_some_iff.1 h1
  obtain ⟨g2,k2⟩:=List.getElem?_eq_some_iff.1 h2
  have:=(List.nodup_iff_pairwise_ne.1 y.2)
  have:=List.pairwise_iff_getElem.1 this i j g1 g2 hij
  rw [k1,k2] at this
  exact this e
 have r4:NmsB bs→∀(j:Nat) n u,bs[j]?=some (n,u)→¬u.isSome=true→errV bs=1:=fun x j n u hj y=>(if_neg fun z=>z x).trans (if_pos fun z=>y (z _ (List.mem_of_getElem? hj)))
 have r5:NmsB bs→SmlV bs→errV bs=0:=fun x y=>(if_neg fun z=>z x).trans (if_neg fun z=>z y)
 obtain ⟨R,hR⟩:∃R,R=errV bs:=⟨_,rfl⟩
 rw [← hR] at r5 ⊢
 simp only [← hR] at r2 r3 r4
 clear hR
 refine fn0_of_codeI ok D.ref04_values rfl ?_
 conv=>whnf
 repeat ((first | refine opsI.step ?_ | refine codeI.step ?_);conv=>whnf)
 skip
 refine LoopN.keepL (fun r ρ hx=>∃i:Nat,r=bs.length-i∧i≤bs.length∧rd ρ 3=.int .i64 i∧Hq (NmsB (bs.take i))) bs.length ⟨0,rfl,Nat.zero_le _,rfl,⟨NmsB_nil⟩⟩ ?_
 conv=>whnf
 repeat intro _
 rename_i r2' hy hle3 hI
 obtain ⟨i,rfl,hi,e3,hq⟩:=hI
 conv at e3=>lhs;whnf
 subst e3
 by_cases hil:i=bs.length
 ·subst hil
  have hqn:=hq.out
  rw [List.take_length] at hqn
  replace r4:=r4 hqn
  replace r5:=r5 hqn
  conv=>whnf
  repeat ((first | refine opsI.step ?_ | refine codeI.step ?_);conv=>whnf)
  repeat' first | ((first | ((first | refine opsI.step ?_ | refine codeI.step ?_))) <;> (conv=>whnf)) | (refine cnd_lt (fun _=>?_) (fun _=>?_) <;> first | (exfalso;omega) | (conv=>whnf))
  refine LoopN.keepL (fun r ρ hx=>∃i:Nat,r=bs.length-i∧i≤bs.length∧rd ρ 5=.int .i64 i∧Hq (SmlV (bs.take i))) bs.length ⟨0,rfl,Nat.zero_le _,rfl,⟨SmlV_nil⟩⟩ ?_
  conv=>whnf
  repeat intro _
  rename_i r5' hz hle5 hI
  obtain ⟨k,rfl,hk,e5,hq5⟩:=hI
  conv at e5=>lhs;whnf
  subst e5
  have hle6:=Heap.le_trans hle3 hle5
  by_cases hkl:k=bs.length
  ·subst hkl
   have hqs:=hq5.out
   rw [List.take_length] at hqs
   conv=>whnf
   repeat ((first | refine opsI.step ?_ | refine codeI.step ?_);conv=>whnf)
   repeat' first | ((first | ((first | refine opsI.step ?_ | refine codeI.step ?_))) <;> (conv=>whnf)) | (refine cnd_lt (fun _=>?_) (fun _=>?_) <;> first | (exfalso;omega) | (conv=>whnf))
   all_goals exact RetN.all (by rw [r5 hqs])
  ·obtain ⟨⟨n,x⟩,hu⟩:∃x,bs[k]?=some x:=⟨_,List.getElem?_eq_getElem (by omega)⟩
   have wbx:=wb.mono hle6
   have htk:=take_snoc hu
   replace r4:=r4 k n x hu
   have cl:=fun h n a b w=>LargeP h n a b x w
   clear r2 r3 r5
   conv=>whnf
   repeat ((first | refine opsI.step ?_ | refine codeI.step ?_);conv=>whnf)
   repeat' first | ((first | (show Idx _ _ _ _ _;refine Idx.valu wbx k n x (by omega) hu (fun bl off ng a2 b2 hnn hE h1 h2=>?_)) | (show LdN _ _ _ _ _;refine LdN.hasN [.bool ng,a2.val,b2.val] rfl (fun i v hv=>h2 _ _ i v (Heap.le_refl _) hv) ?_) | (show CallN _ _ _ _ _ _;(refine CallN.fn rfl (cl _ _ _ _ (by assumption)) (fun v h' hl2 hr=>?_);subst hr)) | ((first | refine opsI.step ?_ | refine codeI.step ?_)) | refine WrapN.i64 (by omega) (by omega) ?_) <;> (conv=>whnf)) | (show cnd _ _ _;first | (refine cnd_lt (fun _=>?_) (fun _=>?_) <;> first | (exfalso;omega) | (conv=>whnf)) | (refine cnd_not ?_) | (refine cnd_dec (fun _=>?_) (fun _=>?_) <;> first | (exfalso;omega) | (conv=>whnf)))
   all_goals first
    | (rw [r4 (by assumption)];exact RetN.all rfl)
    | exact ⟨rfl,bs.length-(k+1),by omega,(by (iterate 30 (try first | assumption | refine Heap.le_trans ?_ (by assumption)));first | done | assumption),rfl,k+1,rfl,by omega,vi (by omega),⟨by rw [htk];exact SmlV_snoc.2 ⟨hq5.out,by assumption⟩⟩⟩
 ·obtain ⟨⟨n,u⟩,hu⟩:∃x,bs[i]?=some x:=⟨_,List.getElem?_eq_getElem (by omega)⟩
  have wbx:=wb.mono hle3
  have hnb:=wb.bytes hu
  have c2:=fun h=>c2 h n hnb
  replace r2:=r2 i n u hu
  have r3:=fun k n' u' a b=>r3 k i n n' u u' a b hu
  have htk:=take_snoc hu
  clear r4 r5
  conv=>whnf
  repeat ((first | refine opsI.step ?_ | refine codeI.step ?_);conv=>whnf)
  repeat' first | ((first | (show Idx _ _ _ _ _;refine Idx.valu wbx i n u (by omega) hu (fun bl off ng a2 b2 hnn hE h1 h2=>?_)) | (show Ld _ _ _ _;refine Ld.of (h1 _ _ (Heap.le_refl _)) ?_) | (show CallN _ _ _ _ _ _;(refine CallN.fn rfl (c2 _) (fun v h' hl2 hr=>?_);subst hr)) | ((first | refine opsI.step ?_ | refine codeI.step ?_))) <;> (conv=>whnf)) | (show cnd _ _ _;first | (refine cnd_lt (fun _=>?_) (fun _=>?_) <;> first | (exfalso;omega) | (conv=>whnf)) | (refine cnd_not ?_) | (refine cnd_dec (fun _=>?_) (fun _=>?_) <;> first | (exfalso;omega) | (conv=>whnf)))
  all_goals try (rw [r2 (by assumption)];exact RetN.all rfl)
  have hnm:IsNm n:=by assumption
  refine LoopN.keepL (fun r ρ hx=>∃k:Nat,r=i-k∧k≤i∧rd ρ 4=.int .i64 k∧Hq (∀(q:Nat) n' u',q<k→bs[q]?=some (n',u')→n'≠n)) i ⟨0,rfl,Nat.zero_le _,rfl,⟨fun q n' u' x=>absurd x (Nat.not_lt_zero _)⟩⟩ ?_
  conv=>whnf
  repeat intro _
  rename_i r3' hz hle4 hI
  obtain ⟨k,rfl,hk,e4,hq2⟩:=hI
  conv at e4=>lhs;whnf
  subst e4
  have hle5:=Heap.le_trans (Heap.le_trans hle3 hl2) hle4
  by_cases hkl:k=i
  ·subst hkl
   have hn2:NmsB (bs.take (k+1)):=by
    rw [htk]
    refine NmsB_snoc.2 ⟨hq.out,hnm,fun x=>?_⟩
    obtain ⟨⟨n',u'⟩,hm,e⟩:=List.mem_map.1 x
    obtain ⟨q,hq1,hq3⟩:=List.mem_take_iff_getElem.1 hm
    exact hq2.out q n' u' (by omega) (by rw [List.getElem?_eq_getElem (by omega),hq3]) e
   conv=>whnf
   repeat ((first | refine opsI.step ?_ | refine codeI.step ?_);conv=>whnf)
   repeat' first | ((first | ((first | refine opsI.step ?_ | refine codeI.step ?_)) | refine WrapN.i64 (by omega) (by omega) ?_) <;> (conv=>whnf)) | (refine cnd_lt (fun _=>?_) (fun _=>?_) <;> first | (exfalso;omega) | (conv=>whnf))
   all_goals exact ⟨rfl,bs.length-(k+1),by omega,hle5,rfl,k+1,rfl,by omega,vi (by omega),⟨hn2⟩⟩
  ·obtain ⟨⟨n',u'⟩,hu'⟩:∃x,bs[k]?=some x:=⟨_,List.getElem?_eq_getElem (by omega)⟩
   have wbz:=wb.mono hle5
   have hnb':=wb.bytes hu'
   replace r3:=r3 k n' u' (by omega) hu'
   conv=>whnf
   repeat ((first | refine opsI.step ?_ | refine codeI.step ?_);conv=>whnf)
   repeat' first | ((first | (show DrawN _ _ _ _ _ _;refine DrawN.run (by decide +kernel) ?_) | (show Idx _ _ _ _ _;first | refine Idx.valu wbz k n' u' (by omega) hu' (fun blk offk ngk a2k b2k hnnk hEk h1k h2k=>?_) | refine Idx.valu wbz i n u (by omega) hu (fun blz offz ngz a2z b2z hnnz hEz h1z h2z=>?_)) | (show Ld _ _ _ _;first | refine Ld.of (h1k _ _ (Heap.le_refl _)) ?_ | refine Ld.of (h1z _ _ (Heap.le_refl _)) ?_) | ((first | refine opsI.step ?_ | refine codeI.step ?_)) | refine WrapN.i64 (by omega) (by omega) ?_) <;> (conv=>whnf)) | (show cnd _ _ _;first | (refine cnd_txt hnb' hnb (fun _=>?_) (fun _=>?_) <;> (conv=>whnf)) | (refine cnd_lt (fun _=>?_) (fun _=>?_) <;> first | (exfalso;omega) | (conv=>whnf)))
   ·rw [r3 (by assumption)];exact RetN.all rfl
   ·have hne:n'≠n:=by assumption
    exact ⟨rfl,i-(k+1),by omega,(by assumption),rfl,k+1,rfl,by omega,vi (by omega),⟨fun q a b x y=>by
      rcases Nat.lt_succ_iff_lt_or_eq.1 x with x | rfl
      ·exact hq2.out q a b x y
      ·rw [hu'] at y;cases y;exact hne⟩⟩
theorem strip_fits {h:Heap} {sb:Sl} {bs:List (List Nat × Option Rat)} (wb:IsV h sb bs):∀b∈stripV bs,fits b.2:=by
 intro b hb
 unfold stripV at hb
 obtain ⟨⟨n,x⟩,hm,rfl⟩:=List.mem_map.1 hb
 obtain ⟨j,hj,hjx⟩:=List.mem_iff_getElem.1 hm
 refine fits_getD (x:=x) fun q e=>?_
 subst e
 rcases wb.mem with e | ⟨bl,off,c,T,fz,e1,e2,e3⟩
 ·subst e;simp at hj
 ·obtain ⟨-,-,ng,a,b,-,w⟩:=IsVs.get e3 (by rw [List.getElem?_eq_getElem hj,hjx])
  exact w.fits
set_option maxRecDepth 20000 in
set_option maxHeartbeats 1000000 in
theorem RValue_ct (bs:List (List Nat × Option Rat)) (hbl:bs.length≤1099511627776) (sb:Sl) (t:Tr) (h:Heap) (vs:List Value) (wb:IsV h sb bs) (w:IsE h vs t):Fn0 T F.ref04_Value [.agg vs.toArray,sb.val] h fun v h'=>ResB h' v (valX bs t):=by
 have hvf:=strip_fits wb
 have c1:=fun h vs w=>RValid_ct t h vs w
 have c2:=fun h wb=>values_ct bs hbl sb h wb
 have c3:=fun h vs wb w (x:ValT t) (y:SmlV bs)=>Rvalue_ct bs hbl y hvf sb t h vs 1 wb w x.1
 have r1:¬ValT t→valX bs t=(0,false,40):=valX_node
 have r2:ValT t→errV bs≠0→valX bs t=(0,false,errV bs):=fun v x=>by
  by_cases n:NmsB bs
  ·by_cases s:SmlV bs
   ·exact absurd ((if_neg fun z=>z n).trans (if_neg fun z=>z s)) x
   ·rw [valX_size v n s];exact congrArg (fun e=>((0:Rat),false,e)) ((if_neg fun z=>z n).trans (if_pos s):errV bs=1).symm
  ·rw [valX_name v n];exact congrArg (fun e=>((0:Rat),false,e)) (if_pos n:errV bs=41).symm
 have r0:errV bs=0→NmsB bs∧SmlV bs:=fun x=>by
  by_cases n:NmsB bs
  ·by_cases s:SmlV bs
   ·exact ⟨n,s⟩
   ·exact absurd (((if_neg fun z=>z n).trans (if_pos s):errV bs=1).symm.trans x) (by decide)
  ·exact absurd ((if_pos n:errV bs=41).symm.trans x) (by decide)
 have r4:ValT t→errV bs=0→valT (stripV bs) t=none→valX bs t=(0,false,0):=fun x y u=>valX_none x (r0 y).1 (r0 y).2 u
 have r5:ValT t→errV bs=0→∀q,valT (stripV bs) t=some q→valX bs t=(q,true,0):=fun x y q u=>valX_some x (r0 y).1 (r0 y).2 u
 have r6:errV bs=0→SmlV bs:=fun x=>(r0 x).2
 clear r0
 obtain ⟨E,hE⟩:∃E,E=errV bs:=⟨_,rfl⟩
 obtain ⟨R,hR⟩:∃R,R=valX bs t:=⟨_,rfl⟩
 obtain ⟨V,hV⟩:∃R,R=valT (stripV bs) t:=⟨_,rfl⟩
 rw [← hR]
 simp only [← hR] at r1 r2 r4 r5
 simp only [← hE] at c2 r2 r4 r5 r6
 simp only [← hV] at c3 r4 r5
 clear hR hE hV
 obtain ⟨⟨op,arg,neg,l,m,name,ks⟩,ht⟩:∃x,x=t:=⟨_,rfl⟩
 obtain ⟨a,b,s,hvs,-⟩:=(ht.symm▸w:IsE h vs (.mk op arg neg l m name ks)).isK
 subst hvs
 refine fn0_of_codeI ok D.ref04_Value rfl ?_
 conv=>whnf
 repeat ((first | refine opsI.step ?_ | refine codeI.step ?_);conv=>whnf)
 repeat' first | ((first | (show LdN _ _ _ _ _;first | refine LdN.ownAt 0 rfl rfl ?_ | refine LdN.ownAt 1 rfl rfl ?_) | (show CallN _ _ _ _ _ _;first | (refine CallN.fn rfl (c1 _ _ (by assumption)) (fun v h' hl2 hr=>?_);subst hr) | (refine CallN.fn rfl (c2 _ (wb.mono (by assumption))) (fun v h' hl2 hr=>?_);subst hr) | (refine CallN.fn rfl (c3 _ _ (wb.mono (by (iterate 30 (try first | assumption | refine Heap.le_trans ?_ (by assumption)));first | done | assumption)) (by (iterate 30 (try first | assumption | refine IsE.mono ?_ (by assumption)));first | done | assumption) (by assumption) (r6 (by omega))) (fun v h' hl2 hr=>?_);obtain ⟨n1,a1,b1,bb1,rfl,t1,t2⟩:=hr) | (obtain ⟨c,t3,rfl,t4,t5⟩:=t1 rfl;refine CallN.fn rfl (Rat_ct _ _ _ c t4 t5) (fun v h' hl2 hr=>?_);obtain ⟨a2,b2,rfl,hq2⟩:=hr)) | ((first | refine opsI.step ?_ | refine codeI.step ?_)) | intro (_:Nat) | (show Sto _ _ _ _;first | refine Sto.lit 0 rfl rfl rfl ?_ | refine Sto.lit 1 rfl rfl rfl ?_)) <;> (conv=>whnf)) | (show cnd _ _ _;first | (refine cnd_eq (fun _=>?_) (fun _=>?_) <;> first | (exfalso;omega) | (conv=>whnf)) | (refine cnd_not ?_) | (refine cnd_dec (fun _=>?_) (fun _=>?_) <;> first | (exfalso;omega) | (conv=>whnf)) | (refine cnd_bool (fun hb=>?_) (fun hb=>?_) <;> (first | cases hb | subst hb) <;> (conv=>whnf)))
 all_goals first
  | (rw [r1 (by assumption)];exact RetN.all (ResB.err _ _))
  | (rw [r2 (by assumption) (by omega)];exact RetN.all (ResB.err _ _))
  | (rw [r4 (by assumption) (by omega) (t2 rfl)];exact RetN.all (ResB.err _ _))
  | (rw [r5 (by assumption) (by omega) c t3];exact RetN.all ⟨_,_,rfl,(by assumption)⟩)
end Go.Proofs.YtmblpmegfmgjgaaGreatDoor