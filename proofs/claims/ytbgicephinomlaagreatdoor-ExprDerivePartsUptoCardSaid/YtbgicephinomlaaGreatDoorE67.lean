/- Literals of numbers, on both sides. -/
import Derived.Test.YtbgicephinomlaaGreatDoorE63
import Derived.Test.YtbgicephinomlaaGreatDoorE83
import Derived.Test.YtbgicephinomlaaGreatDoorE55
import Derived.Test.YtbgicephinomlaaGreatDoorE65
import Derived.Test.YtbgicephinomlaaGreatDoorE33
import Derived.Test.YtbgicephinomlaaGreatDoorE37
import Derived.Test.YtbgicephinomlaaGreatDoorE29
set_option linter.unusedVariables false
set_option linter.unusedSimpArgs false
set_option maxHeartbeats 1000000
set_option maxRecDepth 20000
namespace Go.Proofs.YtbgicephinomlaaGreatDoor
open Go Go.Vc Go.Dig
def litX:Option Rat→Tr × Nat
 | some q=>(mkL q,0)
 | none=>(zeroT,1)
theorem VE.numQ {h:Heap} {c d:Sl} {p:Rat} (hf:fits p) (w:IsRat h c d p):IsE h [.int .i64 1,.int .i64 0,.bool (sg p),c.val,d.val,.string (txt []),.slice none 0 0] (numQ p):=
 IsE.mkK (s:=⟨none,0,0⟩) (by decide) (by decide) (israt_val w (fits_sz hf)) (fun _ x=>by cases x) (IsK.nil _)
theorem outR_fits (q:Rat):fits (outR q).1:=(Fok.out q).ft
def LitR (h:Heap) (v:Value) (q:Rat):Prop:=∃a tt b,v=.tuple #[a,.bool b]∧VE h a tt∧(b=true→fits q∧tt=mkL q)∧(b=false→¬fits q)
theorem absQ_sg {q:Rat}:(sg q=true→q<0∧absQ q=-q)∧(sg q=false→¬q<0∧absQ q=q):=by
 unfold sg
 constructor
 ·intro h
  have h:=of_decide_eq_true h
  have h1:q<0:=by
   rcases Classical.em (q<0) with x|x
   ·exact x
   ·have:=Rat.num_nonneg.2 (Rat.not_lt.1 x);omega
  exact ⟨h1,absQ_neg (Rat.not_le.2 h1)⟩
 ·intro h
  have h:=of_decide_eq_false h
  have h1:0≤q:=Rat.num_nonneg.1 (by omega)
  exact ⟨Rat.not_lt.2 h1,absQ_pos h1⟩
theorem fits_abs {q:Rat}:fits (absQ q)↔fits q:=by unfold fits;rw [nu_abs,den_abs]
theorem mkL_abs {q:Rat}:(sg q=true→mkL q=nodeT 4 0 [numQ (absQ q)])∧(sg q=false→mkL q=numQ (absQ q)):=by
 obtain ⟨h1,h2⟩:=absQ_sg (q:=q)
 unfold mkL
 exact ⟨fun x=>by rw [if_pos (h1 x).1,(h1 x).2],fun x=>by rw [if_neg (h2 x).1,(h2 x).2]⟩
theorem lit_ct (h:Heap) (a b:Sl) (q:Rat) (w:IsFr h a b q) (z:Sz 1073741824 q):Fn0 T F.expr_lit [.agg #[.bool (sg q),a.val,b.val]] h fun v h'=>LitR h' v q:=by
 have w':IsFr h a b (absQ q):=⟨by rw [nu_abs];exact w.num,by rw [den_abs];exact w.den⟩
 have c1:=fun h w=>Give_ct h a b (absQ q) w ⟨by rw [nu_abs];exact z.num,by rw [den_abs];exact z.den⟩
 rw [sg_abs] at c1
 have hf:=outR_fits (absQ q)
 have e1:(outR (absQ q)).2=0→fits q∧(outR (absQ q)).1=absQ q:=fun x=>by
  unfold outR at x ⊢
  split at x
  ·rename_i y;rw [if_pos y];exact ⟨fits_abs.1 y,rfl⟩
  ·cases x
 have e2:(outR (absQ q)).2≠0→¬fits q:=fun x y=>x (by unfold outR;rw [if_pos (fits_abs.2 y)])
 obtain ⟨l1,l2⟩:=mkL_abs (q:=q)
 obtain ⟨S,hS⟩:∃S,S=sg q:=⟨_,rfl⟩
 obtain ⟨P,hP⟩:∃S,S=outR (absQ q):=⟨_,rfl⟩
 obtain ⟨P1,P2⟩:=P
 rw [← hS] at l1 l2 ⊢
 simp only [← hP] at c1 hf e1 e2
 replace c1:∀h,IsFr h a b (absQ q)→Fn0 T F.word_Frac_Give [.agg #[.bool false,a.val,b.val]] h fun v h'=>∃c d:Sl,v=.tuple #[.agg #[.bool (sg P1),c.val,d.val],.int .i64 P2]∧IsRat h' c d P1:=c1
 have fin:∀h (v:Value) (t:Tr),(S=true→t=nodeT 4 0 [numQ P1])→(S=false→t=numQ P1)→VE h v t→LitR h (.tuple #[v,.bool (eq P2 0)]) q:=fun h v t s1 s2 ve=>by
  refine ⟨v,t,_,rfl,ve,fun x=>?_,fun x=>e2 fun y=>?_⟩
  ·have y:P2=0:=by
    by_cases y:P2=0
    ·exact y
    ·rw [eq_dec,dec_false y] at x;cases x
   obtain ⟨y1,y2⟩:=e1 y
   refine ⟨y1,?_⟩
   have y2:P1=absQ q:=y2
   cases S with
   | true=>rw [s1 rfl,l1 rfl,y2]
   | false=>rw [s2 rfl,l2 rfl,y2]
  ·rw [eq_dec,dec_true y] at x;cases x
 have hf:fits P1:=hf
 clear e1 e2 l1 l2 hS hP w z
 refine f0C ok D.expr_lit rfl ?_
 cases S
 ·conv=>whnf
  repeat ((first|refine oI.z ?_|refine cI.z ?_);conv=>whnf)
  repeat' first|((first|(show SeqN _ _ _ _ _ _ _;refine SeqN.go ?_)|(show CN _ _ _ _ _ _;(refine CN.f rfl (c1 _ (by assumption)) (fun v h' hl2 hr=>?_);obtain ⟨c,d,rfl,hq⟩:=hr))|((first|refine oI.z ?_|refine cI.z ?_))|intro (_:Nat)|(show LdN _ _ _ _ _;first|refine LdN.o 0 rfl rfl ?_|refine LdN.o 1 rfl rfl ?_|refine LdN.o 2 rfl rfl ?_)|refine Ld.o 1 rfl rfl ?_|(show Sto _ _ _ _;first|refine Sto.l 0 rfl rfl rfl ?_|refine Sto.l 1 rfl rfl rfl ?_|refine Sto.l 2 rfl rfl rfl ?_)) <;> (conv=>whnf))
  all_goals exact RN.a (fin _ _ (numQ P1) (fun x=>by cases x) (fun _=>rfl) ⟨1,0,_,c,d,[],⟨none,0,0⟩,rfl,VE.numQ hf (by assumption)⟩)
 ·conv=>whnf
  repeat ((first|refine oI.z ?_|refine cI.z ?_);conv=>whnf)
  repeat' first|((first|(show SeqN _ _ _ _ _ _ _;refine SeqN.go ?_)|(show CN _ _ _ _ _ _;first|(refine CN.f rfl (c1 _ (by assumption)) (fun v h' hl2 hr=>?_);obtain ⟨c,d,rfl,hq⟩:=hr;have hE:=VE.numQ hf hq)|(refine CN.keep 0 rfl rfl (fun hl2=>?_);refine CN.f rfl (enode_ct 4 0 (by decide) (by decide) [numQ P1] ⟨some ⟨_,0,none⟩,1,1⟩ _ (IsK.one (hE.mono (by first|assumption|exact Heap.lr _)) rfl hl2)) (fun v h3 hl3 hr=>?_);obtain ⟨op9,ar9,ng9,nn9,dd9,nm9,ss9,rfl,hE9⟩:=hr))|((first|refine oI.z ?_|refine cI.z ?_))|intro (_:Nat)|(show LdN _ _ _ _ _;first|refine LdN.o 0 rfl rfl ?_|refine LdN.o 1 rfl rfl ?_|refine LdN.o 2 rfl rfl ?_)|refine Ld.o 1 rfl rfl ?_|(show Sto _ _ _ _;first|refine Sto.l 0 rfl rfl rfl ?_|refine Sto.l 1 rfl rfl rfl ?_|refine Sto.l 2 rfl rfl rfl ?_)) <;> (conv=>whnf))
  all_goals exact RN.a (fin _ _ _ (fun _=>rfl) (fun x=>by cases x) ⟨op9,ar9,ng9,nn9,dd9,nm9,ss9,rfl,hE9⟩)
theorem QOf_p (h:Heap) (n:Bool) (a b:Sl) (q:Rat) (w:IsNum h n a b (some q)):Fn0 T F.ref01_Of [.agg #[.bool n,a.val,b.val]] h fun v h'=>∃s t:Sl,v=.agg #[.bool (sg q),s.val,t.val]∧IsQ h' s t q:=by
 obtain ⟨l,m,v,-,rfl⟩:=w.of
 exact QOf_ct h n a b l m v
def RV (h:Heap) (v:Value) (x:Option Rat):Prop:=RQ h v x
def errV (bs:List (List Nat × Option Rat)):Int:=if ¬NmsB bs then 41 else if ¬SmlV bs then 1 else 0
theorem strip_fits {h:Heap} {sb:Sl} {bs:List (List Nat × Option Rat)} (wb:IsV h sb bs):∀b∈stripV bs,fits b.2:=by
 intro b hb
 unfold stripV at hb
 obtain ⟨⟨n,x⟩,hm,rfl⟩:=List.mem_map.1 hb
 obtain ⟨j,hj,hjx⟩:=List.mem_iff_getElem.1 hm
 refine fits_getD (x:=x) fun q e=>?_
 subst e
 rcases wb.mem with e|⟨bl,off,c,T,fz,e1,e2,e3⟩
 ·subst e;simp at hj
 ·obtain ⟨-,-,ng,a,b,-,w⟩:=IsVs.get e3 (by rw [List.getElem?_eq_getElem hj,hjx])
  exact w.fits
mutual
def CanT:Tr→Prop
 | .mk _ _ neg l m _ ks=>(∃q,fits q∧neg=sg q∧l=dg 4294967296 (nu q)∧m=dg 4294967296 (dn q))∧CanTs ks
def CanTs:List Tr→Prop
 | []=>True
 | t::ts=>CanT t∧CanTs ts
end
theorem valX_fits {bs:List (List Nat × Option Rat)} {t:Tr} (hv:∀b∈stripV bs,fits b.2):fits (valX bs t).1:=by
 unfold valX
 repeat' split
 all_goals first
  | exact fits_zero
  | (rename_i q e
     have hvt:ValT t:=Classical.byContradiction fun x=>by simp_all
     exact valT_fits hv t 1 hvt.1 q e)
theorem valX_inv {bs:List (List Nat × Option Rat)} {t:Tr} (h:(valX bs t).2.2=0):ValT t∧NmsB bs∧SmlV bs:=by
 by_cases h1:ValT t
 ·by_cases h2:NmsB bs
  ·by_cases h3:SmlV bs
   ·exact ⟨h1,h2,h3⟩
   ·rw [valX_size h1 h2 h3] at h;exact absurd h (by decide)
  ·rw [valX_name h1 h2] at h;exact absurd h (by decide)
 ·rw [valX_node h1] at h;exact absurd h (by decide)
def optX:Option Rat→Rat × Bool × Int
 | none=>(0,false,0)
 | some q=>(q,true,0)
theorem valX_of {bs:List (List Nat × Option Rat)} {t:Tr} (h:ValT t) (n:NmsB bs) (s:SmlV bs):valX bs t=optX (valT (stripV bs) t):=by
 cases e:valT (stripV bs) t with
 | none=>rw [valX_none h n s e];rfl
 | some q=>rw [valX_some h n s e];rfl
end Go.Proofs.YtbgicephinomlaaGreatDoor