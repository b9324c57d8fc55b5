/- Literals of numbers, on both sides. -/
import Derived.Test.YtmblpmegfmgjgaaGreatDoorE63
import Derived.Test.YtmblpmegfmgjgaaGreatDoorE66
import Derived.Test.YtmblpmegfmgjgaaGreatDoorE47
import Derived.Test.YtmblpmegfmgjgaaGreatDoorE65
import Derived.Test.YtmblpmegfmgjgaaGreatDoorE33
import Derived.Test.YtmblpmegfmgjgaaGreatDoorE37
import Derived.Test.YtmblpmegfmgjgaaGreatDoorE29
set_option linter.unusedVariables false
set_option linter.unusedSimpArgs false
set_option maxHeartbeats 1000000
set_option maxRecDepth 20000
namespace Go.Proofs.YtmblpmegfmgjgaaGreatDoor
open Go Go.Vc Go.Dig
def litX:Option Rat→Tr × Nat
 | some q=>(mkL q,0)
 | none=>(zeroT,1)
def LitR (h:Heap) (v:Value) (q:Rat):Prop:=∃a tt b,v=.tuple #[a,.bool b]∧VE h a tt∧(b=true→fits q∧tt=mkL q)∧(b=false→¬fits q)
theorem LargeP (h:Heap) (n:Bool) (a b:Sl) (x:Option Rat) (w:IsNum h n a b x):Fn0 T F.ref01_Large [.agg #[.bool n,a.val,b.val]] h fun v _=>v=.bool (!dec (x.isSome=true)):=by
 obtain ⟨l,m,v,rfl⟩:=w.ex
 refine (Large_ct h n a b l m v).mono fun v h' _ r=>?_
 rw [r,dec_congr (q:=(valOf n l m).isSome=true)]
 unfold valOf
 by_cases k:okR n l m <;> simp [k]
def RV (h:Heap) (v:Value) (x:Option Rat):Prop:=RQ h v x
def errV (bs:List (List Nat × Option Rat)):Int:=if ¬NmsB bs then 41 else if ¬SmlV bs then 1 else 0
mutual
def CanT:Tr→Prop
 | .mk _ _ neg l m _ ks=>(∃q,fits q∧neg=sg q∧l=dg 4294967296 (nu q)∧m=dg 4294967296 (dn q))∧CanTs ks
def CanTs:List Tr→Prop
 | []=>True
 | t::ts=>CanT t∧CanTs ts
end
theorem CanTs.get:∀{ks:List Tr} {j:Nat} {t:Tr},CanTs ks→ks[j]?=some t→CanT t
 | x::xs,0,t,h,e=>by rw [CanTs] at h;cases e;exact h.1
 | x::xs,j+1,t,h,e=>by rw [CanTs] at h;exact CanTs.get h.2 (by simpa using e)
 | [],_,_,_,e=>by simp at e
theorem sg_nil:∃q,fits q∧false=sg q∧[]=dg 4294967296 (nu q)∧[]=dg 4294967296 (dn q):=⟨0,fits_zero,sg_zero.symm,by rw [nu_zero,dg_zero],by rw [show dn 0=0 from rfl,dg_zero]⟩
mutual
theorem CanT.clone:∀t:Tr,CanT (cloneT t)
 | .mk op arg neg l m name ks=>by
  rw [cloneT]
  split
  ·rw [CanT];exact ⟨⟨canQ neg l m,canQ_fits _ _ _,rfl,rfl,rfl⟩,CanTs.clones ks⟩
  ·rw [CanT];exact ⟨sg_nil,CanTs.clones ks⟩
theorem CanTs.clones:∀ts:List Tr,CanTs (cloneTs ts)
 | []=>by rw [cloneTs,CanTs];trivial
 | t::ts=>by rw [cloneTs,CanTs];exact ⟨CanT.clone t,CanTs.clones ts⟩
end
theorem canonical_ct:∀(t:Tr) (d:Nat),okT d t→CanT t→∀(h:Heap) (vs:List Value),IsE h vs t→Fn0 T F.law04_canonical [.agg vs.toArray] h fun v h'=>v=.bool true:=by
 refine tree_ind fun t ih=>?_
 intro d hok hc h vs w
 obtain ⟨op,arg,neg,l,m,name,ks⟩:=t
 obtain ⟨a,b,s,rfl,ho,ha,hv,hb,hk⟩:=w.isK
 rw [okT] at hok
 rw [CanT] at hc
 obtain ⟨⟨q,hf,rfl,rfl,rfl⟩,hcs⟩:=hc
 have hq:IsRat h a b q:=⟨hv.num,hv.den⟩
 have hkl:=hk.len
 have hks:ks.length≤3:=by
  have h1:=hok.2.1.1
  have h2:=kidsN_le op
  omega
 have c1:=fun h hq=>Canonical_ct h a b q hq (fits_sz hf)
 obtain ⟨S,hS⟩:∃S,S=sg q:=⟨_,rfl⟩
 simp only [← hS] at c1 ⊢
 refine fn0_of_codeI ok D.law04_canonical rfl ?_
 conv=>whnf
 repeat ((first|refine opsI.step ?_|refine codeI.step ?_);conv=>whnf)
 repeat' first|((first|(show LdN _ _ _ _ _;refine LdN.ownAt 0 rfl rfl ?_)|(show CallN _ _ _ _ _ _;(refine CallN.fn rfl (c1 _ (by assumption)) (fun v h' hl2 hr=>?_);subst hr))|((first|refine opsI.step ?_|refine codeI.step ?_))|intro (_:Nat)) <;> (conv=>whnf))
 refine LoopN.keepL (fun r ρ hx=>∃j:Nat,r=ks.length-j∧j≤ks.length∧rd ρ 3=.int .i64 j) ks.length ⟨0,rfl,Nat.zero_le _,rfl⟩ ?_
 conv=>whnf
 repeat intro _
 rename_i r hx hle hI
 obtain ⟨j,rfl,hj,e3⟩:=hI
 conv at e3=>lhs;whnf
 subst e3
 by_cases hjl:j=ks.length
 ·subst hjl
  conv=>whnf
  repeat ((first|refine opsI.step ?_|refine codeI.step ?_);conv=>whnf)
  repeat' first|((first|((first|refine opsI.step ?_|refine codeI.step ?_))|refine Ld.own 0 rfl rfl ?_) <;> (conv=>whnf))|(refine cnd_lt (fun _=>?_) (fun _=>?_) <;> first|(exfalso;omega)|(conv=>whnf))
  all_goals exact RetN.all rfl
 ·obtain ⟨t,ht⟩:∃t,ks[j]?=some t:=⟨_,List.getElem?_eq_getElem (by omega)⟩
  have hkx:=hk.mono (Heap.le_trans hl2 hle)
  have c2:=fun h vs w=>ih t (szT_kid ht) (d+1) (okTs_mem hok.2.2 (List.mem_of_getElem? ht)) (CanTs.get hcs ht) h vs w
  conv=>whnf
  repeat ((first|refine opsI.step ?_|refine codeI.step ?_);conv=>whnf)
  repeat' first|((first|(show Idx _ _ _ _ _;refine Idx.kid hkx j t (by omega) ht (fun ad op3 arg3 neg3 a3 b3 name3 s3 hE hld=>?_))|(refine hld _ _ _ (by first|assumption|exact Heap.le_refl _) ?_)|((first|refine opsI.step ?_|refine codeI.step ?_))|(show CallN _ _ _ _ _ _;(refine CallN.fn rfl (c2 _ _ (by assumption)) (fun v h' hl2 hr=>?_);subst hr))|refine WrapN.i64 (by omega) (by omega) ?_|refine Ld.own 0 rfl rfl ?_) <;> (conv=>whnf))|(refine cnd_lt (fun _=>?_) (fun _=>?_) <;> first|(exfalso;omega)|(conv=>whnf))
  all_goals exact ⟨rfl,ks.length-(j+1),by omega,(by (iterate 30 try first|assumption|refine Heap.le_trans ?_ (by assumption));first|done|assumption),rfl,j+1,rfl,by omega,vi (by omega)⟩
def optX:Option Rat→Rat × Bool × Int
 | none=>(0,false,0)
 | some q=>(q,true,0)
end Go.Proofs.YtmblpmegfmgjgaaGreatDoor