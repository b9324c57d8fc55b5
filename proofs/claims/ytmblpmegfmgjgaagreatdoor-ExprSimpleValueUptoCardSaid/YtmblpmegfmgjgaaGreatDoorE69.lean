/- The laws of values: Value, literals. -/
import Derived.Test.YtmblpmegfmgjgaaGreatDoorE67
import Derived.Test.YtmblpmegfmgjgaaGreatDoorE66
import Derived.Test.YtmblpmegfmgjgaaGreatDoorE33
import Derived.Test.YtmblpmegfmgjgaaGreatDoorE37
import Derived.Test.YtmblpmegfmgjgaaGreatDoorE29
set_option linter.unusedVariables false
set_option linter.unusedSimpArgs false
namespace Go.Proofs.YtmblpmegfmgjgaaGreatDoor
open Go Go.Vc Go.Dig
theorem SameP (h:Heap) (n:Bool) (a b:Sl) (q:Rat) (m:Bool) (c d:Sl) (r:Rat) (w:IsNum h n a b (some q)) (w':IsNum h m c d (some r)):Fn0 T F.ref01_Same [.agg #[.bool n,a.val,b.val],.agg #[.bool m,c.val,d.val]] h fun v h'=>v=.bool (dec (q=r)):=by
 obtain ⟨l1,m1,v1,k1,rfl⟩:=w.of
 obtain ⟨l2,m2,v2,k2,rfl⟩:=w'.of
 exact RSame_ct h n a b l1 m1 m c d l2 m2 v1 v2 k1.sz k2.sz
mutual
def CanT:Tr→Prop
 | .mk _ _ neg l m _ ks=>(∃q,fits q∧neg=sg q∧l=dg 4294967296 (nu q)∧m=dg 4294967296 (dn q))∧CanTs ks
def CanTs:List Tr→Prop
 | []=>True
 | t::ts=>CanT t∧CanTs ts
end
theorem valX_fits {bs:List (List Nat × Option Rat)} {t:Tr} (hv:∀b∈stripV bs,fits b.2):fits (valX bs t).1:=by
 unfold valX
 repeat' split
 all_goals first
  | exact fits_zero
  | (rename_i q e
     have hvt:ValT t:=Classical.byContradiction fun x=>by simp_all
     exact valT_fits hv t 1 hvt.1 q e)
theorem valX_inv {bs:List (List Nat × Option Rat)} {t:Tr} (h:(valX bs t).2.2=0):ValT t∧NmsB bs∧SmlV bs:=by
 by_cases h1:ValT t
 ·by_cases h2:NmsB bs
  ·by_cases h3:SmlV bs
   ·exact ⟨h1,h2,h3⟩
   ·rw [valX_size h1 h2 h3] at h;exact absurd h (by decide)
  ·rw [valX_name h1 h2] at h;exact absurd h (by decide)
 ·rw [valX_node h1] at h;exact absurd h (by decide)
def optX:Option Rat→Rat × Bool × Int
 | none=>(0,false,0)
 | some q=>(q,true,0)
theorem valX_of {bs:List (List Nat × Option Rat)} {t:Tr} (h:ValT t) (n:NmsB bs) (s:SmlV bs):valX bs t=optX (valT (stripV bs) t):=by
 cases e:valT (stripV bs) t with
 | none=>rw [valX_none h n s e];rfl
 | some q=>rw [valX_some h n s e];rfl
end Go.Proofs.YtmblpmegfmgjgaaGreatDoor