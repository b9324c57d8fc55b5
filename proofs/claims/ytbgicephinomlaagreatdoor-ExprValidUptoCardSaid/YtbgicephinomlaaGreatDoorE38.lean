/- Case distinctions: plain. -/
import Derived.Test.YtbgicephinomlaaGreatDoorE33
set_option linter.unusedVariables false
set_option linter.unusedSimpArgs false
namespace Go.Proofs.YtbgicephinomlaaGreatDoor
open Go Go.Vc Go.Dig
def roughB (op:Int):Prop:=12≤op∧op≤15
instance (op:Int):Decidable (roughB op):=by unfold roughB;exact inferInstance
mutual
def tagsT:Tr→List (Int × List Nat)
 | .mk op _ _ _ _ name ks=>(op,name)::tagsTs ks
def tagsTs:List Tr→List (Int × List Nat)
 | []=>[]
 | t::ts=>tagsT t++tagsTs ts
end
mutual
def resT:Tr→Option (Tr × Tr × Tr)
 | .mk op arg neg l m name ks=>match resTs (if op=15 then 1 else ks.length) ks with
  | some (i,c,y,z)=>some (c,.mk op arg neg l m name (ks.set i y),.mk op arg neg l m name (ks.set i z))
  | none=>if op=12 then some (ks.getD 0 zeroT,ks.getD 0 zeroT,nodeT 4 0 [ks.getD 0 zeroT]) else if op=13 then some (nodeT 6 0 [ks.getD 1 zeroT,ks.getD 0 zeroT],ks.getD 0 zeroT,ks.getD 1 zeroT)
   else if op=14 then some (nodeT 6 0 [ks.getD 0 zeroT,ks.getD 1 zeroT],ks.getD 0 zeroT,ks.getD 1 zeroT) else if op=15 then some (ks.getD 0 zeroT,ks.getD 1 zeroT,ks.getD 2 zeroT) else none
def resTs:Nat→List Tr→Option (Nat × Tr × Tr × Tr)
 | 0,_=>none
 | _+1,[]=>none
 | n+1,t::ts=>match resT t with
  | some r=>some (0,r)
  | none=>match resTs n ts with
   | some (i,r)=>some (i+1,r)
   | none=>none
end
mutual
def cntC:Tr→Nat
 | .mk op _ _ _ _ _ ks=>(if roughB op then 1 else 0)+cntCs ks
def cntCs:List Tr→Nat
 | []=>0
 | t::ts=>cntC t+cntCs ts
end
theorem resTs_none:∀{n:Nat} {ts:List Tr},ts.length≤n→(resTs n ts=none↔∀t∈ts,resT t=none)
 | 0,[],_=>by rw [resTs];simp
 | 0,_::_,h=>by simp at h
 | _+1,[],_=>by rw [resTs];simp
 | n+1,t::ts,h=>by
  have ih:=resTs_none (n:=n) (ts:=ts) (by simpa using h)
  rw [resTs]
  cases hr:resT t with
  | some r=>simp [hr]
  | none=>
   cases hs:resTs n ts with
   | none=>simpa [hr] using ih.1 hs
   | some p=>
    refine ⟨fun x=>(by cases x),fun x=>?_⟩
    have:=ih.2 fun u hu=>x u (List.mem_cons_of_mem _ hu)
    rw [hs] at this;cases this
def topT (op:Int) (ks:List Tr):Option (Tr × Tr × Tr):=
 if op=12 then some (ks.getD 0 zeroT,ks.getD 0 zeroT,nodeT 4 0 [ks.getD 0 zeroT]) else if op=13 then some (nodeT 6 0 [ks.getD 1 zeroT,ks.getD 0 zeroT],ks.getD 0 zeroT,ks.getD 1 zeroT)
   else if op=14 then some (nodeT 6 0 [ks.getD 0 zeroT,ks.getD 1 zeroT],ks.getD 0 zeroT,ks.getD 1 zeroT) else if op=15 then some (ks.getD 0 zeroT,ks.getD 1 zeroT,ks.getD 2 zeroT) else none
theorem resT_kid {op arg:Int} {neg:Bool} {l m name:List Nat} {ks:List Tr} {i:Nat} {c y z:Tr} (h:resTs (if op=15 then 1 else ks.length) ks=some (i,c,y,z)):resT (.mk op arg neg l m name ks)=some (c,.mk op arg neg l m name (ks.set i y),.mk op arg neg l m name (ks.set i z)):=by
 rw [resT,h]
theorem resT_top {op arg:Int} {neg:Bool} {l m name:List Nat} {ks:List Tr} (h:resTs (if op=15 then 1 else ks.length) ks=none):resT (.mk op arg neg l m name ks)=topT op ks:=by
 rw [resT,h];rfl
theorem topT_none {op:Int} {ks:List Tr}:topT op ks=none↔¬roughB op:=by
 unfold topT roughB
 constructor
 ·intro h
  repeat' split at h
  all_goals first | (cases h;done) | omega
 ·intro h
  rw [if_neg (by omega),if_neg (by omega),if_neg (by omega),if_neg (by omega)]
mutual
theorem resT_none:∀{t:Tr},resT t=none↔∀x∈tagsT t,¬roughB x.1
 | .mk op arg neg l m name ks=>by
  rw [tagsT]
  by_cases ho:op=15
  ·have:resT (.mk op arg neg l m name ks)≠none:=by
    cases hr:resTs (if op=15 then 1 else ks.length) ks with
    | some p=>obtain ⟨i,c,y,z⟩:=p;rw [resT_kid hr];simp
    | none=>rw [resT_top hr];intro x;exact topT_none.1 x (by unfold roughB;omega)
   exact ⟨fun x=>absurd x this,fun x=>absurd (show roughB op by unfold roughB;omega) (x _ (List.mem_cons_self ..))⟩
  ·have hk:=resTs_all (ts:=ks)
   have hn:=resTs_none (n:=if op=15 then 1 else ks.length) (ts:=ks) (by rw [if_neg ho];exact Nat.le_refl _)
   cases hr:resTs (if op=15 then 1 else ks.length) ks with
   | some p=>
    obtain ⟨i,c,y,z⟩:=p
    rw [resT_kid hr]
    refine ⟨fun x=>(by cases x),fun x=>?_⟩
    have:=hn.2 (hk.2 fun y hy=>x y (List.mem_cons_of_mem _ hy))
    rw [hr] at this;cases this
   | none=>
    rw [resT_top hr,topT_none]
    have:=hk.1 (hn.1 hr)
    exact ⟨fun x y hy=>by
      rcases List.mem_cons.1 hy with rfl | hy
      ·exact x
      ·exact this y hy,fun x=>x _ (List.mem_cons_self ..)⟩
theorem resTs_all:∀{ts:List Tr},(∀t∈ts,resT t=none)↔∀x∈tagsTs ts,¬roughB x.1
 | []=>by rw [tagsTs];simp
 | t::ts=>by
  have h1:=resT_none (t:=t)
  have h2:=resTs_all (ts:=ts)
  rw [tagsTs]
  constructor
  ·intro h x hx
   rcases List.mem_append.1 hx with hx | hx
   ·exact h1.1 (h t (List.mem_cons_self ..)) x hx
   ·exact h2.1 (fun u hu=>h u (List.mem_cons_of_mem _ hu)) x hx
  ·intro h u hu
   rcases List.mem_cons.1 hu with rfl | hu
   ·exact h1.2 fun x hx=>h x (List.mem_append_left _ hx)
   ·exact h2.2 (fun x hx=>h x (List.mem_append_right _ hx)) u hu
end
end Go.Proofs.YtbgicephinomlaaGreatDoor