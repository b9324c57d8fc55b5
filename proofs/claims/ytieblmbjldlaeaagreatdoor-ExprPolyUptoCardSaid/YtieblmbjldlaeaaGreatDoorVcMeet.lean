/- A rule more for whoever walks code: behind a region all ways meet; the slots that it writes are told once. -/
import Derived.Test.YtieblmbjldlaeaaGreatDoorVcRule
set_option linter.all false
namespace Go.Vc
open Go
def wsK:List Nat→(List Nat→Prop)→Prop
 | [],k=>k []
 | n::l,k=>aPq n fun n=>wsK l fun l=>k (n::l)
theorem yC:∀{l:List Nat} {k:List Nat→Prop},wsK l k↔k l
 | [],_=>Iff.rfl
 | n::l,k=>by simp only [wsK,aAh,yC (l:=l)]
def qZ:List Bool→(List Bool→Prop)→Prop
 | [],k=>k []
 | true::l,k=>qZ l fun l=>k (true::l)
 | false::l,k=>qZ l fun l=>k (false::l)
theorem oH:∀{l:List Bool} {k:List Bool→Prop},qZ l k↔k l
 | [],_=>Iff.rfl
 | true::l,k=>by simp only [qZ,oH (l:=l)]
 | false::l,k=>by simp only [qZ,oH (l:=l)]
def aEi:List Bool→Env→(Env→Prop)→Prop
 | true::m,_::ρ,k=>∀y:Value,aEi m ρ fun ρ'=>k (y::ρ')
 | false::m,x::ρ,k=>aEi m ρ fun ρ'=>k (x::ρ')
 | _,ρ,k=>k ρ
def aIt (ws:List Nat):List Bool:=(List.range (ws.foldl Nat.max 0+1)).map ws.contains
theorem pK:∀(ws:List Nat) (a:Nat),a≤ws.foldl Nat.max a∧∀x∈ws,x≤ws.foldl Nat.max a
 | [],a=>⟨aWf _,by simp⟩
 | w::ws,a=>by
  obtain ⟨h1,h2⟩:=pK ws (Nat.max a w)
  have e1:a≤Nat.max a w:=Nat.le_max_left _ _
  have e2:w≤Nat.max a w:=Nat.le_max_right _ _
  refine ⟨aWd e1 h1,fun x hx=>?_⟩
  rcases aV7.1 hx with rfl|hx
  ·exact aWd e2 h1
  ·exact h2 x hx
theorem aGa (ws:List Nat) (j:Nat):(aIt ws).getD j false=ws.contains j:=by
 unfold aIt
 by_cases h:j<ws.foldl Nat.max 0+1
 ·simp [aVp,h]
 ·rw [aVp,List.getElem?_eq_none (by simpa using h)]
  symm
  have:¬j∈ws:=fun hx=>h (by have:=(pK ws 0).2 j hx;omega)
  simpa using this
theorem pM {ws:List Nat}:∀{ρ:Env} {m:List Bool} {i:Nat} {k:Env→Prop},(∀j,m.getD j false=ws.contains (i+j))→aEi m ρ k→mL ws i ρ k
 | [],m,i,k,_,x=>by
  cases m with
  | nil=>exact x
  | cons b m=>cases b <;> exact x
 | v::ρ,m,i,k,hm,x=>by
  have h0:=hm 0
  rw [Nat.add_zero] at h0
  have hs:∀j,(m.drop 1).getD j false=ws.contains (i+1+j):=fun j=>by
   have:=hm (j+1)
   rw [show i+(j+1)=i+1+j by omega] at this
   rw [← this]
   simp [aVp,Nat.add_comm]
  cases m with
  | nil=>
   have h1:ws.contains i=false:=by rw [← h0];rfl
   simp only [mL,h1]
   exact pM (m:=[]) hs (by cases ρ <;> exact x)
  | cons b m=>
   cases b with
   | true=>
    have h1:ws.contains i=true:=by rw [← h0];rfl
    simp only [mL,h1]
    exact fun y=>pM (m:=m) hs (x y)
   | false=>
    have h1:ws.contains i=false:=by rw [← h0];rfl
    simp only [mL,h1]
    exact pM (m:=m) hs x
variable {T:Tab} {Q:eL} {ρ:Env} {h:aA} {L:Own}
theorem cI.meetK (id t:Nat) (v:Bool) {ops:Array Oper} {dr:Bool} {b:Code}
  (x:wsK (wr (.region id ops dr)) fun ws=>cI T (.region id ops dr) (fun e ρ' h' L'=>match e with|.normal=>ρ'=over ws 0 ρ ρ'∧rd ρ' t=.bool v∧h.le h'∧L'=L|e=>Q e ρ' h' L') ρ h L)
  (y:wsK (wr (.region id ops dr)) fun ws=>qZ (aIt ws) fun m=>aEi m ρ fun ρ'=>∀h',rd ρ' t=.bool v→h.le h'→cI T b Q ρ' h' L):cI T (.seq (.region id ops dr) b) Q ρ h L:=
 cI.meet id t v (yC.1 x) (pM (fun j=>by rw [aWc];exact aGa _ j) (oH.1 (yC.1 y)))
end Go.Vc