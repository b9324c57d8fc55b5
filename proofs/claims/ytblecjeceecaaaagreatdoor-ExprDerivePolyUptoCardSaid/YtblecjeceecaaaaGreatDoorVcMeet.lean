/- A rule more for whoever walks code: behind a region all ways meet; the slots that it writes are told once. -/
import Derived.Test.YtblecjeceecaaaaGreatDoorVcRule
set_option linter.all false
namespace Go.Vc
open Go
def wsK:List Nat->(List Nat->Prop)->Prop
 | [],k=>k []
 | n::l,k=>bCo n fun n=>wsK l fun l=>k (n::l)
theorem aGc:∀{l:List Nat} {k:List Nat->Prop},wsK l k↔k l
 | [],_=>Iff.rfl
 | n::l,k=>by simp only[wsK,aH9,aGc (l:=l)]
def yK:List Bool->(List Bool->Prop)->Prop
 | [],k=>k []
 | true::l,k=>yK l fun l=>k (true::l)
 | false::l,k=>yK l fun l=>k (false::l)
theorem vF:∀{l:List Bool} {k:List Bool->Prop},yK l k↔k l
 | [],_=>Iff.rfl
 | true::l,k=>by simp only[yK,vF (l:=l)]
 | false::l,k=>by simp only[yK,vF (l:=l)]
def aOb:List Bool->Env->(Env->Prop)->Prop
 | true::m,_::ρ,k=>∀y:Value,aOb m ρ fun ρ'=>k (y::ρ')
 | false::m,x::ρ,k=>aOb m ρ fun ρ'=>k (x::ρ')
 | _,ρ,k=>k ρ
def aTg(ws:List Nat):List Bool:=(List.range (ws.foldl Nat.max 0+1)).map ws.contains
theorem wQ:∀(ws:List Nat) (a:Nat),a<=ws.foldl Nat.max a/\∀x∈ws,x<=ws.foldl Nat.max a
 | [],a=>⟨bJf _,by simp⟩
 | w::ws,a=>by
  obtain⟨h1,h2⟩:=wQ ws (Nat.max a w);have e1:a<=Nat.max a w:=bLs _ _;have e2:w<=Nat.max a w:=bLn _ _;refine⟨bJd e1 h1,fun x hx=>?_⟩
  rcases bI7.1 hx with rfl|hx
  .exact bJd e2 h1
  .exact h2 x hx
theorem aQk(ws:List Nat)(j:Nat):(aTg ws).getD j false=ws.contains j:=by
 unfold aTg;by_cases h:j<ws.foldl Nat.max 0+1
 .simp[bIp,h]
 .rw[bIp,bJn (by simpa using h)]
  symm
  have:¬j∈ws:=fun hx=>h (by have:=(wQ ws 0).2 j hx;omega)
  simpa using this
theorem wR{ws:List Nat}:∀{ρ:Env} {m:List Bool} {i:Nat} {k:Env->Prop},(∀j,m.getD j false=ws.contains (i+j))->aOb m ρ k->rZ ws i ρ k
 | [],m,i,k,_,x=>by
  cases m with
  | nil=>exact x
  | cons b m=>cases b<;>exact x
 | v::ρ,m,i,k,hm,x=>by
  have h0:=hm 0;rw[bJz] at h0;have hs:∀j,(m.drop 1).getD j false=ws.contains (i+1+j):=fun j=>by
   have:=hm (j+1);rw[show i+(j+1)=i+1+j by omega] at this
   rw[<-this];simp[bIp,bL5]
  cases m with
  | nil=>
   have h1:ws.contains i=false:=by rw[<-h0];rfl
   simp only[rZ,h1];exact wR (m:=[]) hs (by cases ρ<;>exact x)
  | cons b m=>
   cases b with
   | true=>
    have h1:ws.contains i=true:=by rw[<-h0];rfl
    simp only[rZ,h1];exact fun y=>wR (m:=m) hs (x y)
   | false=>
    have h1:ws.contains i=false:=by rw[<-h0];rfl
    simp only[rZ,h1];exact wR (m:=m) hs x
variable {T:Tab} {Q:iA} {ρ:Env} {h:aA} {L:Own}
theorem cI.meetK(id t:Nat)(v:Bool){ops:Array Oper}{dr:Bool}{b:Code}
  (x:wsK (wr (.region id ops dr)) fun ws=>cI T (.region id ops dr) (fun e ρ' h' L'=>match e with|.normal=>ρ'=over ws 0 ρ ρ'/\rd ρ' t=.bool v/\h.le h'/\L'=L|e=>Q e ρ' h' L') ρ h L)
  (y:wsK (wr (.region id ops dr)) fun ws=>yK (aTg ws) fun m=>aOb m ρ fun ρ'=>∀h',rd ρ' t=.bool v->h.le h'->cI T b Q ρ' h' L):cI T (.seq (.region id ops dr) b) Q ρ h L:=
 cI.meet id t v (aGc.1 x) (wR (fun j=>by rw[bJc];exact aQk _ j) (vF.1 (aGc.1 y)))
end Go.Vc