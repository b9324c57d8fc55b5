/- The document's parser: plain; it goes as the program's does. -/
import Derived.Test.YtmblpmegfmgjgaaGreatDoorE93
import Derived.Test.YtmblpmegfmgjgaaGreatDoorE37
import Derived.Test.YtmblpmegfmgjgaaGreatDoorE97
set_option linter.unusedVariables false
set_option linter.unusedSimpArgs false
open Go.Vc.codeI renaming step → cz
open Go.Vc.opsI renaming step → oz
set_option maxHeartbeats 4000000
set_option maxRecDepth 20000
namespace Go.Dig
def whlV:List Nat→Nat→Nat
 | [],n=>n
 | c::l,n=>if n<1000 then whlV l (n*10+(c-48)) else n
def whl (l:List Nat):Nat:=min (whlV l 0) 1000
theorem whlV_ge:∀(l:List Nat) (n:Nat),n≤whlV l n
 | [],n=>Nat.le_refl _
 | c::l,n=>by
  rw [whlV]
  split
  ·exact Nat.le_trans (by omega) (whlV_ge l _)
  ·exact Nat.le_refl _
theorem cntV_whl {high:Nat} (hh:high<1000):∀(l:List Nat) (n:Nat),cntV high l n≤high→whlV l n=cntV high l n
 | [],n,_=>rfl
 | c::l,n,h=>by
  rw [cntV] at h ⊢
  split at h
  ·rename_i hn
   rw [if_pos hn,whlV,if_pos (by omega),Nat.mul_comm n 10]
   exact cntV_whl hh l _ h
  ·exact absurd h (by omega)
theorem cntV_over {high:Nat} (hh:high<1000):∀(l:List Nat) (n:Nat),high<cntV high l n→high<whlV l n
 | [],n,h=>h
 | c::l,n,h=>by
  rw [cntV] at h
  split at h
  ·rename_i hn
   rw [whlV,if_pos (by omega),Nat.mul_comm n 10]
   exact cntV_over hh l _ h
  ·exact Nat.lt_of_lt_of_le h (whlV_ge _ _)
structure Rs where
 i:Nat
 bad:Int
 us:List (Tk × Bool)
def Rs.bnd {α β:Type}:Option (α × Rs)→(α→Rs→Option (β × Rs))→Option (β × Rs)
 | some (x,st),f=>f x st
 | none,_=>none
def Rs.nx (st:Rs):Rs:=⟨st.i+1,st.bad,st.us⟩
section
variable (ts:List Tk) (e:Nat)
def plc (i:Nat):Nat:=match ts[i]? with
 | some t=>t.pos
 | none=>e
def atS (s:List Nat) (st:Rs):Bool:=decide (st.bad<0) && isAt ts s st.i
def failS (st:Rs):Rs:=if st.bad<0 then ⟨st.i,plc ts e st.i,st.us⟩ else st
def takeS (s:List Nat) (st:Rs):Rs:=if atS ts s st then st.nx else failS ts e st
def takeO (s:List Nat) (st:Rs):Option (Unit × Rs):=some ((),takeS ts e s st)
def digS (root:Bool) (st:Rs):Nat × Rs:=match ts[st.i]? with
 | some t=>if st.bad<0∧t.kind=1∧dlen t.text=t.text.length then (whl t.text,⟨st.i+1,st.bad,st.us++[(t,root)]⟩) else (0,failS ts e st)
 | none=>(0,failS ts e st)
def zeroX:Tr:=.mk 0 0 false [] [] [] []
def qp (parse:List Nat→Bool × List Nat × List Nat):Nat→Md→Rs→Option (Tr × Rs)
 | 0,_,_=>none
 | n+1,.sum,st=>Rs.bnd (qp parse n .term st) fun e st=>qp parse n (.sumL e) st
 | n+1,.sumL x,st=>
  if atS ts [43] st then Rs.bnd (qp parse n .term st.nx) fun f st=>qp parse n (.sumL (nodeT 5 0 [x,f])) st
  else if atS ts [45] st then Rs.bnd (qp parse n .term st.nx) fun f st=>qp parse n (.sumL (nodeT 6 0 [x,f])) st
  else some (x,st)
 | n+1,.term,st=>Rs.bnd (qp parse n .fac st) fun e st=>qp parse n (.termL e) st
 | n+1,.termL x,st=>
  if atS ts [42] st then Rs.bnd (qp parse n .fac st.nx) fun f st=>qp parse n (.termL (nodeT 7 0 [x,f])) st
  else if atS ts [47] st then Rs.bnd (qp parse n .fac st.nx) fun f st=>qp parse n (.termL (nodeT 8 0 [x,f])) st
  else some (x,st)
 | n+1,.fac,st=>
  if atS ts [45] st then Rs.bnd (qp parse n .fac st.nx) fun x st=>some (nodeT 4 0 [x],st)
  else Rs.bnd (qp parse n .atom st) fun x st=>
   if atS ts [94] st then
    if atS ts [45] st.nx then Rs.bnd (some (digS ts e false st.nx.nx)) fun k st=>some (nodeT 9 (-(k:Int)) [x],st)
    else Rs.bnd (some (digS ts e false st.nx)) fun k st=>some (nodeT 9 k [x],st)
   else some (x,st)
 | n+1,.atom,st=>if ¬st.bad<0 then some (zeroX,st) else match ts[st.i]? with
  | none=>some (zeroX,failS ts e st)
  | some t=>
   if t.kind=2 then some (varT t.text,st.nx)
   else if t.kind=3 then Rs.bnd (qp parse n (.kids 1) st.nx) fun x st=>some (nodeT 11 (fnIx t.text) x.kids,st)
   else if t.kind=1 then some (numT t.text parse,st.nx)
   else if t.text=[112,105] then some (nodeT 3 0 [],st.nx)
   else if t.text=[40] then Rs.bnd (qp parse n .sum st.nx) fun x st=>Rs.bnd (takeO ts e [41] st) fun _ st=>some (x,st)
   else if t.text=[97,98,115] then Rs.bnd (qp parse n (.kids 1) st.nx) fun x st=>some (nodeT 12 0 x.kids,st)
   else if t.text=[115,113,114,116] then Rs.bnd (qp parse n (.kids 1) st.nx) fun x st=>some (nodeT 10 2 x.kids,st)
   else if t.text=[109,105,110] then Rs.bnd (qp parse n (.kids 2) st.nx) fun x st=>some (nodeT 13 0 x.kids,st)
   else if t.text=[109,97,120] then Rs.bnd (qp parse n (.kids 2) st.nx) fun x st=>some (nodeT 14 0 x.kids,st)
   else if t.text=[105,102] then Rs.bnd (qp parse n (.kids 3) st.nx) fun x st=>some (nodeT 15 0 x.kids,st)
   else if t.text=[114,111,111,116] then Rs.bnd (takeO ts e [40] st.nx) fun _ st=>Rs.bnd (some (digS ts e true st)) fun k st=>Rs.bnd (takeO ts e [44] st) fun _ st=>
    Rs.bnd (qp parse n .sum st) fun x st=>Rs.bnd (takeO ts e [41] st) fun _ st=>some (nodeT 10 k [x],st)
   else some (zeroX,failS ts e st)
 | n+1,.kids k,st=>Rs.bnd (takeO ts e [40] st) fun _ st=>qp parse n (.kidsL k 0 []) st
 | n+1,.kidsL k j acc,st=>
  if j<k∧st.bad<0 then
   if 0<j then Rs.bnd (takeO ts e [44] st) fun _ st=>Rs.bnd (qp parse n .sum st) fun x st=>qp parse n (.kidsL k (j+1) (acc++[x])) st
   else Rs.bnd (qp parse n .sum st) fun x st=>qp parse n (.kidsL k (j+1) (acc++[x])) st
  else Rs.bnd (takeO ts e [41] st) fun _ st=>some (nodeT 0 0 acc,st)
end
end Go.Dig
namespace Go.Proofs.YtmblpmegfmgjgaaGreatDoor
open Go Go.Vc Go.Dig
def tc (c:Tk × Bool):Cn:=⟨c.1.pos,if c.2 then 2 else 0,if c.2 then 8 else 32,cntV (if c.2 then 8 else 32) c.1.text 0⟩
section
variable {ts:List Tk} {e:Nat}
theorem atS_bad {s:List Nat} {st:Rs} (h:0≤st.bad):atS ts s st=false:=by
 unfold atS
 rw [decide_eq_false (by omega)]
 rfl
theorem failS_bad {st:Rs} (h:0≤st.bad):failS ts e st=st:=if_neg (by omega)
theorem takeS_bad {s:List Nat} {st:Rs} (h:0≤st.bad):takeS ts e s st=st:=by
 unfold takeS
 rw [atS_bad h,if_neg (by decide),failS_bad h]
theorem digS_bad {root:Bool} {st:Rs} (h:0≤st.bad):digS ts e root st=(0,st):=by
 unfold digS
 split
 ·rw [if_neg (by omega),failS_bad h]
 ·rw [failS_bad h]
theorem failS_good {i:Nat} {us:List (Tk × Bool)}:failS ts e ⟨i,-1,us⟩=⟨i,plc ts e i,us⟩:=if_pos (show (-1:Int)<0 by decide)
theorem atS_good {s:List Nat} {i:Nat} {us:List (Tk × Bool)}:atS ts s ⟨i,-1,us⟩=isAt ts s i:=rfl
def Bd {α β:Type} (g:α→Rs→Option (β × Rs)):Prop:=∀x st,0≤st.bad→∃y st',g x st=some (y,st')∧st'.bad=st.bad
theorem Bd.ok {α β:Type} (f:α→β):Bd fun (x:α) (st:Rs)=>some (f x,st):=fun x st _=>⟨_,_,rfl,rfl⟩
theorem Bd.bnd {α β γ:Type} {A:α→Rs→Option (β × Rs)} {g:α→β→Rs→Option (γ × Rs)} (h:Bd A) (hg:∀x,Bd (g x)):Bd fun x st=>Rs.bnd (A x st) (g x):=fun x st hb=>by
 obtain ⟨y,st',h1,h2⟩:=h x st hb
 obtain ⟨z,st2,h3,h4⟩:=hg x y st' (by omega)
 refine ⟨z,st2,?_,h4.trans h2⟩
 show Rs.bnd (A x st) (g x)=_
 rw [h1]
 exact h3
theorem Bd.take {α:Type} (s:List Nat):Bd fun (_:α) (st:Rs)=>takeO ts e s st:=fun x st hb=>⟨(),st,by show some ((),takeS ts e s st)=_;rw [takeS_bad hb],rfl⟩
theorem Bd.dig {α:Type} (root:Bool):Bd fun (_:α) (st:Rs)=>some (digS ts e root st):=fun x st hb=>⟨0,st,by show some (digS ts e root st)=_;rw [digS_bad hb],rfl⟩
def rkB:Md→Nat
 | .sum=>4|.sumL _=>1|.term=>3|.termL _=>1|.fac=>2|.atom=>1|.kids _=>2|.kidsL _ _ _=>1
theorem qp_bad (parse:List Nat→Bool × List Nat × List Nat):∀(n:Nat) (md:Md) (st:Rs),0≤st.bad→rkB md≤n→∃y st',qp ts e parse n md st=some (y,st')∧st'.bad=st.bad:=by
 intro n
 induction n with
 | zero=>intro md st _ h;cases md <;> (simp only [rkB] at h;omega)
 | succ n ih=>
  intro md st hb hn
  have bn:∀{α β:Type} {A:Option (α × Rs)} {g:α→Rs→Option (β × Rs)},(∃y st',A=some (y,st')∧st'.bad=st.bad)→(∀y st',st'.bad=st.bad→∃z st2,g y st'=some (z,st2)∧st2.bad=st.bad)→∃z st2,Rs.bnd A g=some (z,st2)∧st2.bad=st.bad:=fun {α β A g} h hg=>by
   obtain ⟨y,st',rfl,h2⟩:=h
   exact hg y st' h2
  cases md with
  | sum=>
   rw [qp]
   exact bn (ih .term st hb (by simp only [rkB] at hn ⊢;omega)) fun y st' h=>by
    obtain ⟨z,st2,h3,h4⟩:=ih (.sumL y) st' (by omega) (by simp only [rkB] at hn ⊢;omega)
    exact ⟨z,st2,h3,h4.trans h⟩
  | sumL x=>rw [qp,atS_bad hb,atS_bad hb,if_neg (by decide),if_neg (by decide)];exact ⟨_,_,rfl,rfl⟩
  | term=>
   rw [qp]
   exact bn (ih .fac st hb (by simp only [rkB] at hn ⊢;omega)) fun y st' h=>by
    obtain ⟨z,st2,h3,h4⟩:=ih (.termL y) st' (by omega) (by simp only [rkB] at hn ⊢;omega)
    exact ⟨z,st2,h3,h4.trans h⟩
  | termL x=>rw [qp,atS_bad hb,atS_bad hb,if_neg (by decide),if_neg (by decide)];exact ⟨_,_,rfl,rfl⟩
  | fac=>
   rw [qp,atS_bad hb,if_neg (by decide)]
   exact bn (ih .atom st hb (by simp only [rkB] at hn ⊢;omega)) fun y st' h=>by
    rw [atS_bad (by omega),if_neg (by decide)]
    exact ⟨_,_,rfl,h⟩
  | atom=>rw [qp,if_pos (by omega)];exact ⟨_,_,rfl,rfl⟩
  | kids k=>
   rw [qp]
   unfold takeO
   rw [takeS_bad hb]
   exact ih (.kidsL k 0 []) st hb (by simp only [rkB] at hn ⊢;omega)
  | kidsL k j acc=>
   rw [qp,if_neg (by omega)]
   unfold takeO
   rw [takeS_bad hb]
   exact ⟨_,_,rfl,rfl⟩
theorem Bd.qp {α:Type} {parse:List Nat→Bool × List Nat × List Nat} {n:Nat} {md:α→Md} (h:∀x,rkB (md x)≤n):Bd fun (x:α) (st:Rs)=>Dig.qp ts e parse n (md x) st:=fun x st hb=>qp_bad parse n (md x) st hb (h x)
end
def Sm (ts:List Tk) (e:Nat) {α:Type} (cs0:List Cn):Option (Pr α)→Option (α × Rs)→Prop
 | none,_=>True
 | some (.bad j),B=>∃x st,B=some (x,st)∧st.bad=plc ts e j
 | some (.ok x i cs),B=>∃x' us,B=some (x',⟨i,-1,us⟩)∧cs=us.map tc∧(okC cs→okC cs0∧x=x')
section
variable {ts:List Tk} {e:Nat}
theorem Sm.bad {α:Type} {cs0:List Cn} {i:Nat} {us:List (Tk × Bool)} {x:α}:Sm ts e cs0 (some (.bad i:Pr α)) (some (x,failS ts e ⟨i,-1,us⟩)):=⟨x,_,rfl,by rw [failS_good]⟩
theorem Sm.ok {α:Type} {cs0 cs:List Cn} {us:List (Tk × Bool)} {x x':α} {i:Nat} (h:cs=us.map tc) (hx:okC cs→okC cs0∧x=x'):Sm ts e cs0 (some (.ok x i cs)) (some (x',⟨i,-1,us⟩)):=⟨x',us,rfl,h,hx⟩
theorem Sm.same {α:Type} {cs:List Cn} {us:List (Tk × Bool)} {x:α} {i:Nat} (h:cs=us.map tc):Sm ts e cs (some (.ok x i cs)) (some (x,⟨i,-1,us⟩)):=Sm.ok h fun o=>⟨o,rfl⟩
theorem Sm.bnd {α β:Type} {cs0:List Cn} {A:Option (Pr α)} {B:Option (α × Rs)} {f:α→Nat→List Cn→Option (Pr β)} {g:α→Rs→Option (β × Rs)} (h:Sm ts e cs0 A B) (hb:Bd g)
  (hf:∀x x' i cs us,cs=us.map tc→(okC cs→okC cs0∧x=x')→Sm ts e cs (f x i cs) (g x' ⟨i,-1,us⟩)):Sm ts e cs0 (Pr.bnd A f) (Rs.bnd B g):=by
 match A,h with
 | none,_=>exact trivial
 | some (.bad i),h=>
  obtain ⟨x,st,rfl,h2⟩:=h
  obtain ⟨y,st',h3,h4⟩:=hb x st (by omega)
  exact ⟨y,st',h3,h4.trans h2⟩
 | some (.ok x i cs),h=>
  obtain ⟨x',us,rfl,h2,h3⟩:=h
  have h4:=hf x x' i cs us h2 h3
  show Sm ts e cs0 (f x i cs) (g x' ⟨i,-1,us⟩)
  obtain ⟨q,hq⟩:∃q,q=f x i cs:=⟨_,rfl⟩
  rw [← hq] at h4 ⊢
  match q,h4 with
  | none,_=>exact trivial
  | some (.bad j),h4=>exact h4
  | some (.ok y j ds),h4=>
   obtain ⟨y',us',h5,h6,h7⟩:=h4
   exact ⟨y',us',h5,h6,fun o=>⟨(h3 (h7 o).1).1,(h7 o).2⟩⟩
theorem Sm.ite {α:Type} {cs0:List Cn} {c c':Prop} [Decidable c] [Decidable c'] {A A':Option (Pr α)} {B B':Option (α × Rs)} (hc:c↔c') (ha:Sm ts e cs0 A B) (hb:Sm ts e cs0 A' B'):Sm ts e cs0 (if c then A else A') (if c' then B else B'):=by
 by_cases x:c
 ·rw [if_pos x,if_pos (hc.1 x)];exact ha
 ·rw [if_neg x,if_neg fun y=>x (hc.2 y)];exact hb
theorem Sm.want {s:List Nat} {i:Nat} {cs:List Cn} {us:List (Tk × Bool)} (h:cs=us.map tc):Sm ts e cs (wantP ts s i cs) (takeO ts e s ⟨i,-1,us⟩):=by
 unfold wantP takeO takeS
 rw [atS_good]
 by_cases a:isAt ts s i=true
 ·rw [if_pos a,if_pos a];exact Sm.same h
 ·rw [if_neg a,if_neg a];exact Sm.bad
theorem Sm.cnt {low high i:Nat} {root:Bool} {cs:List Cn} {us:List (Tk × Bool)} (hl:low=if root then 2 else 0) (hh:high=if root then 8 else 32) (h:cs=us.map tc):Sm ts e cs (some (cntP ts low high i cs)) (some (digS ts e root ⟨i,-1,us⟩)):=by
 unfold cntP digS
 show Sm ts e cs (some (match ts[i]? with|some t=>_|none=>_)) (some (match ts[i]? with|some t=>_|none=>_))
 cases ht:ts[i]? with
 | none=>exact Sm.bad
 | some t=>
  show Sm ts e cs (some (if t.kind=1∧dlen t.text=t.text.length then _ else _)) (some (if (-1:Int)<0∧t.kind=1∧dlen t.text=t.text.length then _ else _))
  by_cases q:t.kind=1∧dlen t.text=t.text.length
  ·rw [if_pos q,if_pos ⟨by decide,q⟩]
   have hh3:high<1000:=by rw [hh];split <;> decide
   refine Sm.ok ?_ fun o=>⟨fun c hc=>o c (List.mem_append_left _ hc),?_⟩
   ·rw [List.map_append,h,List.map_singleton]
    show _=_++[(⟨t.pos,if root then 2 else 0,if root then 8 else 32,cntV (if root then 8 else 32) t.text 0⟩:Cn)]
    rw [← hl,← hh]
   ·have hb:=o ⟨t.pos,low,high,cntV high t.text 0⟩ (List.mem_append_right _ (List.mem_singleton.2 rfl))
    unfold badC at hb
    have h1:cntV high t.text 0≤high:=by
     have:¬high<cntV high t.text 0:=fun x=>hb (.inr x)
     omega
    unfold whl
    rw [cntV_whl hh3 _ _ h1]
    omega
  ·rw [if_neg q,if_neg fun x=>q x.2]
   exact Sm.bad
inductive Mr (cs:List Cn):Md→Md→Prop where
 | sum:Mr cs .sum .sum
 | sumL {e e':Tr} (h:okC cs→e=e'):Mr cs (.sumL e) (.sumL e')
 | term:Mr cs .term .term
 | termL {e e':Tr} (h:okC cs→e=e'):Mr cs (.termL e) (.termL e')
 | fac:Mr cs .fac .fac
 | atom:Mr cs .atom .atom
 | kids (k:Nat):Mr cs (.kids k) (.kids k)
 | kidsL (k j:Nat) {acc acc':List Tr} (h:okC cs→acc=acc'):Mr cs (.kidsL k j acc) (.kidsL k j acc')
theorem sim (parse:List Nat→Bool × List Nat × List Nat):∀(n:Nat) (md md':Md) (i:Nat) (cs:List Cn) (us:List (Tk × Bool)),Mr cs md md'→cs=us.map tc→Sm ts e cs (pp ts parse n md i cs) (qp ts e parse (n+8) md' ⟨i,-1,us⟩):=by
 intro n
 induction n with
 | zero=>intro md md' i cs us _ _;rw [pp];exact trivial
 | succ n ih=>
  intro md md' i cs us hm hc
  rw [show n+1+8=(n+8)+1 by omega]
  have rk:∀m:Md,rkB m≤n+8:=fun m=>by cases m <;> simp only [rkB] <;> omega
  cases hm with
  | sum=>
   rw [pp,qp]
   exact Sm.bnd (ih .term .term i cs us .term hc) (Bd.qp fun _=>rk _) fun x x' j ds us hd hx=>ih (.sumL x) (.sumL x') j ds us (.sumL fun o=>(hx o).2) hd
  | @sumL x x' hm'=>
   rw [pp,qp]
   refine Sm.ite Iff.rfl ?_ (Sm.ite Iff.rfl ?_ (Sm.ok hc fun o=>⟨o,hm' o⟩))
   ·exact Sm.bnd (ih .term .term (i+1) cs us .term hc) (Bd.qp fun _=>rk _) fun x x' j ds us hd hx=>ih (.sumL _) (.sumL _) j ds us (.sumL fun o=>by rw [hm' (hx o).1,(hx o).2]) hd
   ·exact Sm.bnd (ih .term .term (i+1) cs us .term hc) (Bd.qp fun _=>rk _) fun x x' j ds us hd hx=>ih (.sumL _) (.sumL _) j ds us (.sumL fun o=>by rw [hm' (hx o).1,(hx o).2]) hd
  | term=>
   rw [pp,qp]
   exact Sm.bnd (ih .fac .fac i cs us .fac hc) (Bd.qp fun _=>rk _) fun x x' j ds us hd hx=>ih (.termL x) (.termL x') j ds us (.termL fun o=>(hx o).2) hd
  | @termL x x' hm'=>
   rw [pp,qp]
   refine Sm.ite Iff.rfl ?_ (Sm.ite Iff.rfl ?_ (Sm.ok hc fun o=>⟨o,hm' o⟩))
   ·exact Sm.bnd (ih .fac .fac (i+1) cs us .fac hc) (Bd.qp fun _=>rk _) fun x x' j ds us hd hx=>ih (.termL _) (.termL _) j ds us (.termL fun o=>by rw [hm' (hx o).1,(hx o).2]) hd
   ·exact Sm.bnd (ih .fac .fac (i+1) cs us .fac hc) (Bd.qp fun _=>rk _) fun x x' j ds us hd hx=>ih (.termL _) (.termL _) j ds us (.termL fun o=>by rw [hm' (hx o).1,(hx o).2]) hd
  | fac=>
   rw [pp,qp]
   refine Sm.ite Iff.rfl ?_ ?_
   ·exact Sm.bnd (ih .fac .fac (i+1) cs us .fac hc) (Bd.ok fun x=>nodeT 4 0 [x]) fun x x' j ds us hd hx=>Sm.ok hd fun o=>⟨o,by rw [(hx o).2]⟩
   ·refine Sm.bnd (ih .atom .atom i cs us .atom hc) (fun x st hb=>?_) fun x x' j ds us hd hx=>?_
    ·refine ⟨x,st,?_,rfl⟩
     rw [atS_bad hb,if_neg (by decide)]
    refine Sm.ite Iff.rfl (Sm.ite Iff.rfl ?_ ?_) (Sm.ok hd fun o=>⟨o,(hx o).2⟩)
    ·exact Sm.bnd (Sm.cnt (root:=false) rfl rfl hd) (Bd.ok fun k:Nat=>nodeT 9 (-(k:Int)) [x']) fun k k' j2 es us he hk=>Sm.ok he fun o=>⟨o,by rw [(hk o).2,(hx (hk o).1).2]⟩
    ·exact Sm.bnd (Sm.cnt (root:=false) rfl rfl hd) (Bd.ok fun k:Nat=>nodeT 9 (k:Int) [x']) fun k k' j2 es us he hk=>Sm.ok he fun o=>⟨o,by rw [(hk o).2,(hx (hk o).1).2]⟩
  | atom=>
   rw [pp,qp,if_neg (show ¬¬(-1:Int)<0 by decide)]
   dsimp only
   cases ht:ts[i]? with
   | none=>exact Sm.bad
   | some t=>
    dsimp only
    have kd:∀(k:Nat) (f:Tr→Tr),Sm ts e cs (Pr.bnd (pp ts parse n (.kids k) (i+1) cs) fun e i cs=>some (.ok (f e) i cs)) (Rs.bnd (qp ts e parse (n+8) (.kids k) ⟨i+1,-1,us⟩) fun e st=>some (f e,st)):=fun k f=>
     Sm.bnd (ih (.kids k) (.kids k) (i+1) cs us (.kids k) hc) (Bd.ok f) fun x x' j ds us hd hx=>Sm.ok hd fun o=>⟨o,by rw [(hx o).2]⟩
    refine Sm.ite Iff.rfl (Sm.same hc) ?_
    refine Sm.ite Iff.rfl (kd 1 fun e=>nodeT 11 (fnIx t.text) e.kids) ?_
    refine Sm.ite Iff.rfl (Sm.same hc) ?_
    refine Sm.ite Iff.rfl (Sm.same hc) ?_
    refine Sm.ite Iff.rfl ?_ ?_
    ·refine Sm.bnd (ih .sum .sum (i+1) cs us .sum hc) (Bd.bnd (Bd.take _) fun x=>Bd.ok fun _=>x) fun x x' j ds us hd hx=>?_
     exact Sm.bnd (Sm.want hd) (Bd.ok fun _=>x') fun _ _ j2 es us he hk=>Sm.ok he fun o=>⟨o,(hx (hk o).1).2⟩
    refine Sm.ite Iff.rfl (kd 1 fun e=>nodeT 12 0 e.kids) ?_
    refine Sm.ite Iff.rfl (kd 1 fun e=>nodeT 10 2 e.kids) ?_
    refine Sm.ite Iff.rfl (kd 2 fun e=>nodeT 13 0 e.kids) ?_
    refine Sm.ite Iff.rfl (kd 2 fun e=>nodeT 14 0 e.kids) ?_
    refine Sm.ite Iff.rfl (kd 3 fun e=>nodeT 15 0 e.kids) ?_
    refine Sm.ite Iff.rfl ?_ Sm.bad
    have b5:∀(k:Nat) (x:Tr),Bd fun (_:Unit) (st:Rs)=>some (nodeT 10 (k:Int) [x],st):=fun k x=>Bd.ok fun _=>nodeT 10 k [x]
    have b4:∀k:Nat,Bd fun (x:Tr) (st:Rs)=>Rs.bnd (takeO ts e [41] st) fun _ st=>some (nodeT 10 (k:Int) [x],st):=fun k=>Bd.bnd (Bd.take _) fun x=>b5 k x
    have b3:∀k:Nat,Bd fun (_:Unit) (st:Rs)=>Rs.bnd (qp ts e parse (n+8) .sum st) fun x st=>Rs.bnd (takeO ts e [41] st) fun _ st=>some (nodeT 10 (k:Int) [x],st):=fun k=>Bd.bnd (Bd.qp fun _=>rk _) fun _=>b4 k
    have b2:Bd fun (k:Nat) (st:Rs)=>Rs.bnd (takeO ts e [44] st) fun _ st=>Rs.bnd (qp ts e parse (n+8) .sum st) fun x st=>Rs.bnd (takeO ts e [41] st) fun _ st=>some (nodeT 10 (k:Int) [x],st):=Bd.bnd (Bd.take _) fun k=>b3 k
    refine Sm.bnd (Sm.want hc) (Bd.bnd (Bd.dig _) fun _=>b2) fun _ _ j ds us hd h1=>?_
    refine Sm.bnd (Sm.cnt (root:=true) rfl rfl hd) b2 fun k k' j ds us hd h2=>?_
    refine Sm.bnd (Sm.want hd) (b3 k') fun _ _ j ds us hd h3=>?_
    refine Sm.bnd (ih .sum .sum j ds us .sum hd) (b4 k') fun x x' j ds us hd h4=>?_
    exact Sm.bnd (Sm.want hd) (b5 k' x') fun _ _ j ds us hd h5=>Sm.ok hd fun o=>⟨o,by
      have o4:=(h5 o).1
      have o3:=(h4 o4).1
      have o2:=(h3 o3).1
      rw [(h4 o4).2,(h2 o2).2]⟩
  | kids k=>
   rw [pp,qp]
   exact Sm.bnd (Sm.want hc) (Bd.qp fun _=>rk _) fun _ _ j ds us hd h1=>ih (.kidsL k 0 []) (.kidsL k 0 []) j ds us (.kidsL k 0 fun _=>rfl) hd
  | @kidsL k j acc acc' hm'=>
   rw [pp,qp]
   refine Sm.ite ⟨fun x=>⟨x,show (-1:Int)<0 by decide⟩,fun x=>x.1⟩ (Sm.ite Iff.rfl ?_ ?_) ?_
   ·refine Sm.bnd (Sm.want hc) (Bd.bnd (Bd.qp fun _=>rk _) fun _=>Bd.qp fun _=>rk _) fun _ _ i2 ds us hd h1=>?_
    exact Sm.bnd (ih .sum .sum i2 ds us .sum hd) (Bd.qp fun _=>rk _) fun x x' i3 es us he h2=>ih (.kidsL _ _ _) (.kidsL _ _ _) i3 es us (.kidsL _ _ fun o=>by rw [(h2 o).2,hm' (h1 (h2 o).1).1]) he
   ·exact Sm.bnd (ih .sum .sum i cs us .sum hc) (Bd.qp fun _=>rk _) fun x x' i3 es us he h2=>ih (.kidsL _ _ _) (.kidsL _ _ _) i3 es us (.kidsL _ _ fun o=>by rw [(h2 o).2,hm' (h2 o).1]) he
   ·exact Sm.bnd (Sm.want hc) (Bd.ok fun _=>nodeT 0 0 acc') fun _ _ i2 ds us hd h1=>Sm.ok hd fun o=>⟨o,by rw [hm' (h1 o).1]⟩
end
end Go.Proofs.YtmblpmegfmgjgaaGreatDoor
/- The document's parser of texts, whole: plain; both parsers agree. -/
namespace Go.Proofs.YtmblpmegfmgjgaaGreatDoor
open Go Go.Vc Go.Dig
def badU (u:Tk × Bool):Prop:=(u.2=true∧(whl u.1.text<2∨8<whl u.1.text))∨(u.2=false∧32<whl u.1.text)
instance (u:Tk × Bool):Decidable (badU u):=by unfold badU;exact inferInstance
theorem badU_tc (u:Tk × Bool):badC (tc u)↔badU u:=by
 obtain ⟨t,r⟩:=u
 have key:∀high,high<1000→(cntV high t.text 0≤high→whl t.text=cntV high t.text 0)∧(high<cntV high t.text 0→high<whl t.text):=fun high hh=>by
  refine ⟨fun h=>?_,fun h=>?_⟩
  ·unfold whl;rw [cntV_whl hh _ _ h];omega
  ·have:=cntV_over hh _ _ h;unfold whl;omega
 cases r with
 | true=>
  have k:=key 8 (by decide)
  show (cntV 8 t.text 0<2∨8<cntV 8 t.text 0)↔(true=true∧(whl t.text<2∨8<whl t.text))∨(true=false∧32<whl t.text)
  generalize cntV 8 t.text 0=K at k ⊢
  generalize whl t.text=W at k ⊢
  simp only [true_and,Bool.true_eq_false,false_and,or_false]
  omega
 | false=>
  have k:=key 32 (by decide)
  show (cntV 32 t.text 0<0∨32<cntV 32 t.text 0)↔(false=true∧(whl t.text<2∨8<whl t.text))∨(false=false∧32<whl t.text)
  generalize cntV 32 t.text 0=K at k ⊢
  generalize whl t.text=W at k ⊢
  simp only [true_and,Bool.false_eq_true,false_and,false_or]
  omega
def numY (ts:List Tk) (us:List (Tk × Bool)):Nat × Nat:=match ts.find? (fun t=>decide (badN1 t)) with
 | some t=>(10,t.pos)
 | none=>match ts.find? (fun t=>decide (badN2 t)) with
  | some t=>(1,t.pos)
  | none=>match us.find? (fun u=>decide (badU u)) with
   | some u=>(2,u.1.pos)
   | none=>(0,0)
theorem find_map (us:List (Tk × Bool)):(us.map tc).find? (fun c=>decide (badC c))=(us.find? (fun u=>decide (badU u))).map tc:=by
 induction us with
 | nil=>rfl
 | cons u us ih=>
  rw [List.map_cons,List.find?_cons,List.find?_cons]
  by_cases h:badU u
  ·rw [decide_eq_true ((badU_tc u).2 h),decide_eq_true h];rfl
  ·rw [decide_eq_false (fun x=>h ((badU_tc u).1 x)),decide_eq_false h];exact ih
theorem numY_chk (ts:List Tk) (us:List (Tk × Bool)):chkT ts (us.map tc)=numY ts us:=by
 unfold chkT numY
 cases ts.find? (fun t=>decide (badN1 t)) with
 | some t=>rfl
 | none=>
  have h:(ts.filter (fun t=>decide (badN2 t))).head?=ts.find? (fun t=>decide (badN2 t)):=List.head?_filter ..
  cases hf:ts.filter (fun t=>decide (badN2 t)) with
  | cons t r=>
   rw [hf] at h
   rw [← h]
   rfl
  | nil=>
   rw [hf] at h
   rw [← h,find_map]
   cases us.find? (fun u=>decide (badU u)) with
   | none=>rfl
   | some u=>rfl
theorem chk_okC {ts:List Tk} {cs:List Cn} (h:(chkT ts cs).1=0):okC cs:=by
 unfold chkT at h
 split at h
 ·cases h
 split at h
 ·cases h
 split at h
 ·cases h
 ·rename_i hn
  intro c hc hb
  have:=List.find?_eq_none.1 hn c hc
  exact this (decide_eq_true hb)
def endS (ts:List Tk) (e:Nat) (st:Rs):Rs:=if st.i<ts.length then failS ts e st else st
def parseY (l:List Nat):Tr × Nat × Nat:=
 if 4000<l.length then (zeroT,0,4)
 else if 0≤(scanX l.length l 0 []).2 then (zeroT,(scanX l.length l 0 []).2.toNat,3)
 else match qp (scanX l.length l 0 []).1 l.length prs (8*((scanX l.length l 0 []).1.length+1)+4+8) .sum ⟨0,-1,[]⟩ with
  | none=>(zeroT,0,0)
  | some (x,st)=>
   if 0≤(endS (scanX l.length l 0 []).1 l.length st).bad then (zeroT,(endS (scanX l.length l 0 []).1 l.length st).bad.toNat,3)
   else if (numY (scanX l.length l 0 []).1 st.us).1≠0 then (zeroT,(numY (scanX l.length l 0 []).1 st.us).2,(numY (scanX l.length l 0 []).1 st.us).1)
   else if ValT x then (x,0,0) else (zeroT,0,4)
theorem qp_top (ts:List Tk) (e:Nat):∃x st,qp ts e prs (8*(ts.length+1)+4+8) .sum ⟨0,-1,[]⟩=some (x,st):=by
 have s:=sim (ts:=ts) (e:=e) prs (8*(ts.length+1)+4) .sum .sum 0 [] [] .sum rfl
 rw [parseT_eq] at s
 cases hp:parseT ts prs with
 | bad j=>rw [hp] at s;obtain ⟨x,st,h,-⟩:=s;exact ⟨x,st,h⟩
 | ok x i cs=>rw [hp] at s;obtain ⟨x',us,h,-⟩:=s;exact ⟨x',_,h⟩
theorem agree_same (x:Nat) (h:x≠0):Agree (zeroT,x) (zeroT,x):=⟨rfl,fun _=>rfl,fun e=>absurd e h⟩
theorem parse_agree (l:List Nat):(parseX l).2.1=(parseY l).2.1∧Agree ((parseX l).1,(parseX l).2.2) ((parseY l).1,(parseY l).2.2):=by
 unfold parseX parseY
 by_cases h1:4000<l.length
 ·rw [if_pos h1,if_pos h1]
  exact ⟨rfl,agree_same 4 (by decide)⟩
 rw [if_neg h1,if_neg h1]
 by_cases h2:0≤(scanX l.length l 0 []).2
 ·rw [if_pos h2,if_pos h2]
  exact ⟨rfl,agree_same 3 (by decide)⟩
 rw [if_neg h2,if_neg h2]
 clear h1 h2
 generalize (scanX l.length l 0 []).1=ts
 generalize l.length=e
 have s:=sim (ts:=ts) (e:=e) prs (8*(ts.length+1)+4) .sum .sum 0 [] [] .sum rfl
 rw [parseT_eq] at s
 cases hp:parseT ts prs with
 | bad j=>
  rw [hp] at s
  obtain ⟨x,st,h,hb⟩:=s
  have hb:st.bad=(posAt ts e j:Nat):=hb
  have ht:topP ts=.bad j:=by unfold topP;rw [hp]
  have he:endS ts e st=st:=by
   unfold endS
   split
   ·exact failS_bad (by omega)
   ·rfl
  rw [ht,h]
  show (posAt ts e j=_∧_)
  show posAt ts e j=(if 0≤(endS ts e st).bad then _ else _:Tr × Nat × Nat).2.1∧Agree (zeroT,3) ((if 0≤(endS ts e st).bad then _ else _:Tr × Nat × Nat).1,(if 0≤(endS ts e st).bad then _ else _:Tr × Nat × Nat).2.2)
  rw [he,if_pos (by omega),hb]
  exact ⟨rfl,agree_same 3 (by decide)⟩
 | ok x i cs=>
  rw [hp] at s
  obtain ⟨x',us,h,hcs,hx⟩:=s
  by_cases hi:i<ts.length
  ·have ht:topP ts=.bad i:=by unfold topP;rw [hp];exact if_pos hi
   have he:endS ts e ⟨i,-1,us⟩=⟨i,(posAt ts e i:Nat),us⟩:=by
    unfold endS
    rw [if_pos hi]
    exact failS_good
   rw [ht,h]
   show posAt ts e i=(if 0≤(endS ts e ⟨i,-1,us⟩).bad then _ else _:Tr × Nat × Nat).2.1∧Agree (zeroT,3) ((if 0≤(endS ts e ⟨i,-1,us⟩).bad then _ else _:Tr × Nat × Nat).1,(if 0≤(endS ts e ⟨i,-1,us⟩).bad then _ else _:Tr × Nat × Nat).2.2)
   rw [he,if_pos (by show (0:Int)≤(posAt ts e i:Nat);omega)]
   exact ⟨rfl,agree_same 3 (by decide)⟩
  ·have ht:topP ts=.ok x i cs:=by unfold topP;rw [hp];exact if_neg hi
   have he:endS ts e ⟨i,-1,us⟩=⟨i,-1,us⟩:=if_neg hi
   rw [ht,h]
   show (if (chkT ts cs).1≠0 then _ else _:Tr × Nat × Nat).2.1=(if 0≤(endS ts e ⟨i,-1,us⟩).bad then _ else (if (numY ts us).1≠0 then _ else _):Tr × Nat × Nat).2.1∧Agree ((if (chkT ts cs).1≠0 then _ else _:Tr × Nat × Nat).1,(if (chkT ts cs).1≠0 then _ else _:Tr × Nat × Nat).2.2)
    ((if 0≤(endS ts e ⟨i,-1,us⟩).bad then _ else (if (numY ts us).1≠0 then _ else _):Tr × Nat × Nat).1,(if 0≤(endS ts e ⟨i,-1,us⟩).bad then _ else (if (numY ts us).1≠0 then _ else _):Tr × Nat × Nat).2.2)
   rw [he,if_neg (show ¬(0:Int)≤-1 by decide)]
   rw [hcs,numY_chk] 
   by_cases hn:(numY ts us).1≠0
   ·rw [if_pos hn,if_pos hn]
    exact ⟨rfl,agree_same _ hn⟩
   ·have hok:okC cs:=by rw [hcs];exact chk_okC (ts:=ts) (by rw [numY_chk];exact Decidable.not_not.1 hn)
    obtain rfl:=(hx hok).2
    rw [if_neg hn,if_neg hn]
    unfold chkdT
    by_cases hv:ValT x
    ·rw [if_pos hv,if_pos hv]
     exact ⟨rfl,rfl,fun e=>absurd rfl e,fun _=>⟨okT_clone hv.1,hv.1,sameB_key.2 (key_clone hv.1)⟩⟩
    ·rw [if_neg hv,if_neg hv]
     exact ⟨rfl,agree_same 4 (by decide)⟩
end Go.Proofs.YtmblpmegfmgjgaaGreatDoor
/- Tokens: the document's scanner; its reading of numbers. -/
namespace Go.Dig
theorem getD_drop (l:List Nat) (a i:Nat):(l.drop a).getD i 0=l.getD (a+i) 0:=by simp [List.getD_eq_getElem?_getD]
theorem while_drop {p:Nat→Bool} (l:List Nat) (a k:Nat) (hak:a≤k) (hk:k≤l.length) (h1:∀i,a≤i→i<k→p (l.getD i 0)=true) (h2:k=l.length∨¬p (l.getD k 0)=true):((l.drop a).takeWhile p).length=k-a:=
 while_len (p:=p) (l.drop a) (k-a) (by rw [List.length_drop];omega) (fun i hi=>by rw [getD_drop];exact h1 _ (by omega) (by omega)) (by
   rcases h2 with x|x
   ·left;rw [List.length_drop];omega
   ·right;rw [getD_drop,show a+(k-a)=k by omega];exact x)
def rk (k:Nat):Nat:=if k=0 then 4 else k
end Go.Dig
namespace Go.Vc
open Go Go.Dig
def rtv (t:Tk):List Value:=[.int .i64 (rk t.kind),.int .i64 t.pos,.string (txt t.text)]
def rtc (ts:List Tk):List Value:=ts.flatMap rtv
theorem rtc_snoc (ts:List Tk) (t:Tk):rtc (ts++[t])=rtc ts++rtv t:=by unfold rtc;simp
theorem rtc_len:∀ts:List Tk,(rtc ts).length=ts.length*3
 | []=>rfl
 | t::ts=>by unfold rtc;rw [List.flatMap_cons,List.length_append];have:=rtc_len ts;unfold rtc at this;rw [this];simp [rtv];omega
end Go.Vc
namespace Go.Proofs.YtmblpmegfmgjgaaGreatDoor
open Go Go.Vc Go.Dig
theorem Rdigits_ct (h:Heap) (l:List Nat) (hb:∀y∈l,y<256) (hl:l.length≤1000000) (a:Nat) (ha:a≤l.length) (x:Int) (hx:x=a):Fn0 T F.ref04_digits [.string (txt l),.int .i64 x] h fun v h'=>h'=h∧v=.int .i64 ((a+dlen (l.drop a):Nat):Int):=by
 subst hx
 have hz:=txt_size l
 refine fn0_of_codeI ok D.ref04_digits rfl ?_
 conv=>whnf
 repeat ((first|refine oz ?_|refine cz ?_);conv=>whnf)
 skip
 refine LoopN.of (fun r ρ h' L=>∃k:Nat,r=l.length-k∧h'=h∧rd ρ 1=.int .i64 k∧a≤k∧k≤l.length∧Hq (∀i,a≤i→i<k→dgt (l.getD i 0)=true)) (l.length-a) ⟨a,rfl,rfl,rfl,Nat.le_refl _,ha,⟨fun i hi hj=>by omega⟩⟩ ?_
 conv=>whnf
 repeat intro _
 rename_i r h1 L1 hI
 obtain ⟨k,rfl,rfl,e1,hak,hk,hd⟩:=hI
 conv at e1=>lhs;whnf
 subst e1
 have hs:=fun (x:k<l.length) (y:dgt (l.getD k 0)=true) i (hi:a≤i) (hj:i<k+1)=>(by
   by_cases e:i=k
   ·subst e;exact y
   ·exact hd.out i hi (by omega):dgt (l.getD i 0)=true)
 have hw:(k=l.length∨¬dgt (l.getD k 0)=true)→dlen (l.drop a)=k-a:=fun x=>while_drop l a k hak hk hd.out x
 obtain ⟨X,hX⟩:∃X,X=l.getD k 0:=⟨_,rfl⟩
 rw [← hX] at hs hw
 have d1:48≤X→X≤57→dgt X=true:=fun a b=>dgt_iff.2 ⟨a,b⟩
 have d2:¬(48≤X∧X≤57)→¬dgt X=true:=fun a b=>a (dgt_iff.1 b)
 replace hs:=Hq.mk hs
 replace hw:=Hq.mk hw
 replace d1:=Hq.mk d1
 replace d2:=Hq.mk d2
 conv=>whnf
 repeat ((first|refine oz ?_|refine cz ?_);conv=>whnf)
 repeat' first|((first|(show IdxS _ _ _;(refine IdxS.txt l rfl hb k (by omega) (by omega) ?_;rw [← hX]))|((first|refine oz ?_|refine cz ?_))|refine WrapN.i64 (by omega) (by omega) ?_) <;> (conv=>whnf))|(show cnd _ _ _;first|(refine cnd_lt (fun _=>?_) (fun _=>?_) <;> first|(exfalso;omega)|(conv=>whnf))|(refine cnd_le (fun _=>?_) (fun _=>?_) <;> first|(exfalso;omega)|(conv=>whnf)))
 all_goals first
  | exact ⟨rfl,l.length-(k+1),by omega,k+1,rfl,rfl,vi (by omega),by omega,by omega,⟨hs.out (by omega) (d1.out (by omega) (by omega))⟩⟩
  | (refine RetN.all ⟨rfl,?_⟩;rw [hw.out (by first|(left;omega)|(right;exact d2.out (by omega)))];exact vi (by omega))
theorem Rnumber_ct (h:Heap) (l:List Nat) (hb:∀y∈l,y<256) (hl:l.length≤1000000) (a:Nat) (ha:a≤l.length) (h0:0<dlen (l.drop a)):Fn0 T F.ref04_number [.string (txt l),.int .i64 a] h fun v h'=>h'=h∧v=.int .i64 ((a+nlen (l.drop a):Nat):Int):=by
 have hz:=txt_size l
 have hd1:=dlen_le (l.drop a)
 rw [List.length_drop] at hd1
 have c1:=fun h=>Rdigits_ct h l hb hl a ha a rfl
 have n1:a+dlen (l.drop a)<l.length→(l.getD (a+dlen (l.drop a)) 0=46∨l.getD (a+dlen (l.drop a)) 0=47)→0<dlen (l.drop (a+dlen (l.drop a)+1))→a+nlen (l.drop a)=a+dlen (l.drop a)+1+dlen (l.drop (a+dlen (l.drop a)+1)):=fun b c d=>by
  unfold nlen
  rw [getD_drop,List.drop_drop,List.length_drop,← Nat.add_assoc a,if_pos ⟨h0,by omega,c,d⟩]
  omega
 have n2:¬(a+dlen (l.drop a)<l.length∧(l.getD (a+dlen (l.drop a)) 0=46∨l.getD (a+dlen (l.drop a)) 0=47)∧0<dlen (l.drop (a+dlen (l.drop a)+1)))→a+nlen (l.drop a)=a+dlen (l.drop a):=fun b=>by
  unfold nlen
  rw [getD_drop,List.drop_drop,List.length_drop,← Nat.add_assoc a,if_neg fun x=>b ⟨by omega,x.2.2.1,x.2.2.2⟩]
 have hE:a+dlen (l.drop a)≤l.length:=by omega
 obtain ⟨E,hEe⟩:∃E,E=a+dlen (l.drop a):=⟨_,rfl⟩
 rw [← hEe] at n1 n2 hE
 simp only [← hEe] at c1
 have hm:=dlen_le (l.drop (E+1))
 rw [List.length_drop] at hm
 have c2:=fun h (x:E<l.length)=>Rdigits_ct h l hb hl (E+1) (by omega) ((E:Int)+1) rfl
 obtain ⟨M,hM⟩:∃X,X=dlen (l.drop (E+1)):=⟨_,rfl⟩
 obtain ⟨X,hX⟩:∃X,X=l.getD E 0:=⟨_,rfl⟩
 obtain ⟨R,hR⟩:∃X,X=a+nlen (l.drop a):=⟨_,rfl⟩
 rw [← hM] at n1 n2 hm
 simp only [← hM] at c2
 rw [← hX,← hR] at n1 n2
 rw [← hR]
 obtain ⟨E2,hE2⟩:∃X,X=E+1+M:=⟨_,rfl⟩
 simp only [← hE2] at c2
 clear hEe hM hd1 hR
 refine fn0_of_codeI ok D.ref04_number rfl ?_
 conv=>whnf
 repeat ((first|refine oz ?_|refine cz ?_);conv=>whnf)
 repeat' first|((first|(show SeqN _ _ _ _ _ _ _;refine SeqN.go ?_)|(show CallN _ _ _ _ _ _;first|refine CallN.quiet rfl (c1 _) ?_|refine CallN.quiet rfl (c2 _ (by omega)) ?_)|(show IdxS _ _ _;(refine IdxS.txt l rfl hb E (by omega) (by omega) ?_;rw [← hX]))|((first|refine oz ?_|refine cz ?_))|refine WrapN.i64 (by omega) (by omega) ?_) <;> (conv=>whnf))|(show cnd _ _ _;first|(refine cnd_lt (fun _=>?_) (fun _=>?_) <;> first|(exfalso;omega)|(conv=>whnf))|(refine cnd_eq (fun _=>?_) (fun _=>?_) <;> first|(exfalso;omega)|(conv=>whnf)))
 all_goals first
  | (refine RetN.all ⟨rfl,vi ?_⟩;rw [n1 (by omega) (by omega) (by omega)];omega)
  | (refine RetN.all ⟨rfl,vi ?_⟩;rw [n2 (by omega)])
theorem Rletters_ct (h:Heap) (l:List Nat) (hb:∀y∈l,y<256) (hl:l.length≤1000000) (a:Nat) (ha:a≤l.length):Fn0 T F.ref04_letters [.string (txt l),.int .i64 a] h fun v h'=>h'=h∧v=.int .i64 ((a+((l.drop a).takeWhile aln).length:Nat):Int):=by
 have hz:=txt_size l
 refine fn0_of_codeI ok D.ref04_letters rfl ?_
 conv=>whnf
 repeat ((first|refine oz ?_|refine cz ?_);conv=>whnf)
 skip
 refine LoopN.of (fun r ρ h' L=>∃k:Nat,r=l.length-k∧h'=h∧rd ρ 1=.int .i64 k∧a≤k∧k≤l.length∧Hq (∀i,a≤i→i<k→aln (l.getD i 0)=true)) (l.length-a) ⟨a,rfl,rfl,rfl,Nat.le_refl _,ha,⟨fun i hi hj=>by omega⟩⟩ ?_
 conv=>whnf
 repeat intro _
 rename_i r h1 L1 hI
 obtain ⟨k,rfl,rfl,e1,hak,hk,hd⟩:=hI
 conv at e1=>lhs;whnf
 subst e1
 have hs:=fun (x:k<l.length) (y:aln (l.getD k 0)=true) i (hi:a≤i) (hj:i<k+1)=>(by
   by_cases e:i=k
   ·subst e;exact y
   ·exact hd.out i hi (by omega):aln (l.getD i 0)=true)
 have hw:(k=l.length∨¬aln (l.getD k 0)=true)→((l.drop a).takeWhile aln).length=k-a:=fun x=>while_drop l a k hak hk hd.out x
 obtain ⟨X,hX⟩:∃X,X=l.getD k 0:=⟨_,rfl⟩
 rw [← hX] at hs hw
 have d1:(97≤X∧X≤122)∨(48≤X∧X≤57)→aln X=true:=fun a=>aln_iff.2 (a.imp ltr_iff.2 dgt_iff.2)
 have d2:¬((97≤X∧X≤122)∨(48≤X∧X≤57))→¬aln X=true:=fun a b=>a ((aln_iff.1 b).imp ltr_iff.1 dgt_iff.1)
 replace hs:=Hq.mk hs
 replace hw:=Hq.mk hw
 replace d1:=Hq.mk d1
 replace d2:=Hq.mk d2
 conv=>whnf
 repeat ((first|refine oz ?_|refine cz ?_);conv=>whnf)
 repeat' first|((first|(show IdxS _ _ _;(refine IdxS.txt l rfl hb k (by omega) (by omega) ?_;rw [← hX]))|((first|refine oz ?_|refine cz ?_))|refine WrapN.i64 (by omega) (by omega) ?_) <;> (conv=>whnf))|(show cnd _ _ _;first|(refine cnd_lt (fun _=>?_) (fun _=>?_) <;> first|(exfalso;omega)|(conv=>whnf))|(refine cnd_le (fun _=>?_) (fun _=>?_) <;> first|(exfalso;omega)|(conv=>whnf)))
 all_goals first
  | exact ⟨rfl,l.length-(k+1),by omega,k+1,rfl,rfl,vi (by omega),by omega,by omega,⟨hs.out (by omega) (d1.out (by omega))⟩⟩
  | (refine RetN.all ⟨rfl,?_⟩;rw [hw.out (by first|(left;omega)|(right;exact d2.out (by omega)))];exact vi (by omega))
theorem RFind_ct (h:Heap) (l:List Nat) (hb:∀y∈l,y<256):Fn0 T F.ref02_Find [.string (txt l)] h fun v h'=>v=.tuple #[.int .i64 (fnIx l:Nat),.bool (dec (l∈fnames))]:=by
 refine fn0_of_codeI ok D.ref02_Find rfl ?_
 conv=>whnf
 repeat ((first|refine oz ?_|refine cz ?_);conv=>whnf)
 skip
 refine LoopN.keepL (fun r ρ hx=>∃k:Nat,r=8-k∧rd ρ 4=.int .i64 ((k:Int)+1)∧k≤8∧Hq (∀j,j<k→fnames.getD j []≠l)) 8 ⟨0,rfl,rfl,by omega,⟨fun i hi=>by omega⟩⟩ ?_
 conv=>whnf
 repeat intro _
 rename_i r h1 hle hI
 obtain ⟨k,rfl,e4,hk,hd⟩:=hI
 conv at e4=>lhs;whnf
 subst e4
 have hg:k<8→∀y∈fnames.getD k [],y<256:=fun x=>fnames_lt _ (getD_mem x)
 have g1:=fun (x:k<8) y=>idx_at l k x y
 have g2:=fun (x:k=8)=>idx_no l (by subst x;exact hd.out)
 have g3:k<8→fnames.getD k []≠l→∀j,j<k+1→fnames.getD j []≠l:=fun x y j hj=>by
  by_cases e:j=k
  ·subst e;exact y
  ·exact hd.out j (by omega)
 have c1:k<8→∀h,Fn0 T F.ref02_Name [.int .i64 ((k:Int)+1)] h fun v h'=>v=.string (txt (fnames.getD k [])):=fun x h=>RName_ct h (k+1) (by omega) (by omega)
 obtain ⟨X,hX⟩:∃X,X=fnames.getD k []:=⟨_,rfl⟩
 rw [← hX] at hg g1 g3
 simp only [← hX] at c1
 replace g1:=Hq.mk g1
 replace g2:=Hq.mk g2
 replace g3:=Hq.mk g3
 conv=>whnf
 repeat ((first|refine oz ?_|refine cz ?_);conv=>whnf)
 repeat' first|((first|(show CallN _ _ _ _ _ _;(refine CallN.fn rfl (c1 (by omega) _) (fun v h' hl2 hr=>?_);subst hr))|((first|refine oz ?_|refine cz ?_))|refine WrapN.i64 (by omega) (by omega) ?_) <;> (conv=>whnf))|(show cnd _ _ _;first|(refine cnd_txt (hg (by omega)) hb (fun _=>?_) (fun _=>?_) <;> (conv=>whnf))|(refine cnd_le (fun _=>?_) (fun _=>?_) <;> first|(exfalso;omega)|(conv=>whnf)))
 all_goals first
  | exact ⟨rfl,8-(k+1),by omega,(by (iterate 30 try first|assumption|refine Heap.le_trans ?_ (by assumption));first|done|assumption),rfl,k+1,rfl,vi (by omega),by omega,⟨g3.out (by omega) (by assumption)⟩⟩
  | (rw [(g1.out (by omega) (by assumption)).2,dec_true (g1.out (by omega) (by assumption)).1];exact RetN.all (by simp))
  | (rw [(g2.out (by omega)).2,dec_false (g2.out (by omega)).1];exact RetN.all rfl)
def wkd (l:List Nat):Nat:=if l∈fnames then 3 else if IsNm l then 2 else if Resd l then 4 else 0
theorem Rkind_ct (h:Heap) (l:List Nat) (hb:∀y∈l,y<256):Fn0 T F.ref04_kind [.string (txt l)] h fun v h'=>v=.int .i64 (wkd l:Nat):=by
 obtain ⟨R,hR⟩:∃R,R=fnames++rwords:=⟨_,rfl⟩
 have hRl:R.length=19:=by rw [hR];rfl
 have hRb:∀w∈R,∀y∈w,y<256:=by
  rw [hR];intro w hw
  exact (List.mem_append.1 hw).elim (fnames_lt w) (rwords_lt w)
 have hRm:l∈R↔Resd l:=by rw [hR,List.mem_append];exact Or.comm
 have c1:=reserved_ct
 rw [← hR] at c1
 have c2:=fun h=>RFind_ct h l hb
 have c3:=fun h=>RIsName_any h l hb
 have w1:l∈fnames→wkd l=3:=fun x=>if_pos x
 have w2:l∉fnames→IsNm l→wkd l=2:=fun x y=>(if_neg x).trans (if_pos y)
 have w3:l∉fnames→¬IsNm l→l∈R→wkd l=4:=fun x y z=>(if_neg x).trans ((if_neg y).trans (if_pos (hRm.1 z)))
 have w4:l∉fnames→¬IsNm l→l∉R→wkd l=0:=fun x y z=>(if_neg x).trans ((if_neg y).trans (if_neg fun u=>z (hRm.2 u)))
 obtain ⟨K,hK⟩:∃K,K=wkd l:=⟨_,rfl⟩
 rw [← hK] at w1 w2 w3 w4 ⊢
 clear hR hRm hK
 refine fn0_of_codeI ok D.ref04_kind rfl ?_
 conv=>whnf
 repeat ((first|refine oz ?_|refine cz ?_);conv=>whnf)
 repeat' first|((first|(show CallN _ _ _ _ _ _;first|(refine CallN.fn rfl (c2 _) (fun v h' hl hr=>?_);subst hr)|(refine CallN.fn rfl (c3 _) (fun v h' hl hr=>?_);subst hr)|(refine CallN.fn rfl (c1 _) (fun v h' hl hr=>?_);obtain ⟨s,rfl,hs⟩:=hr;have hsl:=hs.len))|((first|refine oz ?_|refine cz ?_))) <;> (conv=>whnf))|(refine cnd_dec (fun _=>?_) (fun _=>?_) <;> first|(exfalso;omega)|(conv=>whnf))
 all_goals first
  | exact RetN.all (vi (by rw [w1 (by assumption)];rfl))
  | exact RetN.all (vi (by rw [w2 (by assumption) (by assumption)];rfl))
  | skip
 have w3:=w3 (by assumption) (by assumption)
 have w4:=w4 (by assumption) (by assumption)
 refine LoopN.of (fun r ρ h1 L=>∃k:Nat,r=19-k∧h1=h'∧rd ρ 6=.int .i64 k∧k≤19∧Hq (∀j,j<k→R.getD j []≠l)) 19 ⟨0,rfl,rfl,vi (by omega),by omega,⟨fun i hi=>by omega⟩⟩ ?_
 conv=>whnf
 repeat intro _
 rename_i r h1 L1 hI
 obtain ⟨k,rfl,rfl,e6,hk,hd⟩:=hI
 conv at e6=>lhs;whnf
 subst e6
 have hg:k<19→∀y∈R.getD k [],y<256:=fun x=>hRb _ (getD_mem (by omega))
 have g1:=fun (x:k<19) (y:R.getD k []=l)=>w3 (y▸getD_mem (by omega))
 have g2:=fun (x:k=19)=>w4 fun hm=>by
  obtain ⟨i,hi,e⟩:=List.getElem_of_mem hm
  exact hd.out i (by omega) (by simp [List.getD_eq_getElem?_getD,hi,e])
 have g3:k<19→R.getD k []≠l→∀j,j<k+1→R.getD j []≠l:=fun x y j hj=>by
  by_cases e:j=k
  ·subst e;exact y
  ·exact hd.out j (by omega)
 obtain ⟨X,hX⟩:∃X,X=R.getD k []:=⟨_,rfl⟩
 rw [← hX] at hg g1 g3
 replace g1:=Hq.mk g1
 replace g2:=Hq.mk g2
 replace g3:=Hq.mk g3
 clear w1 w2 w3 w4
 conv=>whnf
 repeat ((first|refine oz ?_|refine cz ?_);conv=>whnf)
 repeat' first|((first|(show Idx _ _ _ _ _;refine Idx.strs hs k (by omega) (by omega) (fun ad hv=>?_))|(show Ld _ _ _ _;(refine Ld.of (by first|exact hv _|(rename_i hv;exact hv _)) ?_;rw [← hX]))|((first|refine oz ?_|refine cz ?_))|refine WrapN.i64 (by omega) (by omega) ?_) <;> (conv=>whnf))|(show cnd _ _ _;first|(refine cnd_txt (hg (by omega)) hb (fun _=>?_) (fun _=>?_) <;> (conv=>whnf))|(refine cnd_lt (fun _=>?_) (fun _=>?_) <;> first|(exfalso;omega)|(conv=>whnf)))
 all_goals first
  | exact ⟨rfl,19-(k+1),by omega,k+1,rfl,rfl,vi (by omega),by omega,⟨g3.out (by omega) (by assumption)⟩⟩
  | exact RetN.all (vi (by rw [g1.out (by omega) (by assumption)];rfl))
  | exact RetN.all (vi (by rw [g2.out (by omega)];rfl))
theorem Rsign_ct (h:Heap) (l:List Nat) (hb:∀y∈l,y<256) (hl:l.length≤1000000) (a c:Nat) (hc:l[a]?=some c):Fn0 T F.ref04_sign [.string (txt l),.int .i64 a,.bool false] h fun v h'=>h'=h∧v=.int .i64 (if [c]∈signsL then 1 else 0):=by
 have hz:=txt_size l
 have ha:=(List.getElem?_eq_some_iff.1 hc).1
 have y1:c=43∨c=45∨c=42∨c=47∨c=94∨c=40∨c=41∨c=44→(if [c]∈signsL then (1:Int) else 0)=1:=fun x=>if_pos (by simpa [signsL] using x)
 have y0:¬(c=43∨c=45∨c=42∨c=47∨c=94∨c=40∨c=41∨c=44)→(if [c]∈signsL then (1:Int) else 0)=0:=fun x=>if_neg fun y=>x (by simpa [signsL] using y)
 obtain ⟨R,hR⟩:∃R:Int,R=if [c]∈signsL then 1 else 0:=⟨_,rfl⟩
 rw [← hR] at y1 y0 ⊢
 replace y1:=Hq.mk y1
 replace y0:=Hq.mk y0
 clear hR
 refine fn0_of_codeI ok D.ref04_sign rfl ?_
 conv=>whnf
 repeat ((first|refine oz ?_|refine cz ?_);conv=>whnf)
 repeat' first|((first|(show SeqN _ _ _ _ _ _ _;refine SeqN.go ?_)|(show IdxS _ _ _;refine IdxS.at l c rfl hb a (by omega) hc ?_)|((first|refine oz ?_|refine cz ?_))) <;> (conv=>whnf))|(refine cnd_eq (fun _=>?_) (fun _=>?_) <;> first|(exfalso;omega)|(conv=>whnf))
 all_goals first
  | exact RetN.all ⟨rfl,vi (y1.out (by omega)).symm⟩
  | exact RetN.all ⟨rfl,vi (y0.out (by omega)).symm⟩
end Go.Proofs.YtmblpmegfmgjgaaGreatDoor
/- Tokens: the document's scanner, walked. -/
namespace Go.Dig
def RTok (l:List Nat) (K m:Nat):Prop:=(∃kind,K=rk kind∧tok1 l=some (kind,m)∧0<m∧m≤l.length)∨(K=0∧tok1 l=none)
theorem rk_ne (k:Nat):rk k≠0:=by unfold rk;split <;> omega
end Go.Dig
namespace Go.Proofs.YtmblpmegfmgjgaaGreatDoor
open Go Go.Vc Go.Dig
theorem rtok_word {l:List Nat} (h:0<wlen l):RTok l (wkd (l.take (wlen l))) (wlen l):=by
 have hle:=wlen_le l
 unfold wkd
 by_cases h1:l.take (wlen l)∈fnames
 ·rw [if_pos h1];exact .inl ⟨3,rfl,tok1_fn h h1,h,hle⟩
 rw [if_neg h1]
 by_cases h2:IsNm (l.take (wlen l))
 ·rw [if_pos h2];exact .inl ⟨2,rfl,tok1_nm h h1 h2,h,hle⟩
 rw [if_neg h2]
 by_cases h3:Resd (l.take (wlen l))
 ·rw [if_pos h3];exact .inl ⟨0,rfl,tok1_rs h h1 h2 h3,h,hle⟩
 ·rw [if_neg h3];exact .inr ⟨rfl,tok1_no h h1 h2 h3⟩
def ScR (h:Heap) (v:Value) (R:List Tk × Int):Prop:=(R.2=-1∧∃s:Sl,v=.tuple #[s.val,.int .i64 0,.bool true]∧Rw h s 3 (rtc R.1))∨∃k:Nat,R.2=k∧v=.tuple #[.slice none 0 0,.int .i64 k,.bool false]
theorem RScan_ct (h:Heap) (l:List Nat) (hb:∀y∈l,y<256) (hl:l.length≤1000000):Fn0 T F.ref04_Scan [.string (txt l),.bool false] h fun v h'=>ScR h' v (scanX l.length l 0 []):=by
 have hz:=txt_size l
 obtain ⟨R,hR⟩:∃R,R=scanX l.length l 0 []:=⟨_,rfl⟩
 rw [← hR]
 refine fn0_of_codeI ok D.ref04_Scan rfl ?_
 conv=>whnf
 repeat ((first|refine oz ?_|refine cz ?_);conv=>whnf)
 skip
 refine LoopN.of (fun r ρ h' L=>∃(k n:Nat) (v:Value) (acc:List Tk),r=l.length-k∧h.le h'∧rd ρ 8=.int .i64 k∧rd ρ 7=v∧k≤l.length∧GrowS Ty.ref04_Token 3 v acc.length (rtc acc) L∧acc.length≤k∧l.length-k≤n∧Hq (R=scanX n (l.drop k) k acc)) l.length
  ⟨0,l.length,_,[],rfl,Heap.le_refl _,rfl,rfl,by omega,GrowS.nil _ _ _,Nat.le_refl _,Nat.le_refl _,⟨hR⟩⟩ ?_
 conv=>whnf
 repeat intro _
 rename_i r h1 L1 hI
 obtain ⟨k,n,v,acc,rfl,hle,e8,e7,hk,g,hac,hn,hq⟩:=hI
 conv at e7=>lhs;whnf
 subst e7
 conv at e8=>lhs;whnf
 subst e8
 by_cases hke:k=l.length
 ·subst hke
  have hq:=hq.out
  rw [List.drop_length,show scanX n [] l.length acc=(acc,-1) by cases n <;> rfl] at hq
  conv=>whnf
  repeat ((first|refine oz ?_|refine cz ?_);conv=>whnf)
  repeat' first|((first|((first|refine oz ?_|refine cz ?_))) <;> (conv=>whnf))|(refine cnd_lt (fun _=>?_) (fun _=>?_) <;> first|(exfalso;omega)|(conv=>whnf))
  rw [hq]
  exact RetN.growR (size:=3) (by decide) g fun h' s hl e w=>.inl ⟨rfl,s,by rw [e],w⟩
 ·have hkl:k<l.length:=by omega
  obtain ⟨c,hc⟩:∃c,c=l.getD k 0:=⟨_,rfl⟩
  obtain ⟨m,hm⟩:∃m,m=l.drop (k+1):=⟨_,rfl⟩
  have hdr:l.drop k=c::m:=by rw [List.drop_eq_getElem_cons hkl,hc,hm];simp [List.getD_eq_getElem?_getD,hkl]
  have hck:l[k]?=some c:=by rw [hc];simp [List.getD_eq_getElem?_getD,hkl]
  have hq:=hq.out
  rw [hdr] at hq
  obtain ⟨n',rfl⟩:∃n',n=n'+1:=⟨n-1,by omega⟩
  rw [scanX] at hq
  by_cases h32:c=32
  ·subst h32
   rw [if_pos rfl,hm] at hq
   replace hq:=Hq.mk hq
   clear hc hm hdr
   conv=>whnf
   repeat ((first|refine oz ?_|refine cz ?_);conv=>whnf)
   repeat' first|((first|(show SeqN _ _ _ _ _ _ _;refine SeqN.go ?_)|(show IdxS _ _ _;refine IdxS.at l 32 rfl hb k (by omega) hck ?_)|((first|refine oz ?_|refine cz ?_))|intro (_:Nat)|refine WrapN.i64 (by omega) (by omega) ?_|refine Sto.lit 0 rfl rfl rfl ?_) <;> (conv=>whnf))|(show cnd _ _ _;first|(refine cnd_lt (fun _=>?_) (fun _=>?_) <;> first|(exfalso;omega)|(conv=>whnf))|(refine cnd_eq (fun _=>?_) (fun _=>?_) <;> first|(exfalso;omega)|(conv=>whnf)))
   all_goals exact ⟨rfl,l.length-(k+1),by omega,k+1,n',_,acc,rfl,hle,vi (by omega),rfl,by omega,g.cons _,by omega,by omega,hq⟩
  ·rw [if_neg h32] at hq
   obtain ⟨rest,hrest⟩:∃r,r=c::m:=⟨_,rfl⟩
   rw [← hrest] at hq hdr
   have hrl:rest.length=l.length-k:=by rw [← hdr,List.length_drop]
   have hr8:∀y∈rest,y<256:=fun y hy=>hb y (by rw [← hdr] at hy;exact List.mem_of_mem_drop hy)
   have cut2:∀n,(l.take (k+n)).drop k=rest.take n:=fun n=>by rw [← hdr,List.drop_take,Nat.add_sub_cancel_left]
   have hdr2:∀n,rest.drop n=l.drop (k+n):=fun n=>by rw [← hdr,List.drop_drop]
   have wl0:ltr c=true→wlen rest=(rest.takeWhile aln).length∧0<wlen rest:=fun x=>by
    have hx:aln c=true:=by unfold aln;rw [x];rfl
    rw [hrest,wlen,if_pos x,List.takeWhile_cons,if_pos hx]
    exact ⟨rfl,Nat.succ_pos _⟩
   have wl1:¬ltr c=true→wlen rest=0:=fun x=>by rw [hrest,wlen,if_neg x]
   have dl0:dgt c=true→0<dlen rest:=fun x=>by unfold dlen;rw [hrest,List.takeWhile_cons,if_pos x];exact Nat.succ_pos _
   have dl1:¬dgt c=true→nlen rest=0:=fun x=>by
    have:dlen rest=0:=by unfold dlen;rw [hrest,List.takeWhile_cons,if_neg x];rfl
    unfold nlen;rw [this,if_neg (by omega)]
   have tk1:rest.take 1=[c]:=by rw [hrest];rfl
   have c1:=fun h=>Rletters_ct h l hb hl k hk
   have c2:=fun h x=>Rnumber_ct h l hb hl k hk x
   have c3:=fun h=>Rsign_ct h l hb hl k c hck
   simp only [hdr] at c1 c2
   have wl:=wlen_le rest
   have nl:=nlen_le rest
   clear hrest hm hdr
   replace hq:=Hq.mk hq
   replace hc:=Hq.mk hc
   conv=>whnf
   repeat ((first|refine oz ?_|refine cz ?_);conv=>whnf)
   repeat' first|((first|(show IdxS _ _ _;refine IdxS.at l c rfl hb k (by omega) hck ?_)|refine Sto.lit 0 rfl rfl rfl ?_) <;> (conv=>whnf))|(refine codeI.stopB 2 ?_)|((first|refine oz ?_|refine cz ?_);conv=>whnf)|(intro (_:Nat);conv=>whnf)|(refine cnd_lt (fun _=>?_) (fun _=>?_) <;> first|(exfalso;omega)|(conv=>whnf))
   rename_i b9
   refine ⟨SeqN.cut (fun ρ h' L'=>∃(K E:Nat),rd ρ 8=.int .i64 k∧rd ρ 11=.int .i64 E∧h1.le h'∧L'=(b9,.cells [.int .i64 K,.int .i64 k,.string (txt [])].toArray Ty.ref04_Token (0,0))::L1∧k≤E∧RTok rest K (E-k)) ?_ ?_⟩
   ·by_cases hw:ltr c=true
    ·obtain ⟨e1,e2⟩:=wl0 hw
     have hlt:=ltr_iff.1 hw
     rw [← e1] at c1
     have hT:=rtok_word e2
     obtain ⟨w,hwd⟩:∃w,w=rest.take (wlen rest):=⟨_,rfl⟩
     have w8:∀y∈w,y<256:=fun y hy=>by rw [hwd] at hy;exact hr8 y (List.mem_of_mem_take hy)
     have c4:=fun h=>Rkind_ct h w w8
     have cw:=cut2 (wlen rest)
     rw [← hwd] at cw hT
     obtain ⟨E,hE⟩:∃E,E=k+wlen rest:=⟨_,rfl⟩
     rw [show wlen rest=E-k by omega] at hT
     rw [← hE] at c1 cw
     have hE1:k≤E:=by omega
     have hE2:E≤l.length:=by omega
     obtain ⟨K,hK⟩:∃K,K=wkd w:=⟨_,rfl⟩
     rw [← hK] at hT
     simp only [← hK] at c4
     clear hwd hE hK wl nl c2 c3 e1 e2 wl0 wl1 dl0 dl1
     conv=>whnf
     repeat ((first|refine oz ?_|refine cz ?_);conv=>whnf)
     repeat' first|((first|(show CallN _ _ _ _ _ _;first|refine CallN.quiet rfl (c1 _) ?_|(refine CallN.fn rfl (c4 _) (fun v h' hl hr=>?_);subst hr))|(show Cut _ _ _ _;(refine Cut.txt l k E (by omega) (by omega) rfl (by omega) (by omega) ?_;rw [txt_sub,cw]))|((first|refine oz ?_|refine cz ?_))|refine Sto.lit 0 rfl rfl rfl ?_) <;> (conv=>whnf))|(show cnd _ _ _;first|(refine cnd_le (fun _=>?_) (fun _=>?_) <;> first|(exfalso;omega)|(conv=>whnf))|(refine cnd_eq (fun _=>?_) (fun _=>?_) <;> first|(exfalso;omega)|(conv=>whnf)))
     all_goals exact ⟨rfl,K,E,rfl,rfl,(by assumption),rfl,hE1,hT⟩
    ·have e1:=wl1 hw
     have hnl:¬(97≤c∧c≤122):=fun x=>hw (ltr_iff.2 x)
     by_cases hd:dgt c=true
     ·have hdt:=dgt_iff.1 hd
      have d0:=dl0 hd
      have n0:0<nlen rest:=by unfold nlen;split <;> omega
      replace c2:=fun h=>c2 h d0
      have hT:RTok rest 1 (nlen rest):=.inl ⟨1,rfl,tok1_num (by omega) n0,n0,nl⟩
      obtain ⟨E,hE⟩:∃E,E=k+nlen rest:=⟨_,rfl⟩
      rw [show nlen rest=E-k by omega] at hT
      simp only [← hE] at c2
      have hE1:k≤E:=by omega
      clear hE wl nl c1 c3 e1 wl0 wl1 dl0 dl1 d0 n0 hw
      conv=>whnf
      repeat ((first|refine oz ?_|refine cz ?_);conv=>whnf)
      repeat' first|((first|(show CallN _ _ _ _ _ _;refine CallN.quiet rfl (c2 _) ?_)|((first|refine oz ?_|refine cz ?_))|refine Sto.lit 0 rfl rfl rfl ?_) <;> (conv=>whnf))|(show cnd _ _ _;first|(refine cnd_le (fun _=>?_) (fun _=>?_) <;> first|(exfalso;omega)|(conv=>whnf))|(refine cnd_eq (fun _=>?_) (fun _=>?_) <;> first|(exfalso;omega)|(conv=>whnf)))
      all_goals exact ⟨rfl,1,E,rfl,rfl,(by first|assumption|exact Heap.le_refl _),rfl,hE1,hT⟩
     ·have e2:=dl1 hd
      have hnd:¬(48≤c∧c≤57):=fun x=>hd (dgt_iff.2 x)
      by_cases hs:[c]∈signsL
      ·rw [if_pos hs] at c3
       have hT:RTok rest 4 (k+1-k):=by rw [Nat.add_sub_cancel_left];exact .inl ⟨0,rfl,tok1_sg (by omega) (by omega) (by rw [tk1];exact hs),Nat.one_pos,by omega⟩
       clear wl nl c1 c2 e1 e2 wl0 wl1 dl0 dl1 hw hd hs
       conv=>whnf
       repeat ((first|refine oz ?_|refine cz ?_);conv=>whnf)
       repeat' first|((first|(show CallN _ _ _ _ _ _;refine CallN.quiet rfl (c3 _) ?_)|((first|refine oz ?_|refine cz ?_))|refine WrapN.i64 (by omega) (by omega) ?_|refine Sto.lit 0 rfl rfl rfl ?_) <;> (conv=>whnf))|(show cnd _ _ _;first|(refine cnd_lt (fun _=>?_) (fun _=>?_) <;> first|(exfalso;omega)|(conv=>whnf))|(refine cnd_le (fun _=>?_) (fun _=>?_) <;> first|(exfalso;omega)|(conv=>whnf))|(refine cnd_eq (fun _=>?_) (fun _=>?_) <;> first|(exfalso;omega)|(conv=>whnf)))
       all_goals exact ⟨rfl,4,k+1,rfl,vi (by omega),(by first|assumption|exact Heap.le_refl _),rfl,by omega,hT⟩
      ·rw [if_neg hs] at c3
       have hT:RTok rest 0 (k-k):=.inr ⟨rfl,tok1_ns (by omega) (by omega) (by rw [tk1];exact hs)⟩
       clear wl nl c1 c2 e1 e2 wl0 wl1 dl0 dl1 hw hd hs
       conv=>whnf
       repeat ((first|refine oz ?_|refine cz ?_);conv=>whnf)
       repeat' first|((first|(show CallN _ _ _ _ _ _;refine CallN.quiet rfl (c3 _) ?_)|((first|refine oz ?_|refine cz ?_))|refine WrapN.i64 (by omega) (by omega) ?_) <;> (conv=>whnf))|(show cnd _ _ _;first|(refine cnd_lt (fun _=>?_) (fun _=>?_) <;> first|(exfalso;omega)|(conv=>whnf))|(refine cnd_le (fun _=>?_) (fun _=>?_) <;> first|(exfalso;omega)|(conv=>whnf))|(refine cnd_eq (fun _=>?_) (fun _=>?_) <;> first|(exfalso;omega)|(conv=>whnf)))
       all_goals exact ⟨rfl,0,k,rfl,vi (by omega),(by first|assumption|exact Heap.le_refl _),rfl,by omega,hT⟩
   ·clear c1 c2 c3 wl nl wl0 wl1 dl0 dl1
    conv=>whnf
    repeat intro _
    rename_i h2 L2 hJ
    obtain ⟨K,E,e8,e11,hle2,rfl,hkE,hT⟩:=hJ
    conv at e8=>lhs;whnf
    subst e8
    conv at e11=>lhs;whnf
    subst e11
    have hq:=hq.out
    by_cases hK0:K=0
    ·subst hK0
     have hT1:R=([],(k:Int)):=by
      rcases hT with ⟨kd,x,-⟩|⟨-,y⟩
      ·exact absurd x.symm (rk_ne kd)
      ·rw [y] at hq;exact hq
     clear hq hT cut2 hdr2
     conv=>whnf
     repeat ((first|refine oz ?_|refine cz ?_);conv=>whnf)
     repeat' first|((first|((first|refine oz ?_|refine cz ?_))|refine Ld.own 0 rfl rfl ?_) <;> (conv=>whnf))|(refine cnd_eq (fun _=>?_) (fun _=>?_) <;> first|(exfalso;omega)|(conv=>whnf))
     all_goals exact RetN.all (.inr ⟨k,by rw [hT1],rfl⟩)
    ·obtain ⟨kind,hK,ht,hm0,hml⟩:∃kind,K=rk kind∧tok1 rest=some (kind,E-k)∧0<E-k∧E-k≤rest.length:=by
      rcases hT with x|⟨x,-⟩
      ·exact x
      ·exact absurd x hK0
     rw [ht] at hq
     have hR2:R=scanX n' (rest.drop (E-k)) (k+(E-k)) (acc++[⟨kind,rest.take (E-k),k⟩]):=hq
     have cw:=cut2 (E-k)
     rw [hdr2,show k+(E-k)=E by omega] at hR2
     rw [show k+(E-k)=E by omega] at cw
     have hrt:rtv ⟨kind,rest.take (E-k),k⟩=[.int .i64 K,.int .i64 k,.string (txt (rest.take (E-k)))]:=by unfold rtv;rw [hK]
     obtain ⟨X,hX⟩:∃X,X=rest.take (E-k):=⟨_,rfl⟩
     rw [← hX] at hR2 cw hrt
     replace hR2:=Hq.mk hR2
     have hEl:E≤l.length:=by omega
     clear hq hT cut2 hdr2 hX hK
     conv=>whnf
     repeat ((first|refine oz ?_|refine cz ?_);conv=>whnf)
     repeat' first|((first|(show Cut _ _ _ _;(refine Cut.txt l k E (by omega) (by omega) rfl (by omega) (by omega) ?_;rw [txt_sub,cw]))|(show App _ _ _ _ _ _ _ _ _;refine App.growB (A:=[_,_]) (F:=L1) (size:=3) (bytes:=32) (z:=[.int .i64 0,.int .i64 0,.string ByteArray.empty]) rfl rfl g ⟨_,0,none⟩ 1 1 [_,_,_] rfl (Has.three _) rfl (by decide) (by omega) (by omega) (by decide) (fun v' L' g' hA=>?_))|((first|refine oz ?_|refine cz ?_))|intro (_:Nat)|refine LdN.own 0 rfl rfl ?_|refine Ld.own 0 rfl rfl ?_|refine Sto.lit 0 rfl rfl rfl ?_) <;> (conv=>whnf))|(refine cnd_eq (fun _=>?_) (fun _=>?_) <;> first|(exfalso;omega)|(conv=>whnf))
     all_goals exact ⟨rfl,l.length-E,by omega,E,n',v',acc++[⟨kind,X,k⟩],rfl,(by (iterate 30 try first|assumption|refine Heap.le_trans ?_ (by assumption));first|done|assumption),rfl,rfl,hEl,by rw [List.length_append,rtc_snoc,hrt];exact g',by rw [List.length_append];simp;omega,by omega,hR2⟩
/-! the text of a number -/
def NumTx (l:List Nat):Prop:=∃hd:List Nat,hd≠[]∧(∀x∈hd,dgt x=true)∧(l=hd∨∃c tl,(c=46∨c=47)∧tl≠[]∧(∀x∈tl,dgt x=true)∧l=hd++c::tl)
theorem take_while_len {p:Nat→Bool} (l:List Nat):l.take (l.takeWhile p).length=l.takeWhile p:=by
 have h:=List.takeWhile_prefix p (l:=l)
 exact (List.prefix_iff_eq_take.1 h).symm
theorem nlen_tx {l:List Nat} (h:0<nlen l):NumTx (l.take (nlen l)):=by
 have hd:0<dlen l:=by
  unfold nlen at h
  split at h
  ·rename_i x;exact x.1
  ·exact h
 have h1:l.take (dlen l)=l.takeWhile dgt:=take_while_len l
 have h2:l.takeWhile dgt≠[]:=fun e=>by unfold dlen at hd;rw [e] at hd;simp at hd
 refine ⟨l.takeWhile dgt,h2,run_all,?_⟩
 unfold nlen
 split
 ·rename_i x
  obtain ⟨x1,x2,x3,x4⟩:=x
  refine .inr ⟨l.getD (dlen l) 0,(l.drop (dlen l+1)).takeWhile dgt,x3,fun e=>by have x5:0<((l.drop (dlen l+1)).takeWhile dgt).length:=x4;rw [e] at x5;simp at x5,run_all,?_⟩
  have h3:(l.drop (dlen l+1)).take (dlen (l.drop (dlen l+1)))=(l.drop (dlen l+1)).takeWhile dgt:=take_while_len _
  rw [← h3,← h1]
  have key:∀d e:Nat,d<l.length→l.take (d+1+e)=l.take d++l.getD d 0::(l.drop (d+1)).take e:=fun d e hd=>by
   rw [Nat.add_assoc,List.take_add,List.drop_eq_getElem_cons hd,Nat.add_comm 1 e,List.take_succ_cons,List.getD_eq_getElem?_getD,List.getElem?_eq_getElem hd]
   rfl
  exact key _ _ x2
 ·exact .inl h1
theorem tok1_tx {l:List Nat} {m:Nat} (h:tok1 l=some (1,m)):NumTx (l.take m):=by
 unfold tok1 at h
 split at h
 ·split at h
  ·cases h
  ·split at h
   ·cases h
   ·split at h
    ·cases h
    ·cases h
 ·split at h
  ·cases h
   exact nlen_tx (by assumption)
  ·split at h
   ·cases h
   ·cases h
theorem scanX_tx:∀(n:Nat) (l:List Nat) (i:Nat) (acc:List Tk),(∀t∈acc,t.kind=1→NumTx t.text)→∀t∈(scanX n l i acc).1,t.kind=1→NumTx t.text
 | n,[],i,acc,h=>by
  rw [show scanX n [] i acc=(acc,-1) by cases n <;> rfl]
  exact h
 | 0,c::l,i,acc,h=>by rw [scanX];intro t ht;cases ht
 | n+1,c::l,i,acc,h=>by
  rw [scanX]
  split
  ·exact scanX_tx n l (i+1) acc h
  ·split
   ·intro t ht;cases ht
   ·rename_i k m hk
    refine scanX_tx n _ _ _ fun t ht=>?_
    rcases List.mem_append.1 ht with ht|ht
    ·exact h t ht
    ·obtain rfl:=List.mem_singleton.1 ht
     intro e
     have e:k=1:=e
     subst e
     exact tok1_tx hk
end Go.Proofs.YtmblpmegfmgjgaaGreatDoor