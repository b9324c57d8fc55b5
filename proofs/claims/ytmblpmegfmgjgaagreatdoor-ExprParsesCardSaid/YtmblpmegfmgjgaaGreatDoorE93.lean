/- The tokens of the text of a tree: plain. -/
import Derived.Test.YtmblpmegfmgjgaaGreatDoorE29
import Derived.Test.YtmblpmegfmgjgaaGreatDoorE21
import Derived.Test.YtmblpmegfmgjgaaGreatDoorE33
import Derived.Test.YtmblpmegfmgjgaaGreatDoorE84
set_option linter.unusedVariables false
set_option linter.unusedSimpArgs false
namespace Go.Proofs.YtmblpmegfmgjgaaGreatDoor
open Go Go.Vc Go.Dig
def stopC (c:Nat):Prop:=aln c=false∧c≠46∧c≠47
def stopB (rest:List Nat):Prop:=∀c,rest.head?=some c→stopC c
theorem stopB_nil:stopB []:=fun c h=>by cases h
theorem stopB_cons {c:Nat} {l:List Nat} (h:stopC c):stopB (c::l):=fun d e=>by cases e;exact h
def kt (t:Tk):Nat × List Nat:=(t.kind,t.text)
def Sc (b:Bool) (a:List Nat) (ks:List (Nat × List Nat)):Prop:=
 ∀(rest:List Nat) (n i:Nat) (acc:List Tk),(b=true→stopB rest)→(a++rest).length≤n→∃n' ts,rest.length≤n'∧ts.map kt=ks∧scanX n (a++rest) i acc=scanX n' rest (i+a.length) (acc++ts)
theorem Sc.nil (b:Bool):Sc b [] []:=fun rest n i acc _ hn=>⟨n,[],hn,rfl,by simp⟩
theorem Sc.any {b:Bool} {a:List Nat} {ks:List (Nat × List Nat)} (h:Sc b a ks):Sc true a ks:=fun rest n i acc hs hn=>h rest n i acc (fun _=>hs rfl) hn
theorem Sc.app {b b':Bool} {a c:List Nat} {ks ls:List (Nat × List Nat)} (h:Sc b a ks) (h':Sc b' c ls) (hs:b=true→c≠[]∧stopB c):Sc b' (a++c) (ks++ls):=by
 intro rest n i acc hr hn
 obtain ⟨n1,t1,q1,q2,q3⟩:=h (c++rest) n i acc (fun e=>by
   obtain ⟨h1,h2⟩:=hs e
   match c,h1,h2 with
   | x::c',_,h2=>exact fun d e=>h2 d (by simpa using e)) (by rw [← List.append_assoc];exact hn)
 obtain ⟨n2,t2,q4,q5,q6⟩:=h' rest n1 (i+a.length) (acc++t1) hr q1
 refine ⟨n2,t1++t2,q4,by rw [List.map_append,q2,q5],?_⟩
 rw [List.append_assoc,q3,q6,List.length_append,List.append_assoc,Nat.add_assoc]
theorem Sc.space:Sc false [32] []:=fun rest n i acc _ hn=>by
 match n,hn with
 | n+1,hn=>
  refine ⟨n,[],by simp at hn;omega,rfl,?_⟩
  rw [List.append_nil]
  show scanX (n+1) (32::rest) i acc=_
  rw [scanX,if_pos rfl]
  rfl
 | 0,hn=>simp at hn
theorem Sc.one {b:Bool} {a:List Nat} {k:Nat} (hne:a≠[]) (h32:a.head?≠some 32) (ht:∀rest,(b=true→stopB rest)→tok1 (a++rest)=some (k,a.length)):Sc b a [(k,a)]:=fun rest n i acc hs hn=>by
 have h:=ht rest hs
 match a,hne,h32,n,hn,h with
 | c::l,_,h32,n+1,hn,h=>
  have hc:c≠32:=fun e=>h32 (by rw [e];rfl)
  refine ⟨n,[⟨k,c::l,i⟩],by simp at hn;omega,rfl,?_⟩
  show scanX (n+1) (c::(l++rest)) i acc=_
  rw [scanX,if_neg hc]
  rw [show c::(l++rest)=(c::l)++rest from rfl,h]
  show scanX n (((c::l)++rest).drop (c::l).length) (i+(c::l).length) (acc++[⟨k,((c::l)++rest).take (c::l).length,i⟩])=_
  rw [List.drop_left,List.take_left]
 | c::l,_,_,0,hn,_=>simp at hn
theorem wlen_app {w rest:List Nat} (hw:wlen w=w.length) (hne:w≠[]) (hs:stopB rest):wlen (w++rest)=w.length:=by
 match w,hw,hne with
 | c::l,hw,_=>
  rw [wlen] at hw
  split at hw
  ·rename_i hc
   show (if ltr c then ((l++rest).takeWhile aln).length+1 else 0)=_
   rw [if_pos hc]
   have h1:(l.takeWhile aln).length=l.length:=by simpa using hw
   have hall:∀x∈l,aln x=true:=by
    have e:l.takeWhile aln=l:=List.IsPrefix.eq_of_length (List.takeWhile_prefix _) h1
    intro x hx
    rw [← e] at hx
    by_cases hh:aln x=true
    ·exact hh
    ·exact absurd h1 (Nat.ne_of_lt (takeWhile_not l ⟨x,e▸hx,hh⟩))
   rw [List.takeWhile_append_of_pos hall]
   have:rest.takeWhile aln=[]:=by
    match rest,hs with
    | [],_=>rfl
    | d::r,hs=>rw [List.takeWhile_cons,(hs d rfl).1];rfl
   rw [this,List.append_nil,List.length_cons]
  ·simp at hw
theorem word_head {w:List Nat} (hw:wlen w=w.length) (hne:w≠[]):w.head?≠some 32:=by
 match w,hw,hne with
 | c::l,hw,_=>
  intro e
  cases e
  rw [wlen,if_neg (by decide)] at hw
  cases hw
theorem Sc.word {w:List Nat} {k:Nat} (hw:wlen w=w.length) (hne:w≠[]) (hk:(w∈fnames∧k=3)∨(w∉fnames∧IsNm w∧k=2)∨(w∉fnames∧¬IsNm w∧Resd w∧k=0)):Sc true w [(k,w)]:=
 Sc.one hne (word_head hw hne) fun rest hs=>by
  have h:=wlen_app hw hne (hs rfl)
  have hp:0<w.length:=List.length_pos_iff.2 hne
  unfold tok1
  rw [h,if_pos hp,List.take_left]
  rcases hk with ⟨a,rfl⟩|⟨a,b,rfl⟩|⟨a,b,c,rfl⟩
  ·rw [if_pos a]
  ·rw [if_neg a,if_pos b]
  ·rw [if_neg a,if_neg b,if_pos c]
theorem Sc.sign {c:Nat} (h:[c]∈signsL):Sc false [c] [(0,[c])]:=by
 have hm:c=43∨c=45∨c=42∨c=47∨c=94∨c=40∨c=41∨c=44:=by simpa [signsL] using h
 refine Sc.one (by simp) (fun e=>by cases e;omega) fun rest _=>?_
 have h1:ltr c=false:=by rw [Bool.eq_false_iff];intro e;have:=ltr_iff.1 e;omega
 have h2:dgt c=false:=by rw [Bool.eq_false_iff];intro e;have:=dgt_iff.1 e;omega
 have hd:dlen (c::rest)=0:=by unfold dlen;rw [List.takeWhile_cons,h2];rfl
 have hn:nlen (c::rest)=0:=by unfold nlen;rw [hd,if_neg (by omega)]
 have hw:wlen (c::rest)=0:=by rw [wlen,h1];rfl
 show tok1 (c::rest)=some (0,1)
 unfold tok1
 rw [hw,hn,if_neg (by omega),if_neg (by omega)]
 exact if_pos (by simpa using h)
/-! numbers -/
theorem dlen_app {a b:List Nat} (ha:∀x∈a,dgt x=true) (hb:∀c,b.head?=some c→dgt c=false):dlen (a++b)=a.length:=by
 unfold dlen
 rw [(tw_app a b ha hb).1]
theorem stop_dgt {rest:List Nat} (hs:stopB rest):∀c,rest.head?=some c→dgt c=false:=fun c e=>by
 have h:=(hs c e).1
 unfold aln at h
 rw [Bool.or_eq_false_iff] at h
 exact h.2
theorem decL_pos (n:Nat):0<(decL n).length:=List.length_pos_iff.2 (decL_ne n)
theorem dig_wlen {a b:List Nat} (ha:∀x∈a,dgt x=true) (hne:a≠[]):wlen (a++b)=0:=by
 match a,ha,hne with
 | c::l,ha,_=>
  have h1:=dgt_iff.1 (ha c (List.mem_cons_self ..))
  show (if ltr c then _ else 0)=0
  rw [if_neg]
  intro e
  have:=ltr_iff.1 e
  omega
theorem dig_head {a:List Nat} (ha:∀x∈a,dgt x=true):a.head?≠some 32:=fun e=>by
 match a,ha,e with
 | c::l,ha,e=>
  cases e
  exact absurd (ha 32 (List.mem_cons_self ..)) (by decide)
theorem Sc.digits (n:Nat):Sc true (decL n) [(1,decL n)]:=
 Sc.one (decL_ne n) (dig_head (decL_dig n)) fun rest hs=>by
  have hp:=decL_pos n
  have h1:=dlen_app (decL_dig n) (stop_dgt (hs rfl))
  have h2:nlen (decL n++rest)=(decL n).length:=by
   unfold nlen
   rw [h1,if_neg]
   rintro ⟨-,h3,h4,-⟩
   rw [List.getD_eq_getElem?_getD,List.getElem?_append_right (Nat.le_refl _),Nat.sub_self] at h4
   match rest,hs rfl,h4,h3 with
   | [],_,_,h3=>simp at h3
   | d::r,hs,h4,_=>
    have:=hs d rfl
    simp at h4
    exact h4.elim this.2.1 this.2.2
  unfold tok1
  rw [dig_wlen (decL_dig n) (decL_ne n),if_neg (by omega),h2,if_pos hp]
theorem Sc.frac (n d:Nat):Sc true (decL n++[47]++decL d) [(1,decL n++[47]++decL d)]:=
 Sc.one (by simp) (by
   have h:=dig_head (decL_dig n)
   have hp:=decL_ne n
   match decL n,h,hp with
   | c::l,h,_=>exact h) fun rest hs=>by
  have hp:=decL_pos n
  have hp':=decL_pos d
  have e:decL n++[47]++decL d++rest=decL n++(47::(decL d++rest)):=by simp
  have h1:dlen (decL n++(47::(decL d++rest)))=(decL n).length:=dlen_app (decL_dig n) (fun c e=>by cases e;decide)
  have h3:(decL n++(47::(decL d++rest))).drop ((decL n).length+1)=decL d++rest:=by
   rw [← List.drop_drop,List.drop_left];rfl
  have h4:=dlen_app (decL_dig d) (stop_dgt (hs rfl))
  have h2:nlen (decL n++(47::(decL d++rest)))=(decL n++[47]++decL d).length:=by
   unfold nlen
   rw [h1,h3,h4,if_pos ⟨hp,by simp,.inr (by rw [List.getD_eq_getElem?_getD,List.getElem?_append_right (Nat.le_refl _),Nat.sub_self];rfl),hp'⟩]
   simp
   omega
  rw [e]
  unfold tok1
  rw [dig_wlen (decL_dig n) (decL_ne n),if_neg (by omega),h2,if_pos (by simp;omega)]
theorem sg_pos {q:Rat} (h:0≤q):sg q=false:=by
 unfold sg
 rw [decide_eq_false_iff_not]
 exact fun x=>absurd (Rat.num_nonneg.2 h) (by omega)
theorem Sc.num {q:Rat} (h:0≤q):Sc true (fmtL q) [(1,fmtL q)]:=by
 unfold fmtL
 rw [sg_pos h]
 by_cases e:q.den=1
 ·rw [if_pos e]
  show Sc true (decL (nu q)++[]) [(1,decL (nu q)++[])]
  rw [List.append_nil]
  exact Sc.digits _
 ·rw [if_neg e]
  show Sc true (decL (nu q)++([47]++decL q.den)) [(1,decL (nu q)++([47]++decL q.den))]
  rw [← List.append_assoc]
  exact Sc.frac _ _
/-! the tokens of a tree -/
def sgT (c:Nat):Nat × List Nat:=(0,[c])
def itK (n:Int):List (Nat × List Nat):=if n<0 then [sgT 45,(1,decL n.natAbs)] else [(1,decL n.natAbs)]
def placeK (x:List (Nat × List Nat) × Int) (low:Int):List (Nat × List Nat):=if low≤x.2 then x.1 else [sgT 40]++x.1++[sgT 41]
def joinK:Bool→List (List (Nat × List Nat) × Int)→List (Nat × List Nat)
 | _,[]=>[]
 | true,x::r=>x.1++joinK false r
 | false,x::r=>[sgT 44]++x.1++joinK false r
def opC (op:Int):Nat:=if op=5 then 43 else if op=6 then 45 else if op=7 then 42 else 47
def headK (op arg:Int):List (Nat × List Nat):=
 if op=10 then (if arg=2 then [(0,[115,113,114,116]),sgT 40] else [(0,[114,111,111,116]),sgT 40]++itK arg++[sgT 44])
 else if op=11 then [(3,fnames.getD (arg.toNat-1) []),sgT 40]
 else if op=12 then [(0,[97,98,115]),sgT 40] else if op=13 then [(0,[109,105,110]),sgT 40] else if op=14 then [(0,[109,97,120]),sgT 40] else if op=15 then [(0,[105,102]),sgT 40] else []
def nodeK (op arg:Int) (q:Rat) (name:List Nat) (xs:List (List (Nat × List Nat) × Int)):List (Nat × List Nat):=
 if op=1 then [(1,fmtL q)] else if op=2 then [(2,name)] else if op=3 then [(0,[112,105])]
 else if op=4 then [sgT 45]++placeK (xs.getD 0 ([],0)) 3
 else if op=5∨op=6 then placeK (xs.getD 0 ([],0)) 1++[sgT (opC op)]++placeK (xs.getD 1 ([],0)) 2
 else if op=7∨op=8 then placeK (xs.getD 0 ([],0)) 2++[sgT (opC op)]++placeK (xs.getD 1 ([],0)) 3
 else if op=9 then placeK (xs.getD 0 ([],0)) 5++([sgT 94]++itK arg)
 else headK op arg++joinK true xs++[sgT 41]
mutual
def toksT:Tr→List (Nat × List Nat)
 | .mk op arg neg l m name ks=>nodeK op arg (ratOf neg l m) name (tokssT ks)
def tokssT:List Tr→List (List (Nat × List Nat) × Int)
 | []=>[]
 | t::ts=>(toksT t,levT t.op)::tokssT ts
end
def Pair (x:List Nat × Int) (y:List (Nat × List Nat) × Int):Prop:=x.2=y.2∧Sc true x.1 y.1
def Pairs:List (List Nat × Int)→List (List (Nat × List Nat) × Int)→Prop
 | [],[]=>True
 | x::xs,y::ys=>Pair x y∧Pairs xs ys
 | _,_=>False
theorem Pairs.getD:∀{xs:List (List Nat × Int)} {ys:List (List (Nat × List Nat) × Int)},Pairs xs ys→∀i:Nat,Pair (xs.getD i ([],0)) (ys.getD i ([],0))
 | [],[],_,i=>⟨rfl,Sc.nil _⟩
 | x::xs,y::ys,h,0=>h.1
 | x::xs,y::ys,h,i+1=>Pairs.getD h.2 i
 | [],_::_,h,_=>h.elim
 | _::_,[],h,_=>h.elim
theorem stop41:stopC 41:=⟨by decide,by decide,by decide⟩
theorem stop44:stopC 44:=⟨by decide,by decide,by decide⟩
theorem stop32:stopC 32:=⟨by decide,by decide,by decide⟩
theorem stop94:stopC 94:=⟨by decide,by decide,by decide⟩
theorem stop40:stopC 40:=⟨by decide,by decide,by decide⟩
theorem sc_place {x:List Nat × Int} {y:List (Nat × List Nat) × Int} (h:Pair x y) (low:Int):Sc true (placeX x low) (placeK y low):=by
 unfold placeX placeK
 rw [h.1]
 split
 ·exact h.2
 ·refine Sc.any (Sc.app (Sc.app (Sc.sign (c:=40) (by decide)) h.2 fun e=>by cases e) (Sc.sign (c:=41) (by decide)) fun _=>⟨by simp,stopB_cons stop41⟩)
theorem sc_int (n:Int):Sc true (itT n) (itK n):=by
 unfold itT itK
 split
 ·exact Sc.app (a:=[45]) (Sc.sign (c:=45) (by decide)) (Sc.digits _) fun e=>by cases e
 ·exact Sc.digits _
theorem sc_join:∀{xs:List (List Nat × Int)} {ys:List (List (Nat × List Nat) × Int)} (b:Bool),Pairs xs ys→Sc true (joinF b xs) (joinK b ys)∧(b=false→joinF b xs=[]∨stopB (joinF b xs))
 | [],[],b,_=>⟨by cases b <;> exact Sc.nil _,fun _=>by cases b <;> exact .inl rfl⟩
 | x::xs,y::ys,true,h=>by
  obtain ⟨h1,h2⟩:=sc_join false h.2
  refine ⟨?_,fun e=>by cases e⟩
  rw [joinF,joinK]
  rcases h2 rfl with e|e
  ·have:xs=[]:=by
    match xs,e with
    | [],_=>rfl
    | z::zs,e=>rw [joinF] at e;simp at e
   subst this
   match ys,h.2 with
   | [],_=>rw [joinF,joinK,List.append_nil,List.append_nil];exact h.1.2
  ·by_cases hn:joinF false xs=[]
   ·have:xs=[]:=by
     match xs,hn with
     | [],_=>rfl
     | z::zs,e=>rw [joinF] at e;simp at e
    subst this
    match ys,h.2 with
    | [],_=>rw [joinF,joinK,List.append_nil,List.append_nil];exact h.1.2
   ·exact Sc.app h.1.2 h1 fun _=>⟨hn,e⟩
 | x::xs,y::ys,false,h=>by
  obtain ⟨h1,h2⟩:=sc_join false h.2
  rw [joinF,joinK]
  refine ⟨?_,fun _=>.inr (by rw [List.append_assoc];exact stopB_cons stop44)⟩
  have s:Sc true ([44,32]++x.1) ([sgT 44]++y.1):=by
   have:=Sc.app (Sc.app (Sc.sign (c:=44) (by decide)) Sc.space fun e=>by cases e) h.1.2 fun e=>by cases e
   exact this
  by_cases hn:joinF false xs=[]
  ·have:xs=[]:=by
    match xs,hn with
    | [],_=>rfl
    | z::zs,e=>rw [joinF] at e;simp at e
   subst this
   match ys,h.2 with
   | [],_=>rw [joinF,joinK,List.append_nil,List.append_nil];exact s
  ·exact Sc.app s h1 fun _=>⟨hn,(h2 rfl).resolve_left hn⟩
 | [],_::_,_,h=>h.elim
 | _::_,[],_,h=>h.elim
theorem sc_kw {w:List Nat} (h:w∈rwords):Sc false (w++[40]) [(0,w),sgT 40]:=by
 have hw:∀w∈rwords,wlen w=w.length∧w≠[]∧w∉fnames∧¬IsNm w:=by decide
 obtain ⟨h1,h2,h3,h4⟩:=hw w h
 exact Sc.app (Sc.word h1 h2 (.inr (.inr ⟨h3,h4,.inl h,rfl⟩))) (Sc.sign (c:=40) (by decide)) fun _=>⟨by simp,stopB_cons stop40⟩
theorem sc_fn {arg:Int} (h1:1≤arg) (h2:arg≤8):Sc false (fnames.getD (arg.toNat-1) []++[40]) [(3,fnames.getD (arg.toNat-1) []),sgT 40]:=by
 have hw:∀k,k<8→wlen (fnames.getD k [])=(fnames.getD k []).length∧fnames.getD k []≠[]∧fnames.getD k []∈fnames:=by decide
 obtain ⟨g1,g2,g3⟩:=hw (arg.toNat-1) (by omega)
 exact Sc.app (Sc.word g1 g2 (.inl ⟨g3,rfl⟩)) (Sc.sign (c:=40) (by decide)) fun _=>⟨by simp,stopB_cons stop40⟩
theorem sc_head {op arg:Int} (ho:op=10∨op=11∨op=12∨op=13∨op=14∨op=15) (h11:op=11→1≤arg∧arg≤8):Sc false (headX op arg) (headK op arg):=by
 unfold headX headK
 by_cases e:op=10
 ·rw [if_pos e,if_pos e]
  split
  ·exact sc_kw (w:=[115,113,114,116]) (by decide)
  ·have h1:=Sc.app (sc_kw (w:=[114,111,111,116]) (by decide)) (sc_int arg) fun e=>by cases e
   have h2:=Sc.app h1 (Sc.app (Sc.sign (c:=44) (by decide)) Sc.space fun e=>by cases e) fun _=>⟨by simp,stopB_cons stop44⟩
   exact h2
 rw [if_neg e,if_neg e]
 by_cases e:op=11
 ·rw [if_pos e,if_pos e]
  exact sc_fn (h11 e).1 (h11 e).2
 rw [if_neg e,if_neg e]
 split
 ·exact sc_kw (w:=[97,98,115]) (by decide)
 split
 ·exact sc_kw (w:=[109,105,110]) (by decide)
 split
 ·exact sc_kw (w:=[109,97,120]) (by decide)
 split
 ·exact sc_kw (w:=[105,102]) (by decide)
 ·omega
theorem sc_sign (op:Int):Sc false (signX op) [sgT (opC op)]:=by
 have h:∀c,[c]∈signsL→Sc false [32,c,32] [sgT c]:=fun c hc=>by
  have:=Sc.app (Sc.app Sc.space (Sc.sign hc) fun e=>by cases e) Sc.space fun e=>by cases e
  exact this
 unfold signX opC
 repeat' split
 ·exact h 43 (by decide)
 ·exact h 45 (by decide)
 ·exact h 42 (by decide)
 ·exact h 47 (by decide)
theorem signX_stop (op:Int):signX op≠[]∧stopB (signX op):=by
 unfold signX
 repeat' split
 all_goals exact ⟨by simp,stopB_cons stop32⟩
theorem sc_node {op arg:Int} {neg:Bool} {l m name:List Nat} {xs:List (List Nat × Int)} {ys:List (List (Nat × List Nat) × Int)} {n:Nat} (hn:nodeB op arg neg l m name n) (h:Pairs xs ys):Sc true (nodeX op arg (ratOf neg l m) name xs) (nodeK op arg (ratOf neg l m) name ys):=by
 obtain ⟨n1,n2,n3,n4,n5⟩:=hn
 have p:=fun i=>h.getD i
 unfold nodeX nodeK
 by_cases e:op=1
 ·rw [if_pos e,if_pos e]
  rw [if_pos e] at n5
  exact Sc.num n5.2
 rw [if_neg e,if_neg e]
 by_cases e:op=2
 ·rw [if_pos e,if_pos e]
  rw [if_pos e] at n4
  exact Sc.word n4.2.1 n4.2.2.1 (.inr (.inl ⟨fun x=>n4.2.2.2 (.inr x),n4,rfl⟩))
 rw [if_neg e,if_neg e]
 by_cases e:op=3
 ·rw [if_pos e,if_pos e]
  exact Sc.word (w:=[112,105]) (by decide) (by decide) (.inr (.inr (by decide)))
 rw [if_neg e,if_neg e]
 by_cases e:op=4
 ·rw [if_pos e,if_pos e]
  exact Sc.app (Sc.sign (c:=45) (by decide)) (sc_place (p 0) 3) fun e=>by cases e
 rw [if_neg e,if_neg e]
 by_cases e:op=5∨op=6
 ·rw [if_pos e,if_pos e]
  exact Sc.app (Sc.app (sc_place (p 0) 1) (sc_sign op) fun _=>signX_stop op) (sc_place (p 1) 2) fun e=>by cases e
 rw [if_neg e,if_neg e]
 by_cases e:op=7∨op=8
 ·rw [if_pos e,if_pos e]
  exact Sc.app (Sc.app (sc_place (p 0) 2) (sc_sign op) fun _=>signX_stop op) (sc_place (p 1) 3) fun e=>by cases e
 rw [if_neg e,if_neg e]
 by_cases e:op=9
 ·rw [if_pos e,if_pos e]
  exact Sc.app (sc_place (p 0) 5) (Sc.app (Sc.sign (c:=94) (by decide)) (sc_int arg) fun e=>by cases e) fun _=>⟨by simp,stopB_cons stop94⟩
 rw [if_neg e,if_neg e]
 have ho:op=10∨op=11∨op=12∨op=13∨op=14∨op=15:=by
  unfold kidsN at n1
  repeat' split at n1
  all_goals omega
 have h1:=Sc.app (sc_head ho fun e=>by
   rw [e] at n2 n3
   rw [show lowA 11=1 by decide] at n2
   rw [show highA 11=8 by decide] at n3
   exact ⟨n2,n3⟩) (sc_join true h).1 fun e=>by cases e
 exact Sc.any (Sc.app h1 (Sc.sign (c:=41) (by decide)) fun _=>⟨by simp,stopB_cons stop41⟩)
mutual
theorem sc_tree:∀{d:Nat} {t:Tr},okT d t→Sc true (textT t) (toksT t)
 | d,.mk op arg neg l m name ks,h=>by
  rw [okT] at h
  rw [textT,toksT]
  exact sc_node h.2.1 (sc_trees h.2.2)
theorem sc_trees:∀{d:Nat} {ts:List Tr},okTs d ts→Pairs (textsT ts) (tokssT ts)
 | d,[],_=>by rw [textsT,tokssT];trivial
 | d,t::ts,h=>by
  rw [okTs] at h
  rw [textsT,tokssT]
  exact ⟨⟨rfl,sc_tree h.1⟩,sc_trees h.2⟩
end
theorem scan_text {d:Nat} {t:Tr} (h:okT d t):∃ts:List Tk,scanX (textT t).length (textT t) 0 []=(ts,-1)∧ts.map kt=toksT t:=by
 obtain ⟨n',ts,-,h2,h3⟩:=sc_tree h [] (textT t).length 0 [] (fun _=>stopB_nil) (by rw [List.append_nil];exact Nat.le_refl _)
 rw [List.append_nil] at h3
 refine ⟨ts,?_,h2⟩
 rw [h3]
 cases n' <;> simp [scanX]
end Go.Proofs.YtmblpmegfmgjgaaGreatDoor
/- The text of a tree, parsed: plain. -/
namespace Go.Dig
theorem bnd_some {α β:Type} {A:Option (Pr α)} {f:α→Nat→List Cn→Option (Pr β)} {r:Pr β} (h:Pr.bnd A f=some r):(∃x i cs,A=some (.ok x i cs)∧f x i cs=some r)∨∃i,A=some (.bad i)∧r=.bad i:=by
 match A,h with
 | some (.ok x i cs),h=>exact .inl ⟨x,i,cs,rfl,h⟩
 | some (.bad i),h=>exact .inr ⟨i,rfl,(Option.some.inj h).symm⟩
theorem bnd_mono {α β:Type} {A A':Option (Pr α)} {f f':α→Nat→List Cn→Option (Pr β)} (ha:∀r,A=some r→A'=some r) (hf:∀x i cs r,f x i cs=some r→f' x i cs=some r):∀r,Pr.bnd A f=some r→Pr.bnd A' f'=some r:=fun r h=>by
 rcases bnd_some h with ⟨x,i,cs,h1,h2⟩|⟨i,h1,rfl⟩
 ·rw [ha _ h1];exact hf _ _ _ _ h2
 ·rw [ha _ h1];rfl
theorem ite_mono {α:Type} {c:Prop} [Decidable c] {A A' B B':Option α} (ha:∀r,A=some r→A'=some r) (hb:∀r,B=some r→B'=some r):∀r,(if c then A else B)=some r→(if c then A' else B')=some r:=fun r h=>by
 by_cases e:c
 ·rw [if_pos e] at h ⊢;exact ha r h
 ·rw [if_neg e] at h ⊢;exact hb r h
theorem same_mono {α:Type} {A:Option α}:∀r,A=some r→A=some r:=fun _ h=>h
theorem pp_mono1 (ts:List Tk) (parse:List Nat→Bool × List Nat × List Nat):∀(n:Nat) (md:Md) (i:Nat) (cs:List Cn) (r:Pr Tr),pp ts parse n md i cs=some r→pp ts parse (n+1) md i cs=some r
 | 0,md,i,cs,r,h=>by rw [pp] at h;cases h
 | n+1,md,i,cs,r,h=>by
  have ih:=fun md i cs r=>pp_mono1 ts parse n md i cs r
  match md with
  | .sum=>rw [pp] at h ⊢;exact bnd_mono (ih _ _ _) (fun _ _ _=>ih _ _ _) r h
  | .term=>rw [pp] at h ⊢;exact bnd_mono (ih _ _ _) (fun _ _ _=>ih _ _ _) r h
  | .sumL e=>rw [pp] at h ⊢;exact ite_mono (bnd_mono (ih _ _ _) (fun _ _ _=>ih _ _ _)) (ite_mono (bnd_mono (ih _ _ _) (fun _ _ _=>ih _ _ _)) same_mono) r h
  | .termL e=>rw [pp] at h ⊢;exact ite_mono (bnd_mono (ih _ _ _) (fun _ _ _=>ih _ _ _)) (ite_mono (bnd_mono (ih _ _ _) (fun _ _ _=>ih _ _ _)) same_mono) r h
  | .fac=>rw [pp] at h ⊢;exact ite_mono (bnd_mono (ih _ _ _) (fun _ _ _=>same_mono)) (bnd_mono (ih _ _ _) (fun _ _ _=>same_mono)) r h
  | .kids k=>rw [pp] at h ⊢;exact bnd_mono same_mono (fun _ _ _=>ih _ _ _) r h
  | .kidsL k j acc=>rw [pp] at h ⊢;exact ite_mono (ite_mono (bnd_mono same_mono fun _ _ _=>bnd_mono (ih _ _ _) (fun _ _ _=>ih _ _ _)) (bnd_mono (ih _ _ _) (fun _ _ _=>ih _ _ _))) same_mono r h
  | .atom=>
   rw [pp] at h ⊢
   match ts[i]?,h with
   | none,h=>exact h
   | some t,h=>
    refine ite_mono same_mono (ite_mono (bnd_mono (ih _ _ _) fun _ _ _=>same_mono) (ite_mono same_mono (ite_mono same_mono (ite_mono (bnd_mono (ih _ _ _) fun _ _ _=>same_mono) (ite_mono (bnd_mono (ih _ _ _) fun _ _ _=>same_mono) (ite_mono (bnd_mono (ih _ _ _) fun _ _ _=>same_mono) (ite_mono (bnd_mono (ih _ _ _) fun _ _ _=>same_mono) (ite_mono (bnd_mono (ih _ _ _) fun _ _ _=>same_mono) (ite_mono (bnd_mono (ih _ _ _) fun _ _ _=>same_mono) (ite_mono ?_ same_mono)))))))))) r h
    exact bnd_mono same_mono fun _ _ _=>bnd_mono same_mono fun _ _ _=>bnd_mono same_mono fun _ _ _=>bnd_mono (ih _ _ _) fun _ _ _=>same_mono
theorem pp_mono (ts:List Tk) (parse:List Nat→Bool × List Nat × List Nat) {md:Md} {i:Nat} {cs:List Cn} {r:Pr Tr} {n:Nat} (h:pp ts parse n md i cs=some r):∀m,n≤m→pp ts parse m md i cs=some r:=fun m hm=>by
 obtain ⟨k,rfl⟩:∃k,m=n+k:=⟨m-n,by omega⟩
 clear hm
 induction k with
 | zero=>exact h
 | succ k ih=>exact pp_mono1 ts parse _ _ _ _ _ ih
end Go.Dig
namespace Go.Proofs.YtmblpmegfmgjgaaGreatDoor
open Go Go.Vc Go.Dig
section
variable (ts:List Tk)
def Ps (md:Md) (i:Nat) (cs:List Cn) (r:Pr Tr):Prop:=∃n,pp ts prs n md i cs=some r
end
section
variable {ts:List Tk}
theorem Ps.sum {i j:Nat} {cs cs':List Cn} {e:Tr} {r:Pr Tr} (h:Ps ts .term i cs (.ok e j cs')) (h':Ps ts (.sumL e) j cs' r):Ps ts .sum i cs r:=by
 obtain ⟨n,h⟩:=h
 obtain ⟨m,h'⟩:=h'
 refine ⟨max n m+1,?_⟩
 rw [pp,pp_mono ts prs h _ (Nat.le_max_left n m)]
 exact pp_mono ts prs h' _ (Nat.le_max_right n m)
theorem Ps.term {i j:Nat} {cs cs':List Cn} {e:Tr} {r:Pr Tr} (h:Ps ts .fac i cs (.ok e j cs')) (h':Ps ts (.termL e) j cs' r):Ps ts .term i cs r:=by
 obtain ⟨n,h⟩:=h
 obtain ⟨m,h'⟩:=h'
 refine ⟨max n m+1,?_⟩
 rw [pp,pp_mono ts prs h _ (Nat.le_max_left n m)]
 exact pp_mono ts prs h' _ (Nat.le_max_right n m)
theorem Ps.add {i j:Nat} {cs cs':List Cn} {e f:Tr} {op:Int} {r:Pr Tr} (ho:op=5∨op=6) (ha:isAt ts [opC op] i=true) (h:Ps ts .term (i+1) cs (.ok f j cs')) (h':Ps ts (.sumL (nodeT op 0 [e,f])) j cs' r):Ps ts (.sumL e) i cs r:=by
 obtain ⟨n,h⟩:=h
 obtain ⟨m,h'⟩:=h'
 refine ⟨max n m+1,?_⟩
 rw [pp]
 rcases ho with rfl|rfl
 ·rw [if_pos (show isAt ts [43] i=true from ha),pp_mono ts prs h _ (Nat.le_max_left n m)]
  exact pp_mono ts prs h' _ (Nat.le_max_right n m)
 ·have hn:isAt ts [43] i=false:=by
   unfold isAt at ha ⊢
   cases ht:ts[i]? with
   | none=>rfl
   | some t=>
    rw [ht] at ha
    have:=of_decide_eq_true ha
    exact decide_eq_false fun x=>by rw [this.2] at x;exact absurd x.2 (by decide)
  rw [if_neg (by rw [hn];decide),if_pos (show isAt ts [45] i=true from ha),pp_mono ts prs h _ (Nat.le_max_left n m)]
  exact pp_mono ts prs h' _ (Nat.le_max_right n m)
theorem Ps.mul {i j:Nat} {cs cs':List Cn} {e f:Tr} {op:Int} {r:Pr Tr} (ho:op=7∨op=8) (ha:isAt ts [opC op] i=true) (h:Ps ts .fac (i+1) cs (.ok f j cs')) (h':Ps ts (.termL (nodeT op 0 [e,f])) j cs' r):Ps ts (.termL e) i cs r:=by
 obtain ⟨n,h⟩:=h
 obtain ⟨m,h'⟩:=h'
 refine ⟨max n m+1,?_⟩
 rw [pp]
 rcases ho with rfl|rfl
 ·rw [if_pos (show isAt ts [42] i=true from ha),pp_mono ts prs h _ (Nat.le_max_left n m)]
  exact pp_mono ts prs h' _ (Nat.le_max_right n m)
 ·have hn:isAt ts [42] i=false:=by
   unfold isAt at ha ⊢
   cases ht:ts[i]? with
   | none=>rfl
   | some t=>
    rw [ht] at ha
    have:=of_decide_eq_true ha
    exact decide_eq_false fun x=>by rw [this.2] at x;exact absurd x.2 (by decide)
  rw [if_neg (by rw [hn];decide),if_pos (show isAt ts [47] i=true from ha),pp_mono ts prs h _ (Nat.le_max_left n m)]
  exact pp_mono ts prs h' _ (Nat.le_max_right n m)
theorem Ps.sumEnd {i:Nat} {cs:List Cn} {e:Tr} (h1:isAt ts [43] i=false) (h2:isAt ts [45] i=false):Ps ts (.sumL e) i cs (.ok e i cs):=by
 refine ⟨1,?_⟩
 rw [pp,if_neg (by rw [h1];decide),if_neg (by rw [h2];decide)]
theorem Ps.termEnd {i:Nat} {cs:List Cn} {e:Tr} (h1:isAt ts [42] i=false) (h2:isAt ts [47] i=false):Ps ts (.termL e) i cs (.ok e i cs):=by
 refine ⟨1,?_⟩
 rw [pp,if_neg (by rw [h1];decide),if_neg (by rw [h2];decide)]
theorem Ps.neg {i j:Nat} {cs cs':List Cn} {e:Tr} (ha:isAt ts [45] i=true) (h:Ps ts .fac (i+1) cs (.ok e j cs')):Ps ts .fac i cs (.ok (nodeT 4 0 [e]) j cs'):=by
 obtain ⟨n,h⟩:=h
 refine ⟨n+1,?_⟩
 rw [pp,if_pos ha,h]
 rfl
theorem Ps.fac {i j:Nat} {cs cs':List Cn} {e:Tr} (ha:isAt ts [45] i=false) (h:Ps ts .atom i cs (.ok e j cs')) (hp:isAt ts [94] j=false):Ps ts .fac i cs (.ok e j cs'):=by
 obtain ⟨n,h⟩:=h
 refine ⟨n+1,?_⟩
 rw [pp,if_neg (by rw [ha];decide),h]
 show (if isAt ts [94] j=true then _ else _)=_
 rw [if_neg (by rw [hp];decide)]
theorem Ps.pow {i j:Nat} {cs cs' cs2:List Cn} {e:Tr} {k:Nat} (ha:isAt ts [45] i=false) (h:Ps ts .atom i cs (.ok e j cs')) (hp:isAt ts [94] j=true) (hm:isAt ts [45] (j+1)=false) (hc:cntP ts 0 32 (j+1) cs'=.ok k (j+2) cs2):Ps ts .fac i cs (.ok (nodeT 9 k [e]) (j+2) cs2):=by
 obtain ⟨n,h⟩:=h
 refine ⟨n+1,?_⟩
 rw [pp,if_neg (by rw [ha];decide),h]
 show (if isAt ts [94] j=true then _ else _)=_
 rw [if_pos hp,if_neg (by rw [hm];decide),hc]
 rfl
theorem Ps.powN {i j:Nat} {cs cs' cs2:List Cn} {e:Tr} {k:Nat} (ha:isAt ts [45] i=false) (h:Ps ts .atom i cs (.ok e j cs')) (hp:isAt ts [94] j=true) (hm:isAt ts [45] (j+1)=true) (hc:cntP ts 0 32 (j+2) cs'=.ok k (j+3) cs2):Ps ts .fac i cs (.ok (nodeT 9 (-(k:Int)) [e]) (j+3) cs2):=by
 obtain ⟨n,h⟩:=h
 refine ⟨n+1,?_⟩
 rw [pp,if_neg (by rw [ha];decide),h]
 show (if isAt ts [94] j=true then _ else _)=_
 rw [if_pos hp,if_pos hm,hc]
 rfl
/-! tokens from a place on -/
def At (ts:List Tk) (i:Nat) (l:List (Nat × List Nat)):Prop:=(ts.map kt).drop i=l
theorem At.head {i:Nat} {x:Nat × List Nat} {l:List (Nat × List Nat)} (h:At ts i (x::l)):(∃t,ts[i]?=some t∧kt t=x)∧At ts (i+1) l:=by
 unfold At at h ⊢
 have h1:(ts.map kt)[i]?=some x:=by
  have:=congrArg (·[0]?) h
  simpa using this
 rw [List.getElem?_map] at h1
 obtain ⟨t,h2,h3⟩:=Option.map_eq_some_iff.1 h1
 refine ⟨⟨t,h2,h3⟩,?_⟩
 rw [← List.drop_drop,h]
 rfl
theorem At.app {i:Nat}:∀{a l:List (Nat × List Nat)},At ts i (a++l)→At ts (i+a.length) l
 | [],l,h=>h
 | x::a,l,h=>by
  have h1:=(At.head (l:=a++l) h).2
  have:=At.app h1
  rw [List.length_cons,show i+(a.length+1)=i+1+a.length by omega]
  exact this
theorem At.is {i:Nat} {s:List Nat} {l:List (Nat × List Nat)} (h:At ts i ((0,s)::l)):isAt ts s i=true:=by
 obtain ⟨t,h1,h2⟩:=h.head.1
 unfold isAt
 rw [h1]
 unfold kt at h2
 injection h2 with h3 h4
 exact decide_eq_true ⟨h3,h4⟩
def NoAt (l:List (Nat × List Nat)) (s:List Nat):Prop:=l.head?≠some (0,s)
theorem At.no {i:Nat} {s:List Nat} {l:List (Nat × List Nat)} (h:At ts i l) (hn:NoAt l s):isAt ts s i=false:=by
 unfold isAt
 cases ht:ts[i]? with
 | none=>rfl
 | some t=>
  refine decide_eq_false fun x=>hn ?_
  unfold At at h
  have:(ts.map kt)[i]?=some (kt t):=by rw [List.getElem?_map,ht];rfl
  rw [← h,List.head?_drop,this]
  unfold kt
  rw [x.1,x.2]
/-! counts that are in range -/
def okC (cs:List Cn):Prop:=∀c∈cs,¬badC c
theorem natL_cons (c:Nat) (l:List Nat):natL (c::l)=(c-48)*10^l.length+natL l:=by
 have h:=natL_append [c] l
 have e:natL [c]=c-48:=by unfold natL;simp
 rw [e] at h
 exact h
theorem cntV_dec {high:Nat}:∀{l:List Nat} {n:Nat},(∀x∈l,dgt x=true)→n*10^l.length+natL l≤high→cntV high l n=n*10^l.length+natL l
 | [],n,_,_=>by rw [cntV];simp [natL]
 | c::l,n,hd,h=>by
  have hc:=dgt_iff.1 (hd c (List.mem_cons_self ..))
  have e:n*10^(c::l).length+natL (c::l)=(10*n+(c-48))*10^l.length+natL l:=by
   rw [natL_cons,List.length_cons,Nat.pow_succ,Nat.add_mul]
   simp only [Nat.mul_comm,Nat.mul_assoc,Nat.mul_left_comm]
   omega
  have hle:n≤high:=by
   refine Nat.le_trans ?_ h
   refine Nat.le_trans ?_ (Nat.le_add_right _ _)
   exact Nat.le_mul_of_pos_right _ (Nat.pos_of_ne_zero (by simp))
  rw [cntV,if_pos hle,cntV_dec (fun x hx=>hd x (List.mem_cons_of_mem _ hx)) (by rw [← e];exact h),e]
theorem cnt_ok {i n low high:Nat} {l:List (Nat × List Nat)} {cs:List Cn} (h:At ts i ((1,decL n)::l)) (h1:low≤n) (h2:n≤high) (hc:okC cs):∃cs',okC cs'∧cntP ts low high i cs=.ok n (i+1) cs':=by
 obtain ⟨t,h3,h4⟩:=h.head.1
 unfold kt at h4
 injection h4 with h5 h6
 have hv:cntV high (decL n) 0=n:=by
  have:=cntV_dec (high:=high) (l:=decL n) (n:=0) (decL_dig n) (by rw [natL_decL];omega)
  rw [this,natL_decL];omega
 have hd:dlen (decL n)=(decL n).length:=by
  have:=dlen_app (a:=decL n) (b:=[]) (decL_dig n) (fun c e=>by cases e)
  rwa [List.append_nil] at this
 refine ⟨cs++[⟨t.pos,low,high,n⟩],fun c hm=>?_,?_⟩
 ·rcases List.mem_append.1 hm with hm|hm
  ·exact hc c hm
  ·obtain rfl:=List.mem_singleton.1 hm
   unfold badC
   show ¬(n<low∨high<n)
   omega
 ·unfold cntP
  rw [h3]
  show (if t.kind=1∧dlen t.text=t.text.length then _ else _)=_
  rw [h5,h6,if_pos ⟨rfl,hd⟩,hv]
/-! the tree that is read back -/
end
mutual
def reT:Tr→Tr
 | .mk op arg neg l m name ks=>if op=1 then numT (fmtL (ratOf neg l m)) prs else if op=2 then varT name else nodeT op arg (reTs ks)
def reTs:List Tr→List Tr
 | []=>[]
 | t::ts=>reT t::reTs ts
end
theorem reTs_len:∀ts:List Tr,(reTs ts).length=ts.length
 | []=>by rw [reTs]
 | t::ts=>by rw [reTs,List.length_cons,List.length_cons,reTs_len ts]
section
variable (ts:List Tk)
structure Rd (lev:Int) (K:List (Nat × List Nat)) (t:Tr):Prop where
 head:5≤lev→∀l,NoAt (K++l) [45]
 atom:5≤lev→∀i l cs,At ts i (K++l)→okC cs→∃cs',okC cs'∧Ps ts .atom i cs (.ok t (i+K.length) cs')
 fac:3≤lev→∀i l cs,At ts i (K++l)→NoAt l [94]→okC cs→∃cs',okC cs'∧Ps ts .fac i cs (.ok t (i+K.length) cs')
 term:2≤lev→∀i l cs,At ts i (K++l)→NoAt l [94]→okC cs→∃cs',okC cs'∧∀r,Ps ts (.termL t) (i+K.length) cs' r→Ps ts .term i cs r
 sum:∀i l cs,At ts i (K++l)→NoAt l [94]→NoAt l [42]→NoAt l [47]→okC cs→∃cs',okC cs'∧∀r,Ps ts (.sumL t) (i+K.length) cs' r→Ps ts .sum i cs r
end
section
variable {ts:List Tk}
theorem Rd.ofTerm {lev:Int} {K:List (Nat × List Nat)} {t:Tr} (hl:lev<3) (term:2≤lev→∀i l cs,At ts i (K++l)→NoAt l [94]→okC cs→∃cs',okC cs'∧∀r,Ps ts (.termL t) (i+K.length) cs' r→Ps ts .term i cs r) (h2:2≤lev):Rd ts lev K t:=
 ⟨fun h=>by omega,fun h=>by omega,fun h=>by omega,term,fun i l cs hA h94 h42 h47 hc=>by
   obtain ⟨cs',h1,h3⟩:=term h2 i l cs hA h94 hc
   exact ⟨cs',h1,fun r hr=>Ps.sum (h3 _ (Ps.termEnd (hA.app.no h42) (hA.app.no h47))) hr⟩⟩
theorem Rd.ofFac {lev:Int} {K:List (Nat × List Nat)} {t:Tr} (head:5≤lev→∀l,NoAt (K++l) [45]) (atom:5≤lev→∀i l cs,At ts i (K++l)→okC cs→∃cs',okC cs'∧Ps ts .atom i cs (.ok t (i+K.length) cs'))
  (fac:∀i l cs,At ts i (K++l)→NoAt l [94]→okC cs→∃cs',okC cs'∧Ps ts .fac i cs (.ok t (i+K.length) cs')):Rd ts lev K t:=by
 have term:∀i l cs,At ts i (K++l)→NoAt l [94]→okC cs→∃cs',okC cs'∧∀r,Ps ts (.termL t) (i+K.length) cs' r→Ps ts .term i cs r:=fun i l cs hA h94 hc=>by
  obtain ⟨cs',h1,h2⟩:=fac i l cs hA h94 hc
  exact ⟨cs',h1,fun r hr=>Ps.term h2 hr⟩
 exact ⟨head,atom,fun _=>fac,fun _=>term,fun i l cs hA h94 h42 h47 hc=>by
   obtain ⟨cs',h1,h3⟩:=term i l cs hA h94 hc
   exact ⟨cs',h1,fun r hr=>Ps.sum (h3 _ (Ps.termEnd (hA.app.no h42) (hA.app.no h47))) hr⟩⟩
theorem Rd.ofAtom {lev:Int} {K:List (Nat × List Nat)} {t:Tr} (hK:∀l,NoAt (K++l) [45]) (atom:∀i l cs,At ts i (K++l)→okC cs→∃cs',okC cs'∧Ps ts .atom i cs (.ok t (i+K.length) cs')):Rd ts lev K t:=
 Rd.ofFac (fun _=>hK) (fun _=>atom) fun i l cs hA h94 hc=>by
  obtain ⟨cs',h1,h2⟩:=atom i l cs hA hc
  exact ⟨cs',h1,Ps.fac (hA.no (hK l)) h2 (hA.app.no h94)⟩
theorem Rd.all {lev:Int} {K:List (Nat × List Nat)} {t:Tr} (h:Rd ts lev K t) {i:Nat} {l:List (Nat × List Nat)} {cs:List Cn} (hA:At ts i (K++l)) (h94:NoAt l [94]) (h42:NoAt l [42]) (h47:NoAt l [47]) (h43:NoAt l [43]) (h45:NoAt l [45]) (hc:okC cs):
  ∃cs',okC cs'∧Ps ts .sum i cs (.ok t (i+K.length) cs'):=by
 obtain ⟨cs',h1,h2⟩:=h.sum i l cs hA h94 h42 h47 hc
 exact ⟨cs',h1,h2 _ (Ps.sumEnd (hA.app.no h43) (hA.app.no h45))⟩
theorem no_ne {s s':List Nat} {l:List (Nat × List Nat)} (h:s'≠s):NoAt ((0,s')::l) s:=fun e=>by
 injection e with e
 injection e with _ e
 exact h e
theorem no_kind {k:Nat} {s s':List Nat} {l:List (Nat × List Nat)} (h:k≠0):NoAt ((k,s')::l) s:=fun e=>by
 injection e with e
 injection e with e _
 exact h e
theorem no_nil {s:List Nat}:NoAt [] s:=fun e=>by cases e
theorem want_ok {s:List Nat} {i:Nat} {cs:List Cn} {l:List (Nat × List Nat)} (h:At ts i ((0,s)::l)):wantP ts s i cs=some (.ok () (i+1) cs):=by
 unfold wantP
 rw [if_pos h.is]
theorem Rd.par {lev lev':Int} {K:List (Nat × List Nat)} {t:Tr} (h:Rd ts lev K t):Rd ts lev' ([sgT 40]++K++[sgT 41]) t:=by
 refine Rd.ofAtom (fun l=>by show NoAt ((0,[40])::_) _;exact no_ne (by decide)) fun i l cs hA hc=>?_
 have hA':At ts i ((0,[40])::(K++((0,[41])::l))):=by
  have e:[sgT 40]++K++[sgT 41]++l=(0,[40])::(K++((0,[41])::l)):=by simp [sgT]
  rwa [e] at hA
 obtain ⟨⟨tk,e1,e2⟩,hA1⟩:=hA'.head
 have hA2:=hA1.app
 have q:∀s,s≠[41]→NoAt ((0,[41])::l) s:=fun s hs=>no_ne fun e=>hs e.symm
 obtain ⟨cs',h1,n,h2⟩:=h.all hA1 (q _ (by decide)) (q _ (by decide)) (q _ (by decide)) (q _ (by decide)) (q _ (by decide)) hc
 unfold kt at e2
 injection e2 with e3 e4
 refine ⟨cs',h1,n+1,?_⟩
 rw [pp,e1]
 show (if tk.kind=2 then _ else _)=_
 rw [e3,e4,if_neg (by decide),if_neg (by decide),if_neg (by decide),if_neg (by decide),if_pos rfl,h2]
 show Pr.bnd (wantP ts [41] (i+1+K.length) cs') _=_
 rw [want_ok hA2]
 show some (Pr.ok t (i+1+K.length+1) cs')=_
 rw [show i+([sgT 40]++K++[sgT 41]).length=i+1+K.length+1 by simp;omega]
theorem Rd.place {K:List (Nat × List Nat)} {lev low:Int} {t:Tr} (h:Rd ts lev K t) (h5:low≤5):Rd ts low (placeK (K,lev) low) t:=by
 unfold placeK
 split
 ·rename_i hle
  have hle':low≤lev:=hle
  exact ⟨fun x=>h.head (by omega),fun x=>h.atom (by omega),fun x=>h.fac (by omega),fun x=>h.term (by omega),h.sum⟩
 ·exact h.par
end
end Go.Proofs.YtmblpmegfmgjgaaGreatDoor
/- The text of a tree, parsed: each kind of node; the whole. -/
namespace Go.Proofs.YtmblpmegfmgjgaaGreatDoor
open Go Go.Vc Go.Dig
section
variable {ts:List Tk}
def Rds (ts:List Tk):List (List (Nat × List Nat) × Int)→List Tr→Prop
 | [],[]=>True
 | x::xs,u::us=>Rd ts x.2 x.1 u∧Rds ts xs us
 | _,_=>False
theorem no41 {s:List Nat} {l:List (Nat × List Nat)} (hs:s≠[41]):NoAt ((0,[41])::l) s:=no_ne fun e=>hs e.symm
theorem join_no {xs:List (List (Nat × List Nat) × Int)} {l:List (Nat × List Nat)} {s:List Nat} (h1:s≠[41]) (h2:s≠[44]):NoAt (joinK false xs++(0,[41])::l) s:=by
 match xs with
 | []=>exact no41 h1
 | x::r=>rw [joinK];exact no_ne fun e=>h2 e.symm
theorem kids_ok:∀{xs:List (List (Nat × List Nat) × Int)} {us acc:List Tr} {k i:Nat} {l:List (Nat × List Nat)} {cs:List Cn} (b:Bool),Rds ts xs us→acc.length+us.length=k→(b=true↔acc=[])→At ts i (joinK b xs++(0,[41])::l)→okC cs→
  ∃cs',okC cs'∧Ps ts (.kidsL k acc.length acc) i cs (.ok (nodeT 0 0 (acc++us)) (i+(joinK b xs).length+1) cs')
 | [],[],acc,k,i,l,cs,b,_,hk,hb,hA,hc=>by
  have e:joinK b []=[]:=by cases b <;> rfl
  rw [e] at hA ⊢
  refine ⟨cs,hc,1,?_⟩
  simp at hk
  rw [pp,if_neg (by omega),want_ok hA,List.append_nil]
  rfl
 | x::xs,u::us,acc,k,i,l,cs,b,h,hk,hb,hA,hc=>by
  have hlt:acc.length<k:=by simp at hk;omega
  have hn:∀s,s≠[41]→s≠[44]→NoAt (joinK false xs++(0,[41])::l) s:=fun s a c=>join_no a c
  have key:∀(i0:Nat) (cs0:List Cn),At ts i0 (x.1++(joinK false xs++(0,[41])::l))→okC cs0→∃cs',okC cs'∧∃n,Pr.bnd (pp ts prs n .sum i0 cs0) (fun e i cs=>pp ts prs n (.kidsL k (acc.length+1) (acc++[e])) i cs)=some (.ok (nodeT 0 0 (acc++u::us)) (i0+x.1.length+(joinK false xs).length+1) cs'):=fun i0 cs0 hA0 hc0=>by
   obtain ⟨c1,h1,n1,h2⟩:=h.1.all hA0 (hn _ (by decide) (by decide)) (hn _ (by decide) (by decide)) (hn _ (by decide) (by decide)) (hn _ (by decide) (by decide)) (hn _ (by decide) (by decide)) hc0
   obtain ⟨c2,h3,n2,h4⟩:=kids_ok (acc:=acc++[u]) (k:=k) false h.2 (by simp at hk ⊢;omega) ⟨fun e=>(by cases e),fun e=>(by simp at e)⟩ hA0.app h1
   rw [List.length_append,List.length_singleton,List.append_assoc] at h4
   refine ⟨c2,h3,max n1 n2,?_⟩
   rw [pp_mono ts prs h2 _ (Nat.le_max_left n1 n2)]
   exact pp_mono ts prs h4 _ (Nat.le_max_right n1 n2)
  cases b with
  | true=>
   have e0:acc=[]:=hb.1 rfl
   subst e0
   rw [joinK,List.append_assoc] at hA
   obtain ⟨cs',h1,n,h2⟩:=key i cs hA hc
   refine ⟨cs',h1,n+1,?_⟩
   rw [pp,if_pos hlt,if_neg (by simp)]
   rw [joinK,List.length_append,← Nat.add_assoc]
   exact h2
  | false=>
   have e0:0<acc.length:=List.length_pos_iff.2 fun e=>by have:=hb.2 e;cases this
   rw [joinK,List.append_assoc,List.append_assoc] at hA
   have hA':At ts i ((0,[44])::(x.1++(joinK false xs++(0,[41])::l))):=hA
   obtain ⟨cs',h1,n,h2⟩:=key (i+1) cs hA'.head.2 hc
   refine ⟨cs',h1,n+1,?_⟩
   rw [pp,if_pos hlt,if_pos e0,want_ok hA']
   rw [joinK]
   rw [show i+([sgT 44]++x.1++joinK false xs).length+1=i+1+x.1.length+(joinK false xs).length+1 by simp;omega]
   exact h2
 | [],_::_,_,_,_,_,_,_,h,_,_,_,_=>h.elim
 | _::_,[],_,_,_,_,_,_,h,_,_,_,_=>h.elim
theorem list_ok {xs:List (List (Nat × List Nat) × Int)} {us:List Tr} {k i:Nat} {l:List (Nat × List Nat)} {cs:List Cn} (h:Rds ts xs us) (hk:us.length=k) (hA:At ts i ((0,[40])::(joinK true xs++(0,[41])::l))) (hc:okC cs):
  ∃cs',okC cs'∧Ps ts (.kids k) i cs (.ok (nodeT 0 0 us) (i+1+(joinK true xs).length+1) cs'):=by
 obtain ⟨cs',h1,n,h2⟩:=kids_ok (acc:=[]) (k:=k) true h (by simpa using hk) ⟨fun _=>rfl,fun _=>rfl⟩ hA.head.2 hc
 refine ⟨cs',h1,n+1,?_⟩
 rw [pp,want_ok hA]
 exact h2
theorem one_kid {ks:List Tr} {n:Int} (h:(ks.length:Int)=n) (hn:n=1):∃k,ks=[k]:=by
 match ks,h with
 | [k],_=>exact ⟨k,rfl⟩
 | [],h=>simp at h;omega
 | _::_::r,h=>simp at h;omega
theorem two_kids {ks:List Tr} {n:Int} (h:(ks.length:Int)=n) (hn:n=2):∃a b,ks=[a,b]:=by
 match ks,h with
 | [a,b],_=>exact ⟨a,b,rfl⟩
 | [_],h=>simp at h;omega
 | [],h=>simp at h;omega
 | _::_::_::r,h=>simp at h;omega
theorem rd_num {q:Rat} {lev:Int}:Rd ts lev [(1,fmtL q)] (numT (fmtL q) prs):=by
 refine Rd.ofAtom (fun l=>no_kind (by decide)) fun i l cs hA hc=>?_
 obtain ⟨⟨t,e1,e2⟩,-⟩:=At.head (l:=l) hA
 unfold kt at e2
 injection e2 with e3 e4
 refine ⟨cs,hc,1,?_⟩
 rw [pp,e1]
 show (if t.kind=2 then _ else _)=_
 rw [e3,e4,if_neg (by decide),if_neg (by decide),if_pos rfl]
 rfl
theorem rd_var {n:List Nat} {lev:Int}:Rd ts lev [(2,n)] (varT n):=by
 refine Rd.ofAtom (fun l=>no_kind (by decide)) fun i l cs hA hc=>?_
 obtain ⟨⟨t,e1,e2⟩,-⟩:=At.head (l:=l) hA
 unfold kt at e2
 injection e2 with e3 e4
 refine ⟨cs,hc,1,?_⟩
 rw [pp,e1]
 show (if t.kind=2 then _ else _)=_
 rw [e3,e4,if_pos rfl]
 rfl
theorem rd_pi {lev:Int}:Rd ts lev [(0,[112,105])] (nodeT 3 0 []):=by
 refine Rd.ofAtom (fun l=>no_ne (by decide)) fun i l cs hA hc=>?_
 obtain ⟨⟨t,e1,e2⟩,-⟩:=At.head (l:=l) hA
 unfold kt at e2
 injection e2 with e3 e4
 refine ⟨cs,hc,1,?_⟩
 rw [pp,e1]
 show (if t.kind=2 then _ else _)=_
 rw [e3,e4,if_neg (by decide),if_neg (by decide),if_neg (by decide),if_pos rfl]
 rfl
theorem rd_neg {K:List (Nat × List Nat)} {t:Tr} (h:Rd ts 3 K t):Rd ts 3 ([sgT 45]++K) (nodeT 4 0 [t]):=by
 refine Rd.ofFac (fun h=>absurd h (by decide)) (fun h=>absurd h (by decide)) fun i l cs hA h94 hc=>?_
 have hA':At ts i ((0,[45])::(K++l)):=hA
 obtain ⟨cs',h1,h2⟩:=h.fac (by decide) (i+1) l cs hA'.head.2 h94 hc
 refine ⟨cs',h1,?_⟩
 have:=Ps.neg hA'.is h2
 rwa [show i+1+K.length=i+([sgT 45]++K).length by simp;omega] at this
theorem no_opC {op:Int} {s:List Nat} {l:List (Nat × List Nat)} (h:s≠[opC op]):NoAt (sgT (opC op)::l) s:=no_ne fun e=>h e.symm
theorem rd_add {op:Int} (ho:op=5∨op=6) {K K':List (Nat × List Nat)} {t u:Tr} (h:Rd ts 1 K t) (h':Rd ts 2 K' u):Rd ts 1 (K++[sgT (opC op)]++K') (nodeT op 0 [t,u]):=by
 refine ⟨fun h=>absurd h (by decide),fun h=>absurd h (by decide),fun h=>absurd h (by decide),fun h=>absurd h (by decide),fun i l cs hA h94 h42 h47 hc=>?_⟩
 have hA':At ts i (K++(sgT (opC op)::(K'++l))):=by
  have e:K++[sgT (opC op)]++K'++l=K++(sgT (opC op)::(K'++l)):=by simp
  rwa [e] at hA
 have hop:∀s,s≠[43]→s≠[45]→NoAt (sgT (opC op)::(K'++l)) s:=fun s a b=>no_opC (by rcases ho with rfl|rfl <;> assumption)
 obtain ⟨c1,g1,g2⟩:=h.sum i _ cs hA' (hop _ (by decide) (by decide)) (hop _ (by decide) (by decide)) (hop _ (by decide) (by decide)) hc
 have hA1:=hA'.app
 obtain ⟨c2,g3,g4⟩:=h'.term (by decide) _ l c1 hA1.head.2 h94 g1
 refine ⟨c2,g3,fun r hr=>g2 r ?_⟩
 have e:i+(K++[sgT (opC op)]++K').length=i+K.length+1+K'.length:=by simp;omega
 rw [e] at hr
 exact Ps.add ho hA1.is (g4 _ (Ps.termEnd (hA1.head.2.app.no h42) (hA1.head.2.app.no h47))) hr
theorem rd_mul {op:Int} (ho:op=7∨op=8) {K K':List (Nat × List Nat)} {t u:Tr} (h:Rd ts 2 K t) (h':Rd ts 3 K' u):Rd ts 2 (K++[sgT (opC op)]++K') (nodeT op 0 [t,u]):=by
 refine Rd.ofTerm (by decide) (fun _ i l cs hA h94 hc=>?_) (by decide)
 have hA':At ts i (K++(sgT (opC op)::(K'++l))):=by
  have e:K++[sgT (opC op)]++K'++l=K++(sgT (opC op)::(K'++l)):=by simp
  rwa [e] at hA
 have hop:∀s,s≠[42]→s≠[47]→NoAt (sgT (opC op)::(K'++l)) s:=fun s a b=>no_opC (by rcases ho with rfl|rfl <;> assumption)
 obtain ⟨c1,g1,g2⟩:=h.term (by decide) i _ cs hA' (hop _ (by decide) (by decide)) hc
 have hA1:=hA'.app
 obtain ⟨c2,g3,g4⟩:=h'.fac (by decide) _ l c1 hA1.head.2 h94 g1
 refine ⟨c2,g3,fun r hr=>g2 r ?_⟩
 have e:i+(K++[sgT (opC op)]++K').length=i+K.length+1+K'.length:=by simp;omega
 rw [e] at hr
 exact Ps.mul ho hA1.is g4 hr
theorem rd_pow {arg:Int} (h1:-32≤arg) (h2:arg≤32) {K:List (Nat × List Nat)} {t:Tr} (h:Rd ts 5 K t):Rd ts 4 (K++([sgT 94]++itK arg)) (nodeT 9 arg [t]):=by
 refine Rd.ofFac (fun h=>absurd h (by decide)) (fun h=>absurd h (by decide)) fun i l cs hA h94 hc=>?_
 have hm:=hA.no (by rw [List.append_assoc];exact h.head (by decide) _)
 by_cases hn:arg<0
 ·have e:K++([sgT 94]++itK arg)++l=K++((0,[94])::(0,[45])::(1,decL arg.natAbs)::l):=by unfold itK;rw [if_pos hn];simp [sgT]
  rw [e] at hA
  obtain ⟨c1,g1,g2⟩:=h.atom (by decide) i _ cs hA hc
  have hA1:=hA.app
  have hA2:=hA1.head.2
  obtain ⟨c2,g3,g4⟩:=cnt_ok (low:=0) (high:=32) hA2.head.2 (by omega) (by omega) g1
  refine ⟨c2,g3,?_⟩
  have:=Ps.powN hm g2 hA1.is hA2.is g4
  rw [show (-((arg.natAbs:Nat):Int))=arg by omega] at this
  rw [show i+(K++([sgT 94]++itK arg)).length=i+K.length+3 by unfold itK;rw [if_pos hn];simp;omega]
  exact this
 ·have e:K++([sgT 94]++itK arg)++l=K++((0,[94])::(1,decL arg.natAbs)::l):=by unfold itK;rw [if_neg hn];simp [sgT]
  rw [e] at hA
  obtain ⟨c1,g1,g2⟩:=h.atom (by decide) i _ cs hA hc
  have hA1:=hA.app
  have hA2:=hA1.head.2
  obtain ⟨c2,g3,g4⟩:=cnt_ok (low:=0) (high:=32) hA2 (by omega) (by omega) g1
  refine ⟨c2,g3,?_⟩
  have:=Ps.pow hm g2 hA1.is (hA2.no (no_kind (by decide))) g4
  rw [show ((arg.natAbs:Nat):Int)=arg by omega] at this
  rw [show i+(K++([sgT 94]++itK arg)).length=i+K.length+2 by unfold itK;rw [if_neg hn];simp;omega]
  exact this
theorem rd_call {arg:Int} (h1:1≤arg) (h2:arg≤8) {xs:List (List (Nat × List Nat) × Int)} {u:Tr} {lev:Int} (h:Rds ts xs [u]):Rd ts lev ([(3,fnames.getD (arg.toNat-1) []),sgT 40]++joinK true xs++[sgT 41]) (nodeT 11 arg [u]):=by
 refine Rd.ofAtom (fun l=>no_kind (by decide)) fun i l cs hA hc=>?_
 have e:[(3,fnames.getD (arg.toNat-1) []),sgT 40]++joinK true xs++[sgT 41]++l=(3,fnames.getD (arg.toNat-1) [])::((0,[40])::(joinK true xs++(0,[41])::l)):=by simp [sgT]
 rw [e] at hA
 obtain ⟨⟨t,e1,e2⟩,hA1⟩:=hA.head
 unfold kt at e2
 injection e2 with e3 e4
 obtain ⟨c1,g1,n,g2⟩:=list_ok h rfl hA1 hc
 refine ⟨c1,g1,n+1,?_⟩
 have hf:=fnIx_all (arg.toNat-1) (by omega)
 rw [pp,e1]
 show (if t.kind=2 then _ else _)=_
 rw [e3,e4,if_neg (by decide),if_pos rfl]
 rw [show ([u]:List Tr).length=1 from rfl] at g2
 rw [g2,hf]
 show some (Pr.ok (nodeT 11 ((arg.toNat-1+1:Nat):Int) [u]) _ _)=_
 rw [show ((arg.toNat-1+1:Nat):Int)=arg by omega]
 rw [show i+([(3,fnames.getD (arg.toNat-1) []),sgT 40]++joinK true xs++[sgT 41]).length=i+1+1+(joinK true xs).length+1 by simp;omega]
theorem rd_word {op arg:Int} {w:List Nat} {k:Nat} (hw:(op=12∧arg=0∧w=[97,98,115]∧k=1)∨(op=10∧arg=2∧w=[115,113,114,116]∧k=1)∨(op=13∧arg=0∧w=[109,105,110]∧k=2)∨(op=14∧arg=0∧w=[109,97,120]∧k=2)∨(op=15∧arg=0∧w=[105,102]∧k=3))
  {xs:List (List (Nat × List Nat) × Int)} {us:List Tr} {lev:Int} (h:Rds ts xs us) (hk:us.length=k):Rd ts lev ([(0,w),sgT 40]++joinK true xs++[sgT 41]) (nodeT op arg us):=by
 refine Rd.ofAtom (fun l=>no_ne (by rcases hw with ⟨-,-,rfl,-⟩|⟨-,-,rfl,-⟩|⟨-,-,rfl,-⟩|⟨-,-,rfl,-⟩|⟨-,-,rfl,-⟩ <;> decide)) fun i l cs hA hc=>?_
 have e:[(0,w),sgT 40]++joinK true xs++[sgT 41]++l=(0,w)::((0,[40])::(joinK true xs++(0,[41])::l)):=by simp [sgT]
 rw [e] at hA
 obtain ⟨⟨t,e1,e2⟩,hA1⟩:=hA.head
 unfold kt at e2
 injection e2 with e3 e4
 obtain ⟨c1,g1,n,g2⟩:=list_ok h hk hA1 hc
 refine ⟨c1,g1,n+1,?_⟩
 rw [pp,e1]
 show (if t.kind=2 then _ else _)=_
 rw [e3,e4,if_neg (by decide),if_neg (by decide),if_neg (by decide)]
 rw [show i+([(0,w),sgT 40]++joinK true xs++[sgT 41]).length=i+1+1+(joinK true xs).length+1 by simp;omega]
 rcases hw with ⟨rfl,rfl,rfl,rfl⟩|⟨rfl,rfl,rfl,rfl⟩|⟨rfl,rfl,rfl,rfl⟩|⟨rfl,rfl,rfl,rfl⟩|⟨rfl,rfl,rfl,rfl⟩
 ·rw [if_neg (by decide),if_neg (by decide),if_pos rfl,g2];rfl
 ·rw [if_neg (by decide),if_neg (by decide),if_neg (by decide),if_pos rfl,g2];rfl
 ·rw [if_neg (by decide),if_neg (by decide),if_neg (by decide),if_neg (by decide),if_pos rfl,g2];rfl
 ·rw [if_neg (by decide),if_neg (by decide),if_neg (by decide),if_neg (by decide),if_neg (by decide),if_pos rfl,g2];rfl
 ·rw [if_neg (by decide),if_neg (by decide),if_neg (by decide),if_neg (by decide),if_neg (by decide),if_neg (by decide),if_pos rfl,g2];rfl
theorem rd_root {arg:Int} (h1:2≤arg) (h2:arg≤8) {x:List (Nat × List Nat) × Int} {u:Tr} {lev:Int} (h:Rd ts x.2 x.1 u):Rd ts lev ([(0,[114,111,111,116]),sgT 40]++itK arg++[sgT 44]++joinK true [x]++[sgT 41]) (nodeT 10 arg [u]):=by
 refine Rd.ofAtom (fun l=>no_ne (by decide)) fun i l cs hA hc=>?_
 have hi:itK arg=[(1,decL arg.natAbs)]:=if_neg (by omega)
 have hj:joinK true [x]=x.1:=by rw [joinK,joinK,List.append_nil]
 have e:[(0,[114,111,111,116]),sgT 40]++itK arg++[sgT 44]++joinK true [x]++[sgT 41]++l=(0,[114,111,111,116])::((0,[40])::((1,decL arg.natAbs)::((0,[44])::(x.1++(0,[41])::l)))):=by rw [hi,hj];simp [sgT]
 rw [e] at hA
 obtain ⟨⟨t,e1,e2⟩,hA1⟩:=hA.head
 unfold kt at e2
 injection e2 with e3 e4
 have hA2:=hA1.head.2
 obtain ⟨c1,g1,g2⟩:=cnt_ok (low:=2) (high:=8) hA2 (by omega) (by omega) hc
 have hA3:=hA2.head.2
 have hA4:=hA3.head.2
 obtain ⟨c2,g3,n,g4⟩:=h.all hA4 (no41 (by decide)) (no41 (by decide)) (no41 (by decide)) (no41 (by decide)) (no41 (by decide)) g1
 refine ⟨c2,g3,n+1,?_⟩
 rw [pp,e1]
 show (if t.kind=2 then _ else _)=_
 rw [e3,e4,if_neg (by decide),if_neg (by decide),if_neg (by decide),if_neg (by decide),if_neg (by decide),if_neg (by decide),if_neg (by decide),if_neg (by decide),if_neg (by decide),if_neg (by decide),if_pos rfl,want_ok hA1]
 show Pr.bnd (some (cntP ts 2 8 (i+1+1) cs)) _=_
 rw [g2]
 show Pr.bnd (wantP ts [44] (i+1+1+1) c1) _=_
 rw [want_ok hA3]
 show Pr.bnd (pp ts prs n .sum (i+1+1+1+1) c1) _=_
 rw [g4]
 show Pr.bnd (wantP ts [41] (i+1+1+1+1+x.1.length) c2) _=_
 rw [want_ok hA4.app]
 show some (Pr.ok (nodeT 10 (arg.natAbs:Int) [u]) _ _)=_
 rw [show ((arg.natAbs:Nat):Int)=arg by omega]
 rw [show i+([(0,[114,111,111,116]),sgT 40]++itK arg++[sgT 44]++joinK true [x]++[sgT 41]).length=i+1+1+1+1+x.1.length+1 by rw [hi,hj];simp;omega]
end
theorem Rds.get {ts:List Tk} {ks:List Tr} (h:∀t∈ks,Rd ts (levT t.op) (toksT t) (reT t)):Rds ts (tokssT ks) (reTs ks):=by
 induction ks with
 | nil=>rw [tokssT,reTs];trivial
 | cons t ks ih=>
  rw [tokssT,reTs]
  exact ⟨h t (List.mem_cons_self ..),ih fun u hu=>h u (List.mem_cons_of_mem _ hu)⟩
theorem rd_tree (ts:List Tk):∀(t:Tr) (d:Nat),okT d t→Rd ts (levT t.op) (toksT t) (reT t):=by
 refine tree_ind fun t ih=>?_
 intro d h
 obtain ⟨op,arg,neg,l,m,name,ks⟩:=t
 rw [okT] at h
 obtain ⟨-,⟨n1,n2,n3,n4,n5⟩,hk⟩:=h
 have kid:∀t∈ks,Rd ts (levT t.op) (toksT t) (reT t):=fun t ht=>by
  obtain ⟨i,hi,rfl⟩:=List.mem_iff_getElem.1 ht
  have e:=List.getElem?_eq_getElem hi
  exact ih _ (szT_kid e) (d+1) (okTs_get hk e)
 have kids:=Rds.get kid
 rw [toksT,reT]
 show Rd ts (levT op) _ _
 by_cases e:op=1
 ·rw [if_pos e]
  unfold nodeK
  rw [if_pos e]
  exact rd_num
 by_cases e2:op=2
 ·rw [if_neg e,if_pos e2]
  unfold nodeK
  rw [if_neg e,if_pos e2]
  exact rd_var
 rw [if_neg e,if_neg e2]
 have hl:∀o:Int,op=o→kidsN o=(ks.length:Int)∧lowA o≤arg∧arg≤highA o:=fun o x=>by subst x;exact ⟨n1.symm,n2,n3⟩
 unfold nodeK
 rw [if_neg e,if_neg e2]
 by_cases e3:op=3
 ·subst e3
  obtain ⟨k1,k2,k3⟩:=hl 3 rfl
  rw [show kidsN 3=0 by decide] at k1
  rw [show lowA 3=0 by decide] at k2
  rw [show highA 3=0 by decide] at k3
  obtain rfl:ks=[]:=List.length_eq_zero_iff.1 (by omega)
  obtain rfl:arg=0:=by omega
  rw [if_pos rfl]
  exact rd_pi
 rw [if_neg e3]
 by_cases e4:op=4
 ·subst e4
  obtain ⟨k1,k2,k3⟩:=hl 4 rfl
  obtain ⟨k,rfl⟩:=one_kid k1.symm (by decide)
  rw [show lowA 4=0 by decide] at k2
  rw [show highA 4=0 by decide] at k3
  obtain rfl:arg=0:=by omega
  rw [if_pos rfl,tokssT,tokssT,reTs,reTs]
  exact rd_neg ((kid k (List.mem_cons_self ..)).place (by decide))
 rw [if_neg e4]
 by_cases e5:op=5∨op=6
 ·obtain ⟨k1,k2,k3⟩:=hl op rfl
  rw [show kidsN op=2 by rcases e5 with rfl|rfl <;> decide] at k1
  rw [show lowA op=0 by rcases e5 with rfl|rfl <;> decide] at k2
  rw [show highA op=0 by rcases e5 with rfl|rfl <;> decide] at k3
  obtain ⟨a,b,rfl⟩:=two_kids k1.symm rfl
  obtain rfl:arg=0:=by omega
  rw [if_pos e5,tokssT,tokssT,tokssT,reTs,reTs,reTs]
  rw [show levT op=1 from if_pos e5]
  exact rd_add e5 ((kid a (List.mem_cons_self ..)).place (by decide)) ((kid b (List.mem_cons_of_mem _ (List.mem_cons_self ..))).place (by decide))
 rw [if_neg e5]
 by_cases e7:op=7∨op=8
 ·obtain ⟨k1,k2,k3⟩:=hl op rfl
  rw [show kidsN op=2 by rcases e7 with rfl|rfl <;> decide] at k1
  rw [show lowA op=0 by rcases e7 with rfl|rfl <;> decide] at k2
  rw [show highA op=0 by rcases e7 with rfl|rfl <;> decide] at k3
  obtain ⟨a,b,rfl⟩:=two_kids k1.symm rfl
  obtain rfl:arg=0:=by omega
  rw [if_pos e7,tokssT,tokssT,tokssT,reTs,reTs,reTs]
  rw [show levT op=2 from (if_neg e5).trans (if_pos e7)]
  exact rd_mul e7 ((kid a (List.mem_cons_self ..)).place (by decide)) ((kid b (List.mem_cons_of_mem _ (List.mem_cons_self ..))).place (by decide))
 rw [if_neg e7]
 by_cases e9:op=9
 ·subst e9
  obtain ⟨k1,k2,k3⟩:=hl 9 rfl
  obtain ⟨k,rfl⟩:=one_kid k1.symm (by decide)
  rw [show lowA 9=-32 by decide] at k2
  rw [show highA 9=32 by decide] at k3
  rw [if_pos rfl,tokssT,tokssT,reTs,reTs]
  exact rd_pow k2 k3 ((kid k (List.mem_cons_self ..)).place (by decide))
 rw [if_neg e9]
 have hlev:levT op=5:=by unfold levT;rw [if_neg e5,if_neg e7,if_neg e4,if_neg e9]
 rw [hlev]
 unfold headK
 by_cases e10:op=10
 ·subst e10
  obtain ⟨k1,k2,k3⟩:=hl 10 rfl
  obtain ⟨k,rfl⟩:=one_kid k1.symm (by decide)
  rw [show lowA 10=2 by decide] at k2
  rw [show highA 10=8 by decide] at k3
  rw [if_pos rfl]
  by_cases ea:arg=2
  ·subst ea
   rw [if_pos rfl]
   exact rd_word (.inr (.inl ⟨rfl,rfl,rfl,rfl⟩)) kids (by rw [reTs_len];rfl)
  ·rw [if_neg ea,tokssT,tokssT,reTs,reTs]
   exact rd_root k2 k3 (kid k (List.mem_cons_self ..))
 rw [if_neg e10]
 by_cases e11:op=11
 ·subst e11
  obtain ⟨k1,k2,k3⟩:=hl 11 rfl
  obtain ⟨k,rfl⟩:=one_kid k1.symm (by decide)
  rw [show lowA 11=1 by decide] at k2
  rw [show highA 11=8 by decide] at k3
  rw [if_pos rfl]
  rw [reTs,reTs] at kids ⊢
  exact rd_call k2 k3 kids
 rw [if_neg e11]
 have hl0:op=12∨op=13∨op=14∨op=15:=by
  unfold kidsN at n1
  repeat' split at n1
  all_goals omega
 rcases hl0 with rfl|rfl|rfl|rfl
 ·obtain ⟨k1,k2,k3⟩:=hl 12 rfl
  rw [show kidsN 12=1 by decide] at k1
  rw [show lowA 12=0 by decide] at k2
  rw [show highA 12=0 by decide] at k3
  obtain rfl:arg=0:=by omega
  rw [if_pos rfl]
  exact rd_word (.inl ⟨rfl,rfl,rfl,rfl⟩) kids (by rw [reTs_len];omega)
 ·obtain ⟨k1,k2,k3⟩:=hl 13 rfl
  rw [show kidsN 13=2 by decide] at k1
  rw [show lowA 13=0 by decide] at k2
  rw [show highA 13=0 by decide] at k3
  obtain rfl:arg=0:=by omega
  rw [if_neg (by decide),if_pos rfl]
  exact rd_word (.inr (.inr (.inl ⟨rfl,rfl,rfl,rfl⟩))) kids (by rw [reTs_len];omega)
 ·obtain ⟨k1,k2,k3⟩:=hl 14 rfl
  rw [show kidsN 14=2 by decide] at k1
  rw [show lowA 14=0 by decide] at k2
  rw [show highA 14=0 by decide] at k3
  obtain rfl:arg=0:=by omega
  rw [if_neg (by decide),if_neg (by decide),if_pos rfl]
  exact rd_word (.inr (.inr (.inr (.inl ⟨rfl,rfl,rfl,rfl⟩)))) kids (by rw [reTs_len];omega)
 ·obtain ⟨k1,k2,k3⟩:=hl 15 rfl
  rw [show kidsN 15=3 by decide] at k1
  rw [show lowA 15=0 by decide] at k2
  rw [show highA 15=0 by decide] at k3
  obtain rfl:arg=0:=by omega
  rw [if_neg (by decide),if_neg (by decide),if_neg (by decide),if_pos rfl]
  exact rd_word (.inr (.inr (.inr (.inr ⟨rfl,rfl,rfl,rfl⟩)))) kids (by rw [reTs_len];omega)
end Go.Proofs.YtmblpmegfmgjgaaGreatDoor
/- The text of a tree leads back to the tree; printing again changes nothing: plain. -/
namespace Go.Proofs.YtmblpmegfmgjgaaGreatDoor
open Go Go.Vc Go.Dig
/-! numbers among the tokens -/
def NumK (x:Nat × List Nat):Prop:=x.1=1→∃q,fits q∧0≤q∧x.2=fmtL q
theorem numK_no {k:Nat} {s:List Nat} (h:k≠1):NumK (k,s):=fun e=>absurd e h
theorem numK_nat {n:Nat} (h:n≤9223372036854775807):NumK (1,decL n):=fun _=>by
 have hf:fits ((n:Int):Rat):=fits_int n (by omega) (by omega)
 have h0:(0:Rat)≤((n:Int):Rat):=by
  rw [← Rat.num_nonneg]
  show (0:Int)≤n
  omega
 refine ⟨_,hf,h0,?_⟩
 unfold fmtL
 rw [sg_pos h0,if_pos (den_int n),nu_int]
 simp
def AllN (l:List (Nat × List Nat)):Prop:=∀x∈l,NumK x
theorem AllN.app {a b:List (Nat × List Nat)} (h:AllN a) (h':AllN b):AllN (a++b):=fun x hx=>(List.mem_append.1 hx).elim (h x) (h' x)
theorem AllN.one {x:Nat × List Nat} (h:NumK x):AllN [x]:=fun y hy=>by rw [List.mem_singleton.1 hy];exact h
theorem AllN.nil:AllN []:=fun x hx=>by cases hx
theorem AllN.sg (c:Nat):AllN [sgT c]:=AllN.one (numK_no (by decide))
theorem AllN.int {n:Int} (h1:-100≤n) (h2:n≤100):AllN (itK n):=by
 unfold itK
 split
 ·exact AllN.app (a:=[sgT 45]) (AllN.sg 45) (AllN.one (numK_nat (by omega)))
 ·exact AllN.one (numK_nat (by omega))
theorem AllN.place {x:List (Nat × List Nat) × Int} (h:AllN x.1) (low:Int):AllN (placeK x low):=by
 unfold placeK
 split
 ·exact h
 ·exact AllN.app (AllN.app (AllN.sg 40) h) (AllN.sg 41)
theorem AllN.join:∀{xs:List (List (Nat × List Nat) × Int)} (b:Bool),(∀x∈xs,AllN x.1)→AllN (joinK b xs)
 | [],b,_=>by cases b <;> exact AllN.nil
 | x::xs,true,h=>by
  rw [joinK]
  exact AllN.app (h x (List.mem_cons_self ..)) (AllN.join false fun y hy=>h y (List.mem_cons_of_mem _ hy))
 | x::xs,false,h=>by
  rw [joinK]
  exact AllN.app (AllN.app (AllN.sg 44) (h x (List.mem_cons_self ..))) (AllN.join false fun y hy=>h y (List.mem_cons_of_mem _ hy))
theorem AllN.getD {xs:List (List (Nat × List Nat) × Int)} (h:∀x∈xs,AllN x.1) (i:Nat):AllN (xs.getD i ([],0)).1:=by
 rw [List.getD_eq_getElem?_getD]
 cases hx:xs[i]? with
 | none=>exact AllN.nil
 | some x=>exact h x (List.mem_of_getElem? hx)
theorem AllN.node {op arg:Int} {neg:Bool} {l m name:List Nat} {n:Nat} {xs:List (List (Nat × List Nat) × Int)} (hn:nodeB op arg neg l m name n) (h:∀x∈xs,AllN x.1):AllN (nodeK op arg (ratOf neg l m) name xs):=by
 obtain ⟨n1,n2,n3,n4,n5⟩:=hn
 have p:=fun i low=>AllN.place (AllN.getD h i) low
 have w:∀s:List Nat,AllN [(0,s),sgT 40]:=fun s=>AllN.app (a:=[(0,s)]) (AllN.one (numK_no (by decide))) (AllN.sg 40)
 unfold nodeK
 by_cases e:op=1
 ·rw [if_pos e]
  rw [if_pos e] at n5
  exact AllN.one fun _=>⟨_,n5.1.2.2,n5.2,rfl⟩
 rw [if_neg e]
 by_cases e:op=2
 ·rw [if_pos e];exact AllN.one (numK_no (by decide))
 rw [if_neg e]
 by_cases e:op=3
 ·rw [if_pos e];exact AllN.one (numK_no (by decide))
 rw [if_neg e]
 by_cases e:op=4
 ·rw [if_pos e];exact AllN.app (AllN.sg 45) (p 0 3)
 rw [if_neg e]
 by_cases e:op=5∨op=6
 ·rw [if_pos e];exact AllN.app (AllN.app (p 0 1) (AllN.sg _)) (p 1 2)
 rw [if_neg e]
 by_cases e:op=7∨op=8
 ·rw [if_pos e];exact AllN.app (AllN.app (p 0 2) (AllN.sg _)) (p 1 3)
 rw [if_neg e]
 by_cases e:op=9
 ·rw [if_pos e]
  subst e
  rw [show lowA 9=-32 by decide] at n2
  rw [show highA 9=32 by decide] at n3
  exact AllN.app (p 0 5) (AllN.app (AllN.sg 94) (AllN.int (by omega) (by omega)))
 rw [if_neg e]
 refine AllN.app (AllN.app ?_ (AllN.join true h)) (AllN.sg 41)
 unfold headK
 by_cases e:op=10
 ·rw [if_pos e]
  subst e
  rw [show lowA 10=2 by decide] at n2
  rw [show highA 10=8 by decide] at n3
  split
  ·exact w _
  ·exact AllN.app (AllN.app (w _) (AllN.int (by omega) (by omega))) (AllN.sg 44)
 rw [if_neg e]
 repeat' split
 ·exact AllN.app (a:=[(3,_)]) (AllN.one (numK_no (by decide))) (AllN.sg 40)
 all_goals first
  | exact w _
  | exact AllN.nil
mutual
theorem toks_num:∀{d:Nat} {t:Tr},okT d t→AllN (toksT t)
 | d,.mk op arg neg l m name ks,h=>by
  rw [okT] at h
  rw [toksT]
  exact AllN.node h.2.1 (tokss_num h.2.2)
theorem tokss_num:∀{d:Nat} {ts:List Tr},okTs d ts→∀x∈tokssT ts,AllN x.1
 | d,[],_=>by rw [tokssT];intro x hx;cases hx
 | d,t::ts,h=>by
  rw [okTs] at h
  have h1:=toks_num h.1
  have h2:=tokss_num h.2
  rw [tokssT]
  intro x hx
  rcases List.mem_cons.1 hx with rfl|hx
  ·exact h1
  ·exact h2 x hx
end
theorem slashI_dig:∀{a b:List Nat},(∀x∈a,dgt x=true)→slashI (a++b)=a.length+slashI b
 | [],b,_=>by simp
 | c::a,b,h=>by
  have h1:=dgt_iff.1 (h c (List.mem_cons_self ..))
  rw [List.cons_append,slashI,if_neg (by omega),slashI_dig fun x hx=>h x (List.mem_cons_of_mem _ hx),List.length_cons]
  omega
theorem natL_zeros:∀{l:List Nat},(∀c∈l,c=48)→natL l=0
 | [],_=>rfl
 | c::l,h=>by
  rw [natL_cons,natL_zeros fun x hx=>h x (List.mem_cons_of_mem _ hx),h c (List.mem_cons_self ..)]
  simp
theorem fmt_nought {q:Rat} (h0:0≤q):¬nought (fmtL q):=by
 unfold fmtL nought
 rw [sg_pos h0]
 show ¬(slashI (decL (nu q)++_)<(decL (nu q)++_).length∧_)
 by_cases e:q.den=1
 ·rw [if_pos e,slashI_dig (decL_dig _),List.append_nil]
  rintro ⟨h,-⟩
  omega
 ·rw [if_neg e,slashI_dig (decL_dig _)]
  rintro ⟨-,h⟩
  have e2:(decL (nu q)++([47]++decL q.den)).drop ((decL (nu q)).length+slashI ([47]++decL q.den)+1)=decL q.den:=by
   rw [show slashI ([47]++decL q.den)=0 from if_pos rfl,Nat.add_zero,← List.drop_drop,List.drop_left]
   rfl
  rw [show (if false=true then [45]++decL (nu q) else decL (nu q))=decL (nu q) from rfl,slashI_dig (decL_dig _),e2] at h
  have:=natL_zeros h
  rw [natL_decL] at this
  exact q.den_nz this
theorem chk_ok {ts:List Tk} {cs:List Cn} (h:AllN (ts.map kt)) (hc:okC cs):chkT ts cs=(0,0):=by
 have hq:∀t∈ts,t.kind=1→∃q,fits q∧0≤q∧t.text=fmtL q:=fun t ht e=>h (kt t) (List.mem_map_of_mem ht) e
 unfold chkT
 have h1:ts.find? (fun t=>decide (badN1 t))=none:=List.find?_eq_none.2 fun t ht=>by
  rw [decide_eq_true_eq]
  rintro ⟨a,b⟩
  obtain ⟨q,-,h0,e⟩:=hq t ht a
  rw [e] at b
  exact fmt_nought h0 b
 have h2:ts.filter (fun t=>decide (badN2 t))=[]:=List.filter_eq_nil_iff.2 fun t ht=>by
  rw [decide_eq_true_eq]
  rintro ⟨a,b⟩
  obtain ⟨q,hf,-,e⟩:=hq t ht a
  rw [e,parse_fmt hf] at b
  exact b rfl
 have h3:cs.find? (fun c=>decide (badC c))=none:=List.find?_eq_none.2 fun c hm=>by
  rw [decide_eq_true_eq]
  exact hc c hm
 rw [h1,h2,h3]
/-! the tree that is read back is right -/
mutual
theorem reT_ok:∀{d:Nat} {t:Tr},okT d t→okT d (reT t)∧key (reT t)=key t
 | d,.mk op arg neg l m name ks,h=>by
  rw [okT] at h
  obtain ⟨hd,⟨n1,n2,n3,n4,n5⟩,hk⟩:=h
  obtain ⟨k1,k2⟩:=reTs_ok hk
  rw [reT]
  by_cases e:op=1
  ·subst e
   rw [if_pos rfl]
   rw [if_pos rfl] at n5
   rw [if_neg (by decide)] at n4
   rw [show lowA 1=0 by decide] at n2
   rw [show highA 1=0 by decide] at n3
   rw [show kidsN 1=0 by decide] at n1
   obtain rfl:ks=[]:=List.length_eq_zero_iff.1 (by omega)
   obtain rfl:arg=0:=by omega
   obtain rfl:=n4
   have hf:=n5.1.2.2
   unfold numT prs
   rw [parse_fmt hf]
   refine ⟨numQ_ok (q:=ratOf neg l m) hd n5.2 hf,?_⟩
   rw [key,key,keys,ratOf_dg]
  rw [if_neg e]
  rw [if_neg e] at n5
  have hr:ratOf neg l m=0:=ratOf_nil n5
  have hr0:ratOf false [] []=0:=ratOf_nil (show evl 4294967296 []=0 from evl_nil _)
  by_cases e2:op=2
  ·subst e2
   rw [if_pos rfl]
   rw [if_pos rfl] at n4
   rw [show lowA 2=0 by decide] at n2
   rw [show highA 2=0 by decide] at n3
   rw [show kidsN 2=0 by decide] at n1
   obtain rfl:ks=[]:=List.length_eq_zero_iff.1 (by omega)
   obtain rfl:arg=0:=by omega
   unfold varT
   refine ⟨?_,by rw [key,key,keys,hr,hr0]⟩
   rw [okT,okTs]
   exact ⟨hd,⟨rfl,by decide,by decide,by rw [if_pos rfl];exact n4,by rw [if_neg (by decide)];exact evl_nil _⟩,trivial⟩
  ·rw [if_neg e2]
   rw [if_neg e2] at n4
   subst n4
   unfold nodeT
   refine ⟨?_,by rw [key,key,k2,hr,hr0]⟩
   rw [okT]
   exact ⟨hd,⟨by rw [reTs_len];exact n1,n2,n3,by rw [if_neg e2],by rw [if_neg e];exact evl_nil _⟩,k1⟩
theorem reTs_ok:∀{d:Nat} {ts:List Tr},okTs d ts→okTs d (reTs ts)∧keys (reTs ts)=keys ts
 | d,[],_=>by rw [reTs];exact ⟨by rw [okTs];trivial,rfl⟩
 | d,t::ts,h=>by
  rw [okTs] at h
  obtain ⟨a1,a2⟩:=reT_ok h.1
  obtain ⟨b1,b2⟩:=reTs_ok h.2
  rw [reTs]
  exact ⟨by rw [okTs];exact ⟨a1,b1⟩,by rw [keys,keys,a2,b2]⟩
end
theorem reT_val {t:Tr} (h:ValT t):ValT (reT t):=⟨(reT_ok h.1).1,by rw [szT_key (reT_ok h.1).2];exact h.2⟩
theorem parse_text {t:Tr} (h:ValT t) (hl:(textT t).length≤4000):parseX (textT t)=(cloneT (reT t),0,0):=by
 obtain ⟨ts,h1,h2⟩:=scan_text h.1
 have hr:=rd_tree ts t 1 h.1
 have hA:At ts 0 (toksT t++[]):=by unfold At;rw [List.append_nil,h2];rfl
 obtain ⟨cs,g1,n,g2⟩:=hr.all hA no_nil no_nil no_nil no_nil no_nil (cs:=[]) (fun c hc=>by cases hc)
 rw [Nat.zero_add] at g2
 have hlen:(toksT t).length=ts.length:=by rw [← h2,List.length_map]
 have hp:parseT ts prs=.ok (reT t) (toksT t).length cs:=by
  have a:=pp_mono ts prs g2 _ (Nat.le_max_left n (8*(ts.length+1)+4))
  have b:=pp_mono ts prs (parseT_eq ts prs) _ (Nat.le_max_right n (8*(ts.length+1)+4))
  rw [a] at b
  exact (Option.some.inj b).symm
 have ht:topP ts=.ok (reT t) (toksT t).length cs:=by
  unfold topP
  rw [hp]
  show (if (toksT t).length<ts.length then _ else _)=_
  rw [if_neg (by omega)]
 have hk:=chk_ok (ts:=ts) (cs:=cs) (by rw [h2];exact toks_num h.1) g1
 unfold parseX
 rw [if_neg (by omega),h1]
 show (if (0:Int)≤-1 then _ else _)=_
 rw [if_neg (by decide)]
 show (match topP ts with|.bad j=>_|.ok tr _ cs=>_)=_
 rw [ht]
 show (if (chkT ts cs).1≠0 then _ else _)=_
 rw [hk,if_neg (by simp),chkdT,if_pos (reT_val h)]
theorem read_key {t:Tr} (h:ValT t):key (cloneT (reT t))=key t:=by rw [key_clone (reT_val h).1,(reT_ok h.1).2]
/-! texts depend on keys alone -/
mutual
theorem textT_key:∀{t u:Tr},key t=key u→textT t=textT u
 | .mk op arg neg l m name ks,.mk op' arg' neg' l' m' name' ks',e=>by
  rw [key,key,Kt.mk.injEq] at e
  obtain ⟨rfl,rfl,e3,rfl,e5⟩:=e
  rw [textT,textT,e3,textsT_key e5]
theorem textsT_key:∀{ts us:List Tr},keys ts=keys us→textsT ts=textsT us
 | [],us,e=>by rw [keys_nil e]
 | t::ts,us,e=>by
  obtain ⟨u,us',rfl,e1,e2⟩:=keys_cons e
  rw [textsT,textsT,textT_key e1,textsT_key e2]
  obtain ⟨op,arg,neg,l,m,name,ks⟩:=t
  obtain ⟨op',arg',neg',l',m',name',ks'⟩:=u
  rw [key,key,Kt.mk.injEq] at e1
  show (_,levT op)::_=(_,levT op')::_
  rw [e1.1]
end
theorem parseX_val {l:List Nat} (h:(parseX l).2.2=0):ValT (parseX l).1∧(parseX l).2.1=0:=by
 unfold parseX at h ⊢
 split at h
 ·cases h
 rename_i h1
 rw [if_neg h1]
 split at h
 ·cases h
 rename_i h2
 rw [if_neg h2]
 split at h
 ·cases h
 rename_i tr i cs h3
 try rw [h3]
 show ValT (if _ then _ else _:Tr × Nat × Nat).1∧_
 split at h
 ·rename_i h4
  exact absurd h h4
 ·rename_i h4
  rw [if_neg h4]
  unfold chkdT at h ⊢
  split at h
  ·rename_i h5
   rw [if_pos h5]
   exact ⟨val_clone h5,rfl⟩
  ·cases h
end Go.Proofs.YtmblpmegfmgjgaaGreatDoor