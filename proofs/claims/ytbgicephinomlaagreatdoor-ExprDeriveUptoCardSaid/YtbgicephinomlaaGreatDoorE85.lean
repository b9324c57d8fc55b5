/- Derivatives: plain. -/
import Derived.Test.YtbgicephinomlaaGreatDoorE83
set_option linter.unusedVariables false
set_option linter.unusedSimpArgs false
namespace Go.Proofs.YtbgicephinomlaaGreatDoor
open Go Go.Vc Go.Dig
/-! trees with equal keys -/
theorem keys_nil {us:List Tr} (h:keys []=keys us):us=[]:=by
 match us,h with
 | [],_=>rfl
 | _::_,h=>rw [keys,keys] at h;cases h
theorem keys_cons {t:Tr} {ts us:List Tr} (h:keys (t::ts)=keys us):∃u us',us=u::us'∧key t=key u∧keys ts=keys us':=by
 match us,h with
 | [],h=>rw [keys,keys] at h;cases h
 | u::us,h=>
  rw [keys,keys,List.cons.injEq] at h
  exact ⟨u,us,rfl,h.1,h.2⟩
mutual
theorem okT_key:∀{d:Nat} {t u:Tr},key t=key u→okG u→okT d t→okT d u
 | d,.mk op arg neg l m name ks,.mk op' arg' neg' l' m' name' ks',e,g,h=>by
  rw [key,key,Kt.mk.injEq] at e
  rw [okG] at g
  rw [okT] at h ⊢
  exact ⟨h.1,g.1,okTs_key e.2.2.2.2 g.2 h.2.2⟩
theorem okTs_key:∀{d:Nat} {ts us:List Tr},keys ts=keys us→okGs us→okTs d ts→okTs d us
 | d,[],us,e,g,h=>by rw [keys_nil e];rw [okTs];trivial
 | d,t::ts,us,e,g,h=>by
  obtain ⟨u,us',rfl,e1,e2⟩:=keys_cons e
  rw [okGs] at g
  rw [okTs] at h ⊢
  exact ⟨okT_key e1 g.1 h.1,okTs_key e2 g.2 h.2⟩
end
mutual
theorem szT_key:∀{t u:Tr},key t=key u→szT t=szT u
 | .mk op arg neg l m name ks,.mk op' arg' neg' l' m' name' ks',e=>by
  rw [key,key,Kt.mk.injEq] at e
  rw [szT,szT,szTs_key e.2.2.2.2]
theorem szTs_key:∀{ts us:List Tr},keys ts=keys us→szTs ts=szTs us
 | [],us,e=>by rw [keys_nil e]
 | t::ts,us,e=>by
  obtain ⟨u,us',rfl,e1,e2⟩:=keys_cons e
  rw [szTs,szTs,szT_key e1,szTs_key e2]
end
theorem val_key {t u:Tr} (e:key t=key u) (g:okG u) (h:ValT t):ValT u:=⟨okT_key e g h.1,by rw [← szT_key e];exact h.2⟩
theorem litT_key:∀{t u:Tr},key t=key u→litT t=litT u
 | .mk op arg neg l m name ks,.mk op' arg' neg' l' m' name' ks',e=>by
  rw [key,key,Kt.mk.injEq] at e
  obtain ⟨rfl,rfl,e3,-,e5⟩:=e
  by_cases e1:op=1
  ·rw [litT_num e1,litT_num e1,e3]
  by_cases e4:op=4
  ·match ks,e5 with
   | [],e5=>rw [keys_nil e5,litT,litT,if_neg e1,if_neg e1]
   | .mk o a n l2 m2 nm2 ks2::ts,e5=>
    obtain ⟨⟨o',a',n',l2',m2',nm2',ks2'⟩,us',rfl,h1,h2⟩:=keys_cons e5
    rw [key,key,Kt.mk.injEq] at h1
    rw [litT_neg e4,litT_neg e4,h1.1,h1.2.2.1]
  ·rw [litT_no e1 e4,litT_no e1 e4]
theorem isNeg_key:∀{t u:Tr},key t=key u→(isNeg t↔isNeg u)
 | .mk op arg neg l m name ks,.mk op' arg' neg' l' m' name' ks',e=>by
  rw [key,key,Kt.mk.injEq] at e
  unfold isNeg
  rw [e.1]
theorem kidT_key:∀{t u:Tr},key t=key u→key (kidT t)=key (kidT u)
 | .mk op arg neg l m name ks,.mk op' arg' neg' l' m' name' ks',e=>by
  have e':=e
  rw [key,key,Kt.mk.injEq] at e'
  obtain ⟨-,-,-,-,e5⟩:=e'
  match ks,e5,e with
  | [],e5,e=>obtain rfl:=keys_nil e5;exact e
  | k::ts,e5,e=>
   obtain ⟨u,us',rfl,h1,h2⟩:=keys_cons e5
   exact h1
theorem key_node {op arg:Int} {ks ks':List Tr} (h:keys ks=keys ks'):key (nodeT op arg ks)=key (nodeT op arg ks'):=by
 unfold nodeT
 rw [key,key,h]
theorem key_node1 {op arg:Int} {a a':Tr} (h:key a=key a'):key (nodeT op arg [a])=key (nodeT op arg [a']):=key_node (by simp only [keys,h])
theorem key_node2 {op arg:Int} {a b a' b':Tr} (h:key a=key a') (h':key b=key b'):key (nodeT op arg [a,b])=key (nodeT op arg [a',b']):=key_node (by simp only [keys,h,h'])
theorem negS_key {e e' a a':Tr} (he:key e=key e') (ha:key a=key a'):key (negS e a)=key (negS e' a'):=by
 unfold negS
 rw [litT_key ha]
 split
 ·rfl
 ·by_cases hn:isNeg a
  ·rw [if_pos hn,if_pos ((isNeg_key ha).1 hn)];exact kidT_key ha
  ·rw [if_neg hn,if_neg (fun x=>hn ((isNeg_key ha).2 x))];exact he
theorem binS_key {op:Int} {e e' a a' b b':Tr} (he:key e=key e') (ha:key a=key a') (hb:key b=key b'):key (binS e op a b)=key (binS e' op a' b'):=by
 have hn:=isNeg_key hb
 have h1:foldT op a b=foldT op a' b':=by unfold foldT;rw [litT_key ha,litT_key hb]
 unfold binS
 rw [h1]
 split
 ·rfl
 unfold addS subS mulS divS
 rw [litT_key ha,litT_key hb]
 simp only [hn]
 repeat' split
 all_goals first
  | rfl
  | assumption
  | exact key_node2 ha (kidT_key hb)
  | exact negS_key (key_node1 hb) hb
theorem powS_key {arg:Int} {e e' a a':Tr} (he:key e=key e') (ha:key a=key a'):key (powS e arg a)=key (powS e' arg a'):=by
 have h1:powV arg a=powV arg a':=by unfold powV;rw [litT_key ha]
 unfold powS
 rw [h1]
 repeat' split
 all_goals first
  | rfl
  | assumption
theorem nodeS_key {op arg:Int} {e e':Tr} {ks ks':List Tr} (he:key e=key e') (h:keys ks=keys ks'):key (nodeS op arg e ks)=key (nodeS op arg e' ks'):=by
 match ks,h with
 | [],h=>obtain rfl:=keys_nil h;exact he
 | [a],h=>
  obtain ⟨a',us',rfl,h1,h2⟩:=keys_cons h
  obtain rfl:=keys_nil h2
  rw [nodeS,nodeS]
  repeat' split
  ·exact negS_key he h1
  ·exact powS_key he h1
  ·exact he
 | [a,b],h=>
  obtain ⟨a',us',rfl,h1,h2⟩:=keys_cons h
  obtain ⟨b',us',rfl,h3,h4⟩:=keys_cons h2
  obtain rfl:=keys_nil h4
  rw [nodeS,nodeS]
  split
  ·exact binS_key he h1 h3
  ·exact he
 | a::b::c::r,h=>
  obtain ⟨a',us',rfl,h1,h2⟩:=keys_cons h
  obtain ⟨b',us',rfl,h3,h4⟩:=keys_cons h2
  obtain ⟨c',us',rfl,h5,h6⟩:=keys_cons h4
  exact he
mutual
theorem simT_key:∀{t u:Tr},key t=key u→key (simT t)=key (simT u)
 | .mk op arg neg l m name ks,.mk op' arg' neg' l' m' name' ks',e=>by
  rw [key,key,Kt.mk.injEq] at e
  obtain ⟨rfl,rfl,e3,rfl,e5⟩:=e
  have h:=simTs_key e5
  rw [simT,simT]
  exact nodeS_key (by rw [key,key,e3,h]) h
theorem simTs_key:∀{ts us:List Tr},keys ts=keys us→keys (simTs ts)=keys (simTs us)
 | [],us,e=>by rw [keys_nil e]
 | t::ts,us,e=>by
  obtain ⟨u,us',rfl,e1,e2⟩:=keys_cons e
  rw [simTs,simTs,keys,keys,simT_key e1,simTs_key e2]
end
/-! the derivative: `g` tells how a node stands for itself -/
def powD (e:Tr) (arg:Int) (a da:Tr):Tr:=if arg=0 then mkL 0 else nodeT 7 0 [nodeT 7 0 [mkL (arg:Rat),if -32<arg then nodeT 9 (arg-1) [a] else nodeT 8 0 [e,a]],da]
def rootD (e:Tr) (arg:Int) (da:Tr):Tr:=nodeT 8 0 [da,nodeT 7 0 [mkL (arg:Rat),nodeT 9 (arg-1) [e]]]
def oneD (a:Tr):Tr:=nodeT 10 2 [nodeT 6 0 [mkL 1,nodeT 9 2 [a]]]
def callD (e:Tr) (arg:Int) (a da:Tr):Tr:=
 if arg=1 then nodeT 7 0 [e,da] else if arg=2 then nodeT 8 0 [da,a] else if arg=3 then nodeT 7 0 [nodeT 11 4 [a],da]
 else if arg=4 then nodeT 4 0 [nodeT 7 0 [nodeT 11 3 [a],da]] else if arg=5 then nodeT 7 0 [nodeT 5 0 [mkL 1,nodeT 9 2 [e]],da]
 else if arg=6 then nodeT 8 0 [da,oneD a] else if arg=7 then nodeT 4 0 [nodeT 8 0 [da,oneD a]] else nodeT 8 0 [da,nodeT 5 0 [mkL 1,nodeT 9 2 [a]]]
def binD (op:Int) (a b da db:Tr):Tr:=
 if op=5∨op=6 then nodeT op 0 [da,db] else if op=7 then nodeT 5 0 [nodeT 7 0 [da,b],nodeT 7 0 [a,db]]
 else nodeT 8 0 [nodeT 6 0 [nodeT 7 0 [da,b],nodeT 7 0 [a,db]],nodeT 9 2 [b]]
def nodeD (e:Tr) (op arg:Int):List Tr→List Tr→Tr
 | [a],[da]=>if op=4 then nodeT 4 0 [da] else if op=9 then powD e arg a da else if op=10 then rootD e arg da else callD e arg a da
 | [a,b],[da,db]=>binD op a b da db
 | _,_=>zeroT
mutual
def derT (g:Tr→Tr) (nm:List Nat):Tr→Tr
 | .mk op arg neg l m name ks=>if op=1∨op=3 then mkL 0 else if op=2 then (if name=nm then mkL 1 else mkL 0) else nodeD (g (.mk op arg neg l m name ks)) op arg ks (derTs g nm ks)
def derTs (g:Tr→Tr) (nm:List Nat):List Tr→List Tr
 | []=>[]
 | t::ts=>derT g nm t::derTs g nm ts
end
def bare:Tr→Tr
 | .mk op arg _ _ _ _ ks=>nodeT op arg ks
mutual
def smT:Tr→Prop
 | .mk op _ _ _ _ _ ks=>¬roughB op∧smTs ks
def smTs:List Tr→Prop
 | []=>True
 | t::ts=>smT t∧smTs ts
end
mutual
theorem smT_of:∀{t:Tr},(∀x∈tagsT t,¬roughB x.1)→smT t
 | .mk op arg neg l m name ks,h=>by
  rw [tagsT] at h
  rw [smT]
  exact ⟨h _ (List.mem_cons_self ..),smTs_of fun x hx=>h x (List.mem_cons_of_mem _ hx)⟩
theorem smTs_of:∀{ts:List Tr},(∀x∈tagsTs ts,¬roughB x.1)→smTs ts
 | [],_=>by rw [smTs];trivial
 | t::ts,h=>by
  rw [tagsTs] at h
  rw [smTs]
  exact ⟨smT_of fun x hx=>h x (List.mem_append_left _ hx),smTs_of fun x hx=>h x (List.mem_append_right _ hx)⟩
end
theorem smT_res {t:Tr} (h:resT t=none):smT t:=smT_of (resT_none.1 h)
theorem kinds_sm {op arg:Int} {neg:Bool} {l m name:List Nat} {n:Nat} (h:nodeB op arg neg l m name n) (s:¬roughB op):
  op=1∨op=2∨op=3∨((op=4∨op=9∨op=10∨op=11)∧n=1)∨((op=5∨op=6∨op=7∨op=8)∧n=2):=by
 have h1:=h.1
 unfold roughB at s
 unfold kidsN at h1
 repeat' split at h1
 all_goals omega
theorem mkI_G {n:Int} (h1:-4294967296<n) (h2:n<4294967296):okG (mkL (n:Rat)):=mkL_G (fits_int n (by omega) (by omega))
theorem okG_bare {op arg:Int} {neg:Bool} {l m name:List Nat} {ks:List Tr} (h:okG (.mk op arg neg l m name ks)) (h1:op≠1) (h2:op≠2):okG (bare (.mk op arg neg l m name ks))∧key (bare (.mk op arg neg l m name ks))=key (.mk op arg neg l m name ks):=by
 rw [okG] at h
 obtain ⟨⟨a,b,c,d,e⟩,f⟩:=h
 rw [if_neg h2] at d
 rw [if_neg h1] at e
 unfold bare nodeT
 refine ⟨?_,?_⟩
 ·rw [okG]
  exact ⟨⟨a,b,c,by rw [if_neg h2],by rw [if_neg h1];exact evl_nil _⟩,f⟩
 ·rw [key,key,ratOf_nil e,ratOf_nil (show evl 4294967296 []=0 from evl_nil _),d]
theorem okG_kids {op arg:Int} {neg:Bool} {l m name:List Nat} {ks:List Tr} (h:okG (.mk op arg neg l m name ks)):okGs ks:=by rw [okG] at h;exact h.2
theorem nodeD_key {e e':Tr} {op arg:Int} {ks ds ds':List Tr} (he:key e=key e') (hd:keys ds=keys ds'):key (nodeD e op arg ks ds)=key (nodeD e' op arg ks ds'):=by
 match ks,ds,hd with
 | [a],[da],hd=>
  obtain ⟨da',us',rfl,h1,h2⟩:=keys_cons hd
  obtain rfl:=keys_nil h2
  rw [nodeD,nodeD]
  repeat' split
  ·exact key_node1 h1
  ·unfold powD
   repeat' split
   ·rfl
   ·exact key_node2 rfl h1
   ·exact key_node2 (key_node2 rfl (key_node2 he rfl)) h1
  ·exact key_node2 h1 (key_node2 rfl (key_node1 he))
  ·unfold callD
   repeat' split
   ·exact key_node2 he h1
   ·exact key_node2 h1 rfl
   ·exact key_node2 rfl h1
   ·exact key_node1 (key_node2 rfl h1)
   ·exact key_node2 (key_node2 rfl (key_node1 he)) h1
   ·exact key_node2 h1 rfl
   ·exact key_node1 (key_node2 h1 rfl)
   ·exact key_node2 h1 rfl
 | [a,b],[da,db],hd=>
  obtain ⟨da',us',rfl,h1,h2⟩:=keys_cons hd
  obtain ⟨db',us',rfl,h3,h4⟩:=keys_cons h2
  obtain rfl:=keys_nil h4
  rw [nodeD,nodeD]
  unfold binD
  repeat' split
  ·exact key_node2 h1 h3
  ·exact key_node2 (key_node2 h1 rfl) (key_node2 rfl h3)
  ·exact key_node2 (key_node2 (key_node2 h1 rfl) (key_node2 rfl h3)) rfl
 | [],_,_=>rfl
 | _::_::_::_,_,_=>rfl
 | [_],[],hd=>obtain rfl:=keys_nil hd;rfl
 | [_],_::_::_,hd=>
  obtain ⟨u,us',rfl,h1,h2⟩:=keys_cons hd
  obtain ⟨u2,us2,rfl,h3,h4⟩:=keys_cons h2
  rfl
 | [_,_],[],hd=>obtain rfl:=keys_nil hd;rfl
 | [_,_],[_],hd=>
  obtain ⟨u,us',rfl,h1,h2⟩:=keys_cons hd
  obtain rfl:=keys_nil h2
  rfl
 | [_,_],_::_::_::_,hd=>
  obtain ⟨u,us',rfl,h1,h2⟩:=keys_cons hd
  obtain ⟨u2,us2,rfl,h3,h4⟩:=keys_cons h2
  obtain ⟨u3,us3,rfl,h5,h6⟩:=keys_cons h4
  rfl
mutual
theorem derT_key (nm:List Nat):∀{t:Tr},okG t→key (derT id nm t)=key (derT bare nm t)
 | .mk op arg neg l m name ks,h=>by
  have hk:=derTs_key nm (okG_kids h)
  rw [derT,derT]
  split
  ·rfl
  rename_i h1
  split
  ·rfl
  rename_i h2
  exact nodeD_key (okG_bare h (by omega) h2).2.symm hk
theorem derTs_key (nm:List Nat):∀{ts:List Tr},okGs ts→keys (derTs id nm ts)=keys (derTs bare nm ts)
 | [],_=>by rw [derTs,derTs]
 | t::ts,h=>by
  rw [okGs] at h
  rw [derTs,derTs,keys,keys,derT_key nm h.1,derTs_key nm h.2]
end
theorem powD_G {e a da:Tr} {arg:Int} (h1:-32≤arg) (h2:arg≤32) (he:okG e) (ha:okG a) (hd:okG da):okG (powD e arg a da):=by
 unfold powD
 split
 ·exact mkL_G fits_zero
 ·refine node2_G (by decide) (by decide) (by decide) (node2_G (by decide) (by decide) (by decide) (mkI_G (by omega) (by omega)) ?_) hd
  split
  ·exact node1_G (by decide) (by rw [show lowA 9=-32 by decide];omega) (by rw [show highA 9=32 by decide];omega) ha
  ·exact node2_G (by decide) (by decide) (by decide) he ha
theorem oneD_G {a:Tr} (ha:okG a):okG (oneD a):=node1_G (by decide) (by decide) (by decide) (node2_G (by decide) (by decide) (by decide) (mkL_G fits_one) (node1_G (by decide) (by decide) (by decide) ha))
theorem callD_G {e a da:Tr} {arg:Int} (he:okG e) (ha:okG a) (hd:okG da):okG (callD e arg a da):=by
 have h1:okG (mkL 1):=mkL_G fits_one
 have hs:∀{x:Tr},okG x→okG (nodeT 9 2 [x]):=fun h=>node1_G (by decide) (by decide) (by decide) h
 have h7:∀{x y:Tr},okG x→okG y→okG (nodeT 7 0 [x,y]):=fun h h'=>node2_G (by decide) (by decide) (by decide) h h'
 have h8:∀{x y:Tr},okG x→okG y→okG (nodeT 8 0 [x,y]):=fun h h'=>node2_G (by decide) (by decide) (by decide) h h'
 have h5:∀{x y:Tr},okG x→okG y→okG (nodeT 5 0 [x,y]):=fun h h'=>node2_G (by decide) (by decide) (by decide) h h'
 have h4:∀{x:Tr},okG x→okG (nodeT 4 0 [x]):=fun h=>node1_G (by decide) (by decide) (by decide) h
 unfold callD
 repeat' split
 ·exact h7 he hd
 ·exact h8 hd ha
 ·exact h7 (node1_G (by decide) (by decide) (by decide) ha) hd
 ·exact h4 (h7 (node1_G (by decide) (by decide) (by decide) ha) hd)
 ·exact h7 (h5 h1 (hs he)) hd
 ·exact h8 hd (oneD_G ha)
 ·exact h4 (h8 hd (oneD_G ha))
 ·exact h8 hd (h5 h1 (hs ha))
theorem binD_G {op:Int} {a b da db:Tr} (ha:okG a) (hb:okG b) (hd:okG da) (hd':okG db):okG (binD op a b da db):=by
 have h7:∀{x y:Tr},okG x→okG y→okG (nodeT 7 0 [x,y]):=fun h h'=>node2_G (by decide) (by decide) (by decide) h h'
 unfold binD
 split
 ·rename_i h
  rcases h with rfl|rfl
  ·exact node2_G (by decide) (by decide) (by decide) hd hd'
  ·exact node2_G (by decide) (by decide) (by decide) hd hd'
 split
 ·exact node2_G (by decide) (by decide) (by decide) (h7 hd hb) (h7 ha hd')
 ·exact node2_G (by decide) (by decide) (by decide) (node2_G (by decide) (by decide) (by decide) (h7 hd hb) (h7 ha hd')) (node1_G (by decide) (by decide) (by decide) hb)
mutual
theorem derT_G {g:Tr→Tr} (hg:∀(op arg:Int) (neg:Bool) (l m name:List Nat) (ks:List Tr),op≠1→op≠2→okG (.mk op arg neg l m name ks)→okG (g (.mk op arg neg l m name ks))) (nm:List Nat):∀{t:Tr},okG t→smT t→okG (derT g nm t)
 | .mk op arg neg l m name ks,h,hs=>by
  have hk:=derTs_G hg nm (okG_kids h)
  have hks:=okG_kids h
  rw [smT] at hs
  replace hk:=hk hs.2
  have hn:=h
  rw [okG] at hn
  have kn:=kinds_sm hn.1 hs.1
  rw [derT]
  split
  ·exact mkL_G fits_zero
  rename_i h1
  split
  ·split
   ·exact mkL_G fits_one
   ·exact mkL_G fits_zero
  rename_i h2
  have he:=hg op arg neg l m name ks (by omega) h2 h
  match ks,hk,hks,kn with
  | [a],hk,hks,kn=>
   rw [derTs,derTs,okGs] at hk
   rw [okGs] at hks
   rw [derTs,derTs,nodeD]
   split
   ·exact node1_G (by decide) (by decide) (by decide) hk.1
   split
   ·rename_i h9
    have n1:=hn.1.2.1
    have n2:=hn.1.2.2.1
    rw [h9] at n1 n2
    rw [show lowA 9=-32 by decide] at n1
    rw [show highA 9=32 by decide] at n2
    exact powD_G n1 n2 he hks.1 hk.1
   split
   ·rename_i h10
    have n1:=hn.1.2.1
    have n2:=hn.1.2.2.1
    rw [h10] at n1 n2
    rw [show lowA 10=2 by decide] at n1
    rw [show highA 10=8 by decide] at n2
    exact node2_G (by decide) (by decide) (by decide) hk.1 (node2_G (by decide) (by decide) (by decide) (mkI_G (by omega) (by omega)) (node1_G (by decide) (by rw [show lowA 9=-32 by decide];omega) (by rw [show highA 9=32 by decide];omega) he))
   ·exact callD_G he hks.1 hk.1
  | [a,b],hk,hks,kn=>
   rw [derTs,derTs,derTs,okGs,okGs] at hk
   rw [okGs,okGs] at hks
   rw [derTs,derTs,derTs,nodeD]
   exact binD_G hks.1 hks.2.1 hk.1 hk.2.1
  | [],hk,hks,kn=>simp at kn;omega
  | _::_::_::_,hk,hks,kn=>simp at kn;omega
theorem derTs_G {g:Tr→Tr} (hg:∀(op arg:Int) (neg:Bool) (l m name:List Nat) (ks:List Tr),op≠1→op≠2→okG (.mk op arg neg l m name ks)→okG (g (.mk op arg neg l m name ks))) (nm:List Nat):∀{ts:List Tr},okGs ts→smTs ts→okGs (derTs g nm ts)
 | [],_,_=>by rw [derTs,okGs];trivial
 | t::ts,h,hs=>by
  rw [okGs] at h
  rw [smTs] at hs
  rw [derTs,okGs]
  exact ⟨derT_G hg nm h.1 hs.1,derTs_G hg nm h.2 hs.2⟩
end
theorem derI_G {nm:List Nat} {t:Tr} (h:okG t) (s:smT t):okG (derT id nm t):=derT_G (fun _ _ _ _ _ _ _ _ _ x=>x) nm h s
theorem derB_G {nm:List Nat} {t:Tr} (h:okG t) (s:smT t):okG (derT bare nm t):=derT_G (fun _ _ _ _ _ _ _ a b x=>(okG_bare x a b).1) nm h s
/-! what Derive answers, on both sides -/
def derX (nm:List Nat) (t:Tr):Tr × Nat:=if ¬ValT t then (zeroT,40) else if ¬IsNm nm then (zeroT,41) else if resT t≠none then (zeroT,42) else chkdT (simT (derT id nm t))
def chkR (t:Tr):Tr × Nat:=if ValT t then (t,0) else (zeroT,4)
def derY (nm:List Nat) (t:Tr):Tr × Nat:=if ¬ValT t then (zeroT,40) else if ¬IsNm nm then (zeroT,41) else if resT t≠none then (zeroT,42) else chkR (simT (derT bare nm t))
theorem der_agree (nm:List Nat) (t:Tr):Agree (derX nm t) (derY nm t):=by
 unfold derX derY
 split
 ·exact ⟨rfl,fun _=>rfl,fun x=>by cases x⟩
 split
 ·exact ⟨rfl,fun _=>rfl,fun x=>by cases x⟩
 split
 ·exact ⟨rfl,fun _=>rfl,fun x=>by cases x⟩
 rename_i h1 _ h3
 have hv:ValT t:=Decidable.not_not.1 h1
 have hs:smT t:=smT_res (Decidable.not_not.1 h3)
 have hg:=okG_of hv.1
 have ke:=simT_key (derT_key nm hg)
 have g1:=simT_G (derI_G (nm:=nm) hg hs)
 have g2:=simT_G (derB_G (nm:=nm) hg hs)
 unfold chkdT chkR
 by_cases hx:ValT (simT (derT id nm t))
 ·have hy:=val_key ke g2 hx
  rw [if_pos hx,if_pos hy]
  exact ⟨rfl,fun x=>absurd rfl x,fun _=>⟨okT_clone hx.1,hy.1,sameB_key.2 (by rw [key_clone hx.1,ke])⟩⟩
 ·rw [if_neg hx,if_neg fun y=>hx (val_key ke.symm g1 y)]
  exact ⟨rfl,fun _=>rfl,fun x=>by cases x⟩
def ZeroN:Tr→Prop
 | .mk op _ neg l m _ _=>op=1∧ratOf neg l m=0
def foldP' (op:Int) (q r:Rat):Rat:=if op=5 then q+r else if op=6 then q-r else if op=7 then q*r else q / r
/-! values -/
def PV (vals:List (List Nat × Rat)) (t:Tr) (q:Rat):Prop:=∀v,valT vals t=some v→v=q
def ruleQ (op:Int) (a b x y:Rat):Rat:=if op=5 then x+y else if op=6 then x-y else if op=7 then x*b+a*y else (x*b-a*y) / (b*b)
end Go.Proofs.YtbgicephinomlaaGreatDoor