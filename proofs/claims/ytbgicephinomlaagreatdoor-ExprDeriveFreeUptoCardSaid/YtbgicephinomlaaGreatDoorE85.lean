/- Derivatives: plain. -/
import Derived.Test.YtbgicephinomlaaGreatDoorE83
set_option linter.unusedVariables false
set_option linter.unusedSimpArgs false
namespace Go.Proofs.YtbgicephinomlaaGreatDoor
open Go Go.Vc Go.Dig
/-! trees with equal keys -/
theorem keys_nil {us:List Tr} (h:keys []=keys us):us=[]:=by
 match us,h with
 | [],_=>rfl
 | _::_,h=>rw [keys,keys] at h;cases h
theorem keys_cons {t:Tr} {ts us:List Tr} (h:keys (t::ts)=keys us):∃u us',us=u::us'∧key t=key u∧keys ts=keys us':=by
 match us,h with
 | [],h=>rw [keys,keys] at h;cases h
 | u::us,h=>
  rw [keys,keys,List.cons.injEq] at h
  exact ⟨u,us,rfl,h.1,h.2⟩
theorem key_node {op arg:Int} {ks ks':List Tr} (h:keys ks=keys ks'):key (nodeT op arg ks)=key (nodeT op arg ks'):=by
 unfold nodeT
 rw [key,key,h]
theorem key_node1 {op arg:Int} {a a':Tr} (h:key a=key a'):key (nodeT op arg [a])=key (nodeT op arg [a']):=key_node (by simp only [keys,h])
theorem key_node2 {op arg:Int} {a b a' b':Tr} (h:key a=key a') (h':key b=key b'):key (nodeT op arg [a,b])=key (nodeT op arg [a',b']):=key_node (by simp only [keys,h,h'])
/-! the derivative: `g` tells how a node stands for itself -/
def powD (e:Tr) (arg:Int) (a da:Tr):Tr:=if arg=0 then mkL 0 else nodeT 7 0 [nodeT 7 0 [mkL (arg:Rat),if -32<arg then nodeT 9 (arg-1) [a] else nodeT 8 0 [e,a]],da]
def rootD (e:Tr) (arg:Int) (da:Tr):Tr:=nodeT 8 0 [da,nodeT 7 0 [mkL (arg:Rat),nodeT 9 (arg-1) [e]]]
def oneD (a:Tr):Tr:=nodeT 10 2 [nodeT 6 0 [mkL 1,nodeT 9 2 [a]]]
def callD (e:Tr) (arg:Int) (a da:Tr):Tr:=
 if arg=1 then nodeT 7 0 [e,da] else if arg=2 then nodeT 8 0 [da,a] else if arg=3 then nodeT 7 0 [nodeT 11 4 [a],da]
 else if arg=4 then nodeT 4 0 [nodeT 7 0 [nodeT 11 3 [a],da]] else if arg=5 then nodeT 7 0 [nodeT 5 0 [mkL 1,nodeT 9 2 [e]],da]
 else if arg=6 then nodeT 8 0 [da,oneD a] else if arg=7 then nodeT 4 0 [nodeT 8 0 [da,oneD a]] else nodeT 8 0 [da,nodeT 5 0 [mkL 1,nodeT 9 2 [a]]]
def binD (op:Int) (a b da db:Tr):Tr:=
 if op=5∨op=6 then nodeT op 0 [da,db] else if op=7 then nodeT 5 0 [nodeT 7 0 [da,b],nodeT 7 0 [a,db]]
 else nodeT 8 0 [nodeT 6 0 [nodeT 7 0 [da,b],nodeT 7 0 [a,db]],nodeT 9 2 [b]]
def nodeD (e:Tr) (op arg:Int):List Tr→List Tr→Tr
 | [a],[da]=>if op=4 then nodeT 4 0 [da] else if op=9 then powD e arg a da else if op=10 then rootD e arg da else callD e arg a da
 | [a,b],[da,db]=>binD op a b da db
 | _,_=>zeroT
mutual
def derT (g:Tr→Tr) (nm:List Nat):Tr→Tr
 | .mk op arg neg l m name ks=>if op=1∨op=3 then mkL 0 else if op=2 then (if name=nm then mkL 1 else mkL 0) else nodeD (g (.mk op arg neg l m name ks)) op arg ks (derTs g nm ks)
def derTs (g:Tr→Tr) (nm:List Nat):List Tr→List Tr
 | []=>[]
 | t::ts=>derT g nm t::derTs g nm ts
end
def bare:Tr→Tr
 | .mk op arg _ _ _ _ ks=>nodeT op arg ks
mutual
def smT:Tr→Prop
 | .mk op _ _ _ _ _ ks=>¬roughB op∧smTs ks
def smTs:List Tr→Prop
 | []=>True
 | t::ts=>smT t∧smTs ts
end
mutual
theorem smT_of:∀{t:Tr},(∀x∈tagsT t,¬roughB x.1)→smT t
 | .mk op arg neg l m name ks,h=>by
  rw [tagsT] at h
  rw [smT]
  exact ⟨h _ (List.mem_cons_self ..),smTs_of fun x hx=>h x (List.mem_cons_of_mem _ hx)⟩
theorem smTs_of:∀{ts:List Tr},(∀x∈tagsTs ts,¬roughB x.1)→smTs ts
 | [],_=>by rw [smTs];trivial
 | t::ts,h=>by
  rw [tagsTs] at h
  rw [smTs]
  exact ⟨smT_of fun x hx=>h x (List.mem_append_left _ hx),smTs_of fun x hx=>h x (List.mem_append_right _ hx)⟩
end
theorem smT_res {t:Tr} (h:resT t=none):smT t:=smT_of (resT_none.1 h)
theorem kinds_sm {op arg:Int} {neg:Bool} {l m name:List Nat} {n:Nat} (h:nodeB op arg neg l m name n) (s:¬roughB op):
  op=1∨op=2∨op=3∨((op=4∨op=9∨op=10∨op=11)∧n=1)∨((op=5∨op=6∨op=7∨op=8)∧n=2):=by
 have h1:=h.1
 unfold roughB at s
 unfold kidsN at h1
 repeat' split at h1
 all_goals omega
theorem mkI_G {n:Int} (h1:-4294967296<n) (h2:n<4294967296):okG (mkL (n:Rat)):=mkL_G (fits_int n (by omega) (by omega))
theorem okG_bare {op arg:Int} {neg:Bool} {l m name:List Nat} {ks:List Tr} (h:okG (.mk op arg neg l m name ks)) (h1:op≠1) (h2:op≠2):okG (bare (.mk op arg neg l m name ks))∧key (bare (.mk op arg neg l m name ks))=key (.mk op arg neg l m name ks):=by
 rw [okG] at h
 obtain ⟨⟨a,b,c,d,e⟩,f⟩:=h
 rw [if_neg h2] at d
 rw [if_neg h1] at e
 unfold bare nodeT
 refine ⟨?_,?_⟩
 ·rw [okG]
  exact ⟨⟨a,b,c,by rw [if_neg h2],by rw [if_neg h1];exact evl_nil _⟩,f⟩
 ·rw [key,key,ratOf_nil e,ratOf_nil (show evl 4294967296 []=0 from evl_nil _),d]
theorem okG_kids {op arg:Int} {neg:Bool} {l m name:List Nat} {ks:List Tr} (h:okG (.mk op arg neg l m name ks)):okGs ks:=by rw [okG] at h;exact h.2
theorem nodeD_key {e e':Tr} {op arg:Int} {ks ds ds':List Tr} (he:key e=key e') (hd:keys ds=keys ds'):key (nodeD e op arg ks ds)=key (nodeD e' op arg ks ds'):=by
 match ks,ds,hd with
 | [a],[da],hd=>
  obtain ⟨da',us',rfl,h1,h2⟩:=keys_cons hd
  obtain rfl:=keys_nil h2
  rw [nodeD,nodeD]
  repeat' split
  ·exact key_node1 h1
  ·unfold powD
   repeat' split
   ·rfl
   ·exact key_node2 rfl h1
   ·exact key_node2 (key_node2 rfl (key_node2 he rfl)) h1
  ·exact key_node2 h1 (key_node2 rfl (key_node1 he))
  ·unfold callD
   repeat' split
   ·exact key_node2 he h1
   ·exact key_node2 h1 rfl
   ·exact key_node2 rfl h1
   ·exact key_node1 (key_node2 rfl h1)
   ·exact key_node2 (key_node2 rfl (key_node1 he)) h1
   ·exact key_node2 h1 rfl
   ·exact key_node1 (key_node2 h1 rfl)
   ·exact key_node2 h1 rfl
 | [a,b],[da,db],hd=>
  obtain ⟨da',us',rfl,h1,h2⟩:=keys_cons hd
  obtain ⟨db',us',rfl,h3,h4⟩:=keys_cons h2
  obtain rfl:=keys_nil h4
  rw [nodeD,nodeD]
  unfold binD
  repeat' split
  ·exact key_node2 h1 h3
  ·exact key_node2 (key_node2 h1 rfl) (key_node2 rfl h3)
  ·exact key_node2 (key_node2 (key_node2 h1 rfl) (key_node2 rfl h3)) rfl
 | [],_,_=>rfl
 | _::_::_::_,_,_=>rfl
 | [_],[],hd=>obtain rfl:=keys_nil hd;rfl
 | [_],_::_::_,hd=>
  obtain ⟨u,us',rfl,h1,h2⟩:=keys_cons hd
  obtain ⟨u2,us2,rfl,h3,h4⟩:=keys_cons h2
  rfl
 | [_,_],[],hd=>obtain rfl:=keys_nil hd;rfl
 | [_,_],[_],hd=>
  obtain ⟨u,us',rfl,h1,h2⟩:=keys_cons hd
  obtain rfl:=keys_nil h2
  rfl
 | [_,_],_::_::_::_,hd=>
  obtain ⟨u,us',rfl,h1,h2⟩:=keys_cons hd
  obtain ⟨u2,us2,rfl,h3,h4⟩:=keys_cons h2
  obtain ⟨u3,us3,rfl,h5,h6⟩:=keys_cons h4
  rfl
mutual
theorem derT_key (nm:List Nat):∀{t:Tr},okG t→key (derT id nm t)=key (derT bare nm t)
 | .mk op arg neg l m name ks,h=>by
  have hk:=derTs_key nm (okG_kids h)
  rw [derT,derT]
  split
  ·rfl
  rename_i h1
  split
  ·rfl
  rename_i h2
  exact nodeD_key (okG_bare h (by omega) h2).2.symm hk
theorem derTs_key (nm:List Nat):∀{ts:List Tr},okGs ts→keys (derTs id nm ts)=keys (derTs bare nm ts)
 | [],_=>by rw [derTs,derTs]
 | t::ts,h=>by
  rw [okGs] at h
  rw [derTs,derTs,keys,keys,derT_key nm h.1,derTs_key nm h.2]
end
theorem powD_G {e a da:Tr} {arg:Int} (h1:-32≤arg) (h2:arg≤32) (he:okG e) (ha:okG a) (hd:okG da):okG (powD e arg a da):=by
 unfold powD
 split
 ·exact mkL_G fits_zero
 ·refine node2_G (by decide) (by decide) (by decide) (node2_G (by decide) (by decide) (by decide) (mkI_G (by omega) (by omega)) ?_) hd
  split
  ·exact node1_G (by decide) (by rw [show lowA 9=-32 by decide];omega) (by rw [show highA 9=32 by decide];omega) ha
  ·exact node2_G (by decide) (by decide) (by decide) he ha
theorem oneD_G {a:Tr} (ha:okG a):okG (oneD a):=node1_G (by decide) (by decide) (by decide) (node2_G (by decide) (by decide) (by decide) (mkL_G fits_one) (node1_G (by decide) (by decide) (by decide) ha))
theorem callD_G {e a da:Tr} {arg:Int} (he:okG e) (ha:okG a) (hd:okG da):okG (callD e arg a da):=by
 have h1:okG (mkL 1):=mkL_G fits_one
 have hs:∀{x:Tr},okG x→okG (nodeT 9 2 [x]):=fun h=>node1_G (by decide) (by decide) (by decide) h
 have h7:∀{x y:Tr},okG x→okG y→okG (nodeT 7 0 [x,y]):=fun h h'=>node2_G (by decide) (by decide) (by decide) h h'
 have h8:∀{x y:Tr},okG x→okG y→okG (nodeT 8 0 [x,y]):=fun h h'=>node2_G (by decide) (by decide) (by decide) h h'
 have h5:∀{x y:Tr},okG x→okG y→okG (nodeT 5 0 [x,y]):=fun h h'=>node2_G (by decide) (by decide) (by decide) h h'
 have h4:∀{x:Tr},okG x→okG (nodeT 4 0 [x]):=fun h=>node1_G (by decide) (by decide) (by decide) h
 unfold callD
 repeat' split
 ·exact h7 he hd
 ·exact h8 hd ha
 ·exact h7 (node1_G (by decide) (by decide) (by decide) ha) hd
 ·exact h4 (h7 (node1_G (by decide) (by decide) (by decide) ha) hd)
 ·exact h7 (h5 h1 (hs he)) hd
 ·exact h8 hd (oneD_G ha)
 ·exact h4 (h8 hd (oneD_G ha))
 ·exact h8 hd (h5 h1 (hs ha))
theorem binD_G {op:Int} {a b da db:Tr} (ha:okG a) (hb:okG b) (hd:okG da) (hd':okG db):okG (binD op a b da db):=by
 have h7:∀{x y:Tr},okG x→okG y→okG (nodeT 7 0 [x,y]):=fun h h'=>node2_G (by decide) (by decide) (by decide) h h'
 unfold binD
 split
 ·rename_i h
  rcases h with rfl|rfl
  ·exact node2_G (by decide) (by decide) (by decide) hd hd'
  ·exact node2_G (by decide) (by decide) (by decide) hd hd'
 split
 ·exact node2_G (by decide) (by decide) (by decide) (h7 hd hb) (h7 ha hd')
 ·exact node2_G (by decide) (by decide) (by decide) (node2_G (by decide) (by decide) (by decide) (h7 hd hb) (h7 ha hd')) (node1_G (by decide) (by decide) (by decide) hb)
mutual
theorem derT_G {g:Tr→Tr} (hg:∀(op arg:Int) (neg:Bool) (l m name:List Nat) (ks:List Tr),op≠1→op≠2→okG (.mk op arg neg l m name ks)→okG (g (.mk op arg neg l m name ks))) (nm:List Nat):∀{t:Tr},okG t→smT t→okG (derT g nm t)
 | .mk op arg neg l m name ks,h,hs=>by
  have hk:=derTs_G hg nm (okG_kids h)
  have hks:=okG_kids h
  rw [smT] at hs
  replace hk:=hk hs.2
  have hn:=h
  rw [okG] at hn
  have kn:=kinds_sm hn.1 hs.1
  rw [derT]
  split
  ·exact mkL_G fits_zero
  rename_i h1
  split
  ·split
   ·exact mkL_G fits_one
   ·exact mkL_G fits_zero
  rename_i h2
  have he:=hg op arg neg l m name ks (by omega) h2 h
  match ks,hk,hks,kn with
  | [a],hk,hks,kn=>
   rw [derTs,derTs,okGs] at hk
   rw [okGs] at hks
   rw [derTs,derTs,nodeD]
   split
   ·exact node1_G (by decide) (by decide) (by decide) hk.1
   split
   ·rename_i h9
    have n1:=hn.1.2.1
    have n2:=hn.1.2.2.1
    rw [h9] at n1 n2
    rw [show lowA 9=-32 by decide] at n1
    rw [show highA 9=32 by decide] at n2
    exact powD_G n1 n2 he hks.1 hk.1
   split
   ·rename_i h10
    have n1:=hn.1.2.1
    have n2:=hn.1.2.2.1
    rw [h10] at n1 n2
    rw [show lowA 10=2 by decide] at n1
    rw [show highA 10=8 by decide] at n2
    exact node2_G (by decide) (by decide) (by decide) hk.1 (node2_G (by decide) (by decide) (by decide) (mkI_G (by omega) (by omega)) (node1_G (by decide) (by rw [show lowA 9=-32 by decide];omega) (by rw [show highA 9=32 by decide];omega) he))
   ·exact callD_G he hks.1 hk.1
  | [a,b],hk,hks,kn=>
   rw [derTs,derTs,derTs,okGs,okGs] at hk
   rw [okGs,okGs] at hks
   rw [derTs,derTs,derTs,nodeD]
   exact binD_G hks.1 hks.2.1 hk.1 hk.2.1
  | [],hk,hks,kn=>simp at kn;omega
  | _::_::_::_,hk,hks,kn=>simp at kn;omega
theorem derTs_G {g:Tr→Tr} (hg:∀(op arg:Int) (neg:Bool) (l m name:List Nat) (ks:List Tr),op≠1→op≠2→okG (.mk op arg neg l m name ks)→okG (g (.mk op arg neg l m name ks))) (nm:List Nat):∀{ts:List Tr},okGs ts→smTs ts→okGs (derTs g nm ts)
 | [],_,_=>by rw [derTs,okGs];trivial
 | t::ts,h,hs=>by
  rw [okGs] at h
  rw [smTs] at hs
  rw [derTs,okGs]
  exact ⟨derT_G hg nm h.1 hs.1,derTs_G hg nm h.2 hs.2⟩
end
theorem derI_G {nm:List Nat} {t:Tr} (h:okG t) (s:smT t):okG (derT id nm t):=derT_G (fun _ _ _ _ _ _ _ _ _ x=>x) nm h s
/-! what Derive answers, on both sides -/
def derX (nm:List Nat) (t:Tr):Tr × Nat:=if ¬ValT t then (zeroT,40) else if ¬IsNm nm then (zeroT,41) else if resT t≠none then (zeroT,42) else chkdT (simT (derT id nm t))
def chkR (t:Tr):Tr × Nat:=if ValT t then (t,0) else (zeroT,4)
def derY (nm:List Nat) (t:Tr):Tr × Nat:=if ¬ValT t then (zeroT,40) else if ¬IsNm nm then (zeroT,41) else if resT t≠none then (zeroT,42) else chkR (simT (derT bare nm t))
def ZeroN:Tr→Prop
 | .mk op _ neg l m _ _=>op=1∧ratOf neg l m=0
theorem ZeroN.lit:∀{t:Tr},ZeroN t→litT t=some 0
 | .mk op arg neg l m name ks,h=>by rw [litT_num h.1,h.2]
theorem zeroN_num:ZeroN (mkL 0):=by
 unfold mkL
 rw [if_neg (Rat.lt_irrefl)]
 exact ⟨rfl,ratOf_dg 0⟩
theorem zeroN_eq {q:Rat} (h:q=0):ZeroN (mkL q):=by rw [h];exact zeroN_num
theorem sim_mkL0:simT (mkL 0)=mkL 0:=by
 unfold mkL
 rw [if_neg (Rat.lt_irrefl)]
 rfl
theorem sim_node1 (op arg:Int) (a:Tr):simT (nodeT op arg [a])=nodeS op arg (nodeT op arg [simT a]) [simT a]:=by
 unfold nodeT
 rw [simT,simTs,simTs]
theorem sim_node2 (op arg:Int) (a b:Tr):simT (nodeT op arg [a,b])=nodeS op arg (nodeT op arg [simT a,simT b]) [simT a,simT b]:=by
 unfold nodeT
 rw [simT,simTs,simTs,simTs]
theorem nodeS_two {op arg:Int} {e a b:Tr} (h:op=5∨op=6∨op=7∨op=8):nodeS op arg e [a,b]=binS e op a b:=if_pos h
theorem fitO_of {q r:Rat} (h:fitO q=some r):r=q:=(fitO_eq h).symm
theorem foldT_lit {op:Int} {a b:Tr} {r:Rat} (h:foldT op a b=some r):∃x y,litT a=some x∧litT b=some y∧foldQ op x y=some r:=by
 unfold foldT at h
 obtain ⟨x,h1,h2⟩:=Option.bind_eq_some_iff.1 h
 obtain ⟨y,h3,h4⟩:=Option.bind_eq_some_iff.1 h2
 exact ⟨x,y,h1,h3,h4⟩
def foldP' (op:Int) (q r:Rat):Rat:=if op=5 then q+r else if op=6 then q-r else if op=7 then q*r else q / r
theorem foldQ_eq {op:Int} {x y r:Rat} (h:foldQ op x y=some r):r=foldP' op x y:=by
 unfold foldQ at h
 unfold foldP'
 repeat' split at h
 all_goals first
  | (cases h;done)
  | (have e:=fitO_of h;subst e;simp [*])
theorem neg_zeroN {e a:Tr} (h:ZeroN a):ZeroN (nodeS 4 0 e [a]):=by
 rw [nodeS,if_pos rfl,negS,h.lit]
 exact zeroN_eq (by rw [Rat.neg_zero])
theorem mul_zeroR {e a b:Tr} (h:ZeroN b):ZeroN (nodeS 7 0 e [a,b]):=by
 rw [nodeS_two (by decide),binS]
 split
 ·rename_i q hq
  obtain ⟨x,y,h1,h2,h3⟩:=foldT_lit hq
  rw [h.lit] at h2
  cases h2
  exact zeroN_eq (by rw [foldQ_eq h3];exact Rat.mul_zero x)
 ·rw [if_neg (by decide),if_neg (by decide),if_pos rfl,mulS,if_pos (.inr h.lit)]
  exact zeroN_num
theorem mul_zeroL {e a b:Tr} (h:ZeroN a):ZeroN (nodeS 7 0 e [a,b]):=by
 rw [nodeS_two (by decide),binS]
 split
 ·rename_i q hq
  obtain ⟨x,y,h1,h2,h3⟩:=foldT_lit hq
  rw [h.lit] at h1
  cases h1
  exact zeroN_eq (by rw [foldQ_eq h3];exact Rat.zero_mul y)
 ·rw [if_neg (by decide),if_neg (by decide),if_pos rfl,mulS,if_pos (.inl h.lit)]
  exact zeroN_num
theorem div_zero {e a b:Tr} (h:ZeroN a):ZeroN (nodeS 8 0 e [a,b]):=by
 rw [nodeS_two (by decide),binS]
 split
 ·rename_i q hq
  obtain ⟨x,y,h1,h2,h3⟩:=foldT_lit hq
  rw [h.lit] at h1
  cases h1
  refine zeroN_eq ?_
  rw [foldQ_eq h3]
  show (0:Rat) / y=0
  rw [Rat.div_def,Rat.zero_mul]
 ·rw [if_neg (by decide),if_neg (by decide),if_neg (by decide),divS,if_pos h.lit]
  exact zeroN_num
theorem add_zero {e a b:Tr} (h:ZeroN a) (h':ZeroN b):ZeroN (nodeS 5 0 e [a,b]):=by
 rw [nodeS_two (by decide),binS]
 split
 ·rename_i q hq
  obtain ⟨x,y,h1,h2,h3⟩:=foldT_lit hq
  rw [h.lit] at h1
  rw [h'.lit] at h2
  cases h1;cases h2
  exact zeroN_eq (by rw [foldQ_eq h3];exact Rat.add_zero 0)
 ·rw [if_pos rfl,addS,if_pos h.lit]
  exact h'
theorem sub_zero {e a b:Tr} (h:ZeroN a) (h':ZeroN b):ZeroN (nodeS 6 0 e [a,b]):=by
 rw [nodeS_two (by decide),binS]
 split
 ·rename_i q hq
  obtain ⟨x,y,h1,h2,h3⟩:=foldT_lit hq
  rw [h.lit] at h1
  rw [h'.lit] at h2
  cases h1;cases h2
  exact zeroN_eq (by rw [foldQ_eq h3];exact Rat.sub_self)
 ·rw [if_neg (by decide),if_pos rfl,subS,if_pos h'.lit]
  exact h
theorem nodeD_free {e:Tr} {op arg:Int} {neg:Bool} {l m name:List Nat} {ks ds:List Tr} (hn:nodeB op arg neg l m name ks.length) (hs:¬roughB op) (h1:¬(op=1∨op=3)) (h2:op≠2) (hl:ds.length=ks.length) (hd:∀d∈ds,ZeroN (simT d)):ZeroN (simT (nodeD e op arg ks ds)):=by
 have kn:=kinds_sm hn hs
 match ks,ds,hl,kn,hd with
 | [a],[da],hl,kn,hd=>
  have z:=hd da (List.mem_cons_self ..)
  rw [nodeD]
  repeat' split
  ·rw [sim_node1];exact neg_zeroN z
  ·unfold powD
   split
   ·rw [sim_mkL0];exact zeroN_num
   ·rw [sim_node2];exact mul_zeroR z
  ·unfold rootD
   rw [sim_node2];exact div_zero z
  ·unfold callD
   repeat' split
   ·rw [sim_node2];exact mul_zeroR z
   ·rw [sim_node2];exact div_zero z
   ·rw [sim_node2];exact mul_zeroR z
   ·rw [sim_node1,sim_node2];exact neg_zeroN (mul_zeroR z)
   ·rw [sim_node2];exact mul_zeroR z
   ·rw [sim_node2];exact div_zero z
   ·rw [sim_node1,sim_node2];exact neg_zeroN (div_zero z)
   ·rw [sim_node2];exact div_zero z
 | [a,b],[da,db],hl,kn,hd=>
  have z:=hd da (List.mem_cons_self ..)
  have z':=hd db (List.mem_cons_of_mem _ (List.mem_cons_self ..))
  rw [nodeD]
  unfold binD
  split
  ·rename_i h
   rcases h with rfl|rfl
   ·rw [sim_node2];exact add_zero z z'
   ·rw [sim_node2];exact sub_zero z z'
  split
  ·rw [sim_node2,sim_node2,sim_node2];exact add_zero (mul_zeroL z) (mul_zeroR z')
  ·rw [sim_node2,sim_node2,sim_node2,sim_node2];exact div_zero (sub_zero (mul_zeroL z) (mul_zeroR z'))
 | [],_,_,kn,_=>simp at kn;omega
 | _::_::_::_,_,_,kn,_=>simp at kn;omega
 | [_],[],hl,_,_=>simp at hl
 | [_],_::_::_,hl,_,_=>simp at hl
 | [_,_],[],hl,_,_=>simp at hl
 | [_,_],[_],hl,_,_=>simp at hl
 | [_,_],_::_::_::_,hl,_,_=>simp at hl
theorem derTs_len (g:Tr→Tr) (nm:List Nat):∀ts:List Tr,(derTs g nm ts).length=ts.length
 | []=>by rw [derTs]
 | t::ts=>by rw [derTs,List.length_cons,List.length_cons,derTs_len g nm ts]
mutual
theorem der_free (g:Tr→Tr) (nm:List Nat):∀{t:Tr},okG t→smT t→hasT nm t=false→ZeroN (simT (derT g nm t))
 | .mk op arg neg l m name ks,h,hs,hf=>by
  have hks:=okG_kids h
  rw [okG] at h
  rw [smT] at hs
  rw [hasT,Bool.or_eq_false_iff] at hf
  have hd:=ders_free g nm hks hs.2 hf.2
  rw [derT]
  split
  ·rw [sim_mkL0];exact zeroN_num
  rename_i h1
  split
  ·rename_i h2
   rw [if_neg fun e=>absurd hf.1 (by rw [decide_eq_true (show op=2∧name=nm from ⟨h2,e⟩)];exact Bool.noConfusion)]
   rw [sim_mkL0];exact zeroN_num
  rename_i h2
  exact nodeD_free h.1 hs.1 h1 h2 (derTs_len g nm ks) hd
theorem ders_free (g:Tr→Tr) (nm:List Nat):∀{ts:List Tr},okGs ts→smTs ts→hasTs nm ts=false→∀d∈derTs g nm ts,ZeroN (simT d)
 | [],_,_,_=>by rw [derTs];intro d hd;cases hd
 | t::ts,h,hs,hf=>by
  rw [okGs] at h
  rw [smTs] at hs
  rw [hasTs,Bool.or_eq_false_iff] at hf
  have h1:=der_free g nm h.1 hs.1 hf.1
  have h2:=ders_free g nm h.2 hs.2 hf.2
  rw [derTs]
  intro d hd
  rcases List.mem_cons.1 hd with rfl|hd
  ·exact h1
  ·exact h2 d hd
end
theorem ZeroN.clone:∀{d:Nat} {t:Tr},okT d t→ZeroN t→ZeroN (cloneT t)
 | d,.mk op arg neg l m name ks,hok,h=>by
  have e:=key_clone hok
  have o:op=1:=h.1
  have q:ratOf neg l m=0:=h.2
  obtain ⟨⟨op',arg',neg',l',m',name',ks'⟩,hc⟩:∃x,x=cloneT (.mk op arg neg l m name ks):=⟨_,rfl⟩
  rw [← hc] at e ⊢
  rw [key,key,Kt.mk.injEq] at e
  exact ⟨e.1.trans o,e.2.2.1.trans q⟩
theorem derX_free {nm:List Nat} {t:Tr} (h:(derX nm t).2=0) (hf:hasT nm t=false):ZeroN (derX nm t).1:=by
 unfold derX chkdT at h ⊢
 split at h
 ·cases h
 rename_i h1
 split at h
 ·cases h
 rename_i h2
 split at h
 ·cases h
 rename_i h3
 split at h
 ·rename_i h4
  rw [if_neg h1,if_neg h2,if_neg h3,if_pos h4]
  exact ZeroN.clone h4.1 (der_free id nm (okG_of (Decidable.not_not.1 h1).1) (smT_res (Decidable.not_not.1 h3)) hf)
 ·cases h
/-! values -/
def PV (vals:List (List Nat × Rat)) (t:Tr) (q:Rat):Prop:=∀v,valT vals t=some v→v=q
def ruleQ (op:Int) (a b x y:Rat):Rat:=if op=5 then x+y else if op=6 then x-y else if op=7 then x*b+a*y else (x*b-a*y) / (b*b)
end Go.Proofs.YtbgicephinomlaaGreatDoor