/- Derivatives: plain. -/
import Derived.Test.YtbgicephinomlaaGreatDoorE83
set_option linter.unusedVariables false
set_option linter.unusedSimpArgs false
namespace Go.Proofs.YtbgicephinomlaaGreatDoor
open Go Go.Vc Go.Dig
/-! trees with equal keys -/
theorem keys_nil {us:List Tr} (h:keys []=keys us):us=[]:=by
 match us,h with
 | [],_=>rfl
 | _::_,h=>rw [keys,keys] at h;cases h
theorem keys_cons {t:Tr} {ts us:List Tr} (h:keys (t::ts)=keys us):∃u us',us=u::us'∧key t=key u∧keys ts=keys us':=by
 match us,h with
 | [],h=>rw [keys,keys] at h;cases h
 | u::us,h=>
  rw [keys,keys,List.cons.injEq] at h
  exact ⟨u,us,rfl,h.1,h.2⟩
theorem key_node {op arg:Int} {ks ks':List Tr} (h:keys ks=keys ks'):key (nodeT op arg ks)=key (nodeT op arg ks'):=by
 unfold nodeT
 rw [key,key,h]
theorem key_node1 {op arg:Int} {a a':Tr} (h:key a=key a'):key (nodeT op arg [a])=key (nodeT op arg [a']):=key_node (by simp only [keys,h])
theorem key_node2 {op arg:Int} {a b a' b':Tr} (h:key a=key a') (h':key b=key b'):key (nodeT op arg [a,b])=key (nodeT op arg [a',b']):=key_node (by simp only [keys,h,h'])
/-! the derivative: `g` tells how a node stands for itself -/
def powD (e:Tr) (arg:Int) (a da:Tr):Tr:=if arg=0 then mkL 0 else nodeT 7 0 [nodeT 7 0 [mkL (arg:Rat),if -32<arg then nodeT 9 (arg-1) [a] else nodeT 8 0 [e,a]],da]
def rootD (e:Tr) (arg:Int) (da:Tr):Tr:=nodeT 8 0 [da,nodeT 7 0 [mkL (arg:Rat),nodeT 9 (arg-1) [e]]]
def oneD (a:Tr):Tr:=nodeT 10 2 [nodeT 6 0 [mkL 1,nodeT 9 2 [a]]]
def callD (e:Tr) (arg:Int) (a da:Tr):Tr:=
 if arg=1 then nodeT 7 0 [e,da] else if arg=2 then nodeT 8 0 [da,a] else if arg=3 then nodeT 7 0 [nodeT 11 4 [a],da]
 else if arg=4 then nodeT 4 0 [nodeT 7 0 [nodeT 11 3 [a],da]] else if arg=5 then nodeT 7 0 [nodeT 5 0 [mkL 1,nodeT 9 2 [e]],da]
 else if arg=6 then nodeT 8 0 [da,oneD a] else if arg=7 then nodeT 4 0 [nodeT 8 0 [da,oneD a]] else nodeT 8 0 [da,nodeT 5 0 [mkL 1,nodeT 9 2 [a]]]
def binD (op:Int) (a b da db:Tr):Tr:=
 if op=5∨op=6 then nodeT op 0 [da,db] else if op=7 then nodeT 5 0 [nodeT 7 0 [da,b],nodeT 7 0 [a,db]]
 else nodeT 8 0 [nodeT 6 0 [nodeT 7 0 [da,b],nodeT 7 0 [a,db]],nodeT 9 2 [b]]
def nodeD (e:Tr) (op arg:Int):List Tr→List Tr→Tr
 | [a],[da]=>if op=4 then nodeT 4 0 [da] else if op=9 then powD e arg a da else if op=10 then rootD e arg da else callD e arg a da
 | [a,b],[da,db]=>binD op a b da db
 | _,_=>zeroT
mutual
def derT (g:Tr→Tr) (nm:List Nat):Tr→Tr
 | .mk op arg neg l m name ks=>if op=1∨op=3 then mkL 0 else if op=2 then (if name=nm then mkL 1 else mkL 0) else nodeD (g (.mk op arg neg l m name ks)) op arg ks (derTs g nm ks)
def derTs (g:Tr→Tr) (nm:List Nat):List Tr→List Tr
 | []=>[]
 | t::ts=>derT g nm t::derTs g nm ts
end
def bare:Tr→Tr
 | .mk op arg _ _ _ _ ks=>nodeT op arg ks
mutual
def smT:Tr→Prop
 | .mk op _ _ _ _ _ ks=>¬roughB op∧smTs ks
def smTs:List Tr→Prop
 | []=>True
 | t::ts=>smT t∧smTs ts
end
mutual
theorem smT_of:∀{t:Tr},(∀x∈tagsT t,¬roughB x.1)→smT t
 | .mk op arg neg l m name ks,h=>by
  rw [tagsT] at h
  rw [smT]
  exact ⟨h _ (List.mem_cons_self ..),smTs_of fun x hx=>h x (List.mem_cons_of_mem _ hx)⟩
theorem smTs_of:∀{ts:List Tr},(∀x∈tagsTs ts,¬roughB x.1)→smTs ts
 | [],_=>by rw [smTs];trivial
 | t::ts,h=>by
  rw [tagsTs] at h
  rw [smTs]
  exact ⟨smT_of fun x hx=>h x (List.mem_append_left _ hx),smTs_of fun x hx=>h x (List.mem_append_right _ hx)⟩
end
theorem smT_res {t:Tr} (h:resT t=none):smT t:=smT_of (resT_none.1 h)
theorem kinds_sm {op arg:Int} {neg:Bool} {l m name:List Nat} {n:Nat} (h:nodeB op arg neg l m name n) (s:¬roughB op):
  op=1∨op=2∨op=3∨((op=4∨op=9∨op=10∨op=11)∧n=1)∨((op=5∨op=6∨op=7∨op=8)∧n=2):=by
 have h1:=h.1
 unfold roughB at s
 unfold kidsN at h1
 repeat' split at h1
 all_goals omega
theorem mkI_G {n:Int} (h1:-4294967296<n) (h2:n<4294967296):okG (mkL (n:Rat)):=mkL_G (fits_int n (by omega) (by omega))
theorem okG_bare {op arg:Int} {neg:Bool} {l m name:List Nat} {ks:List Tr} (h:okG (.mk op arg neg l m name ks)) (h1:op≠1) (h2:op≠2):okG (bare (.mk op arg neg l m name ks))∧key (bare (.mk op arg neg l m name ks))=key (.mk op arg neg l m name ks):=by
 rw [okG] at h
 obtain ⟨⟨a,b,c,d,e⟩,f⟩:=h
 rw [if_neg h2] at d
 rw [if_neg h1] at e
 unfold bare nodeT
 refine ⟨?_,?_⟩
 ·rw [okG]
  exact ⟨⟨a,b,c,by rw [if_neg h2],by rw [if_neg h1];exact evl_nil _⟩,f⟩
 ·rw [key,key,ratOf_nil e,ratOf_nil (show evl 4294967296 []=0 from evl_nil _),d]
theorem okG_kids {op arg:Int} {neg:Bool} {l m name:List Nat} {ks:List Tr} (h:okG (.mk op arg neg l m name ks)):okGs ks:=by rw [okG] at h;exact h.2
theorem nodeD_key {e e':Tr} {op arg:Int} {ks ds ds':List Tr} (he:key e=key e') (hd:keys ds=keys ds'):key (nodeD e op arg ks ds)=key (nodeD e' op arg ks ds'):=by
 match ks,ds,hd with
 | [a],[da],hd=>
  obtain ⟨da',us',rfl,h1,h2⟩:=keys_cons hd
  obtain rfl:=keys_nil h2
  rw [nodeD,nodeD]
  repeat' split
  ·exact key_node1 h1
  ·unfold powD
   repeat' split
   ·rfl
   ·exact key_node2 rfl h1
   ·exact key_node2 (key_node2 rfl (key_node2 he rfl)) h1
  ·exact key_node2 h1 (key_node2 rfl (key_node1 he))
  ·unfold callD
   repeat' split
   ·exact key_node2 he h1
   ·exact key_node2 h1 rfl
   ·exact key_node2 rfl h1
   ·exact key_node1 (key_node2 rfl h1)
   ·exact key_node2 (key_node2 rfl (key_node1 he)) h1
   ·exact key_node2 h1 rfl
   ·exact key_node1 (key_node2 h1 rfl)
   ·exact key_node2 h1 rfl
 | [a,b],[da,db],hd=>
  obtain ⟨da',us',rfl,h1,h2⟩:=keys_cons hd
  obtain ⟨db',us',rfl,h3,h4⟩:=keys_cons h2
  obtain rfl:=keys_nil h4
  rw [nodeD,nodeD]
  unfold binD
  repeat' split
  ·exact key_node2 h1 h3
  ·exact key_node2 (key_node2 h1 rfl) (key_node2 rfl h3)
  ·exact key_node2 (key_node2 (key_node2 h1 rfl) (key_node2 rfl h3)) rfl
 | [],_,_=>rfl
 | _::_::_::_,_,_=>rfl
 | [_],[],hd=>obtain rfl:=keys_nil hd;rfl
 | [_],_::_::_,hd=>
  obtain ⟨u,us',rfl,h1,h2⟩:=keys_cons hd
  obtain ⟨u2,us2,rfl,h3,h4⟩:=keys_cons h2
  rfl
 | [_,_],[],hd=>obtain rfl:=keys_nil hd;rfl
 | [_,_],[_],hd=>
  obtain ⟨u,us',rfl,h1,h2⟩:=keys_cons hd
  obtain rfl:=keys_nil h2
  rfl
 | [_,_],_::_::_::_,hd=>
  obtain ⟨u,us',rfl,h1,h2⟩:=keys_cons hd
  obtain ⟨u2,us2,rfl,h3,h4⟩:=keys_cons h2
  obtain ⟨u3,us3,rfl,h5,h6⟩:=keys_cons h4
  rfl
mutual
theorem derT_key (nm:List Nat):∀{t:Tr},okG t→key (derT id nm t)=key (derT bare nm t)
 | .mk op arg neg l m name ks,h=>by
  have hk:=derTs_key nm (okG_kids h)
  rw [derT,derT]
  split
  ·rfl
  rename_i h1
  split
  ·rfl
  rename_i h2
  exact nodeD_key (okG_bare h (by omega) h2).2.symm hk
theorem derTs_key (nm:List Nat):∀{ts:List Tr},okGs ts→keys (derTs id nm ts)=keys (derTs bare nm ts)
 | [],_=>by rw [derTs,derTs]
 | t::ts,h=>by
  rw [okGs] at h
  rw [derTs,derTs,keys,keys,derT_key nm h.1,derTs_key nm h.2]
end
theorem powD_G {e a da:Tr} {arg:Int} (h1:-32≤arg) (h2:arg≤32) (he:okG e) (ha:okG a) (hd:okG da):okG (powD e arg a da):=by
 unfold powD
 split
 ·exact mkL_G fits_zero
 ·refine node2_G (by decide) (by decide) (by decide) (node2_G (by decide) (by decide) (by decide) (mkI_G (by omega) (by omega)) ?_) hd
  split
  ·exact node1_G (by decide) (by rw [show lowA 9=-32 by decide];omega) (by rw [show highA 9=32 by decide];omega) ha
  ·exact node2_G (by decide) (by decide) (by decide) he ha
theorem oneD_G {a:Tr} (ha:okG a):okG (oneD a):=node1_G (by decide) (by decide) (by decide) (node2_G (by decide) (by decide) (by decide) (mkL_G fits_one) (node1_G (by decide) (by decide) (by decide) ha))
theorem callD_G {e a da:Tr} {arg:Int} (he:okG e) (ha:okG a) (hd:okG da):okG (callD e arg a da):=by
 have h1:okG (mkL 1):=mkL_G fits_one
 have hs:∀{x:Tr},okG x→okG (nodeT 9 2 [x]):=fun h=>node1_G (by decide) (by decide) (by decide) h
 have h7:∀{x y:Tr},okG x→okG y→okG (nodeT 7 0 [x,y]):=fun h h'=>node2_G (by decide) (by decide) (by decide) h h'
 have h8:∀{x y:Tr},okG x→okG y→okG (nodeT 8 0 [x,y]):=fun h h'=>node2_G (by decide) (by decide) (by decide) h h'
 have h5:∀{x y:Tr},okG x→okG y→okG (nodeT 5 0 [x,y]):=fun h h'=>node2_G (by decide) (by decide) (by decide) h h'
 have h4:∀{x:Tr},okG x→okG (nodeT 4 0 [x]):=fun h=>node1_G (by decide) (by decide) (by decide) h
 unfold callD
 repeat' split
 ·exact h7 he hd
 ·exact h8 hd ha
 ·exact h7 (node1_G (by decide) (by decide) (by decide) ha) hd
 ·exact h4 (h7 (node1_G (by decide) (by decide) (by decide) ha) hd)
 ·exact h7 (h5 h1 (hs he)) hd
 ·exact h8 hd (oneD_G ha)
 ·exact h4 (h8 hd (oneD_G ha))
 ·exact h8 hd (h5 h1 (hs ha))
theorem binD_G {op:Int} {a b da db:Tr} (ha:okG a) (hb:okG b) (hd:okG da) (hd':okG db):okG (binD op a b da db):=by
 have h7:∀{x y:Tr},okG x→okG y→okG (nodeT 7 0 [x,y]):=fun h h'=>node2_G (by decide) (by decide) (by decide) h h'
 unfold binD
 split
 ·rename_i h
  rcases h with rfl|rfl
  ·exact node2_G (by decide) (by decide) (by decide) hd hd'
  ·exact node2_G (by decide) (by decide) (by decide) hd hd'
 split
 ·exact node2_G (by decide) (by decide) (by decide) (h7 hd hb) (h7 ha hd')
 ·exact node2_G (by decide) (by decide) (by decide) (node2_G (by decide) (by decide) (by decide) (h7 hd hb) (h7 ha hd')) (node1_G (by decide) (by decide) (by decide) hb)
mutual
theorem derT_G {g:Tr→Tr} (hg:∀(op arg:Int) (neg:Bool) (l m name:List Nat) (ks:List Tr),op≠1→op≠2→okG (.mk op arg neg l m name ks)→okG (g (.mk op arg neg l m name ks))) (nm:List Nat):∀{t:Tr},okG t→smT t→okG (derT g nm t)
 | .mk op arg neg l m name ks,h,hs=>by
  have hk:=derTs_G hg nm (okG_kids h)
  have hks:=okG_kids h
  rw [smT] at hs
  replace hk:=hk hs.2
  have hn:=h
  rw [okG] at hn
  have kn:=kinds_sm hn.1 hs.1
  rw [derT]
  split
  ·exact mkL_G fits_zero
  rename_i h1
  split
  ·split
   ·exact mkL_G fits_one
   ·exact mkL_G fits_zero
  rename_i h2
  have he:=hg op arg neg l m name ks (by omega) h2 h
  match ks,hk,hks,kn with
  | [a],hk,hks,kn=>
   rw [derTs,derTs,okGs] at hk
   rw [okGs] at hks
   rw [derTs,derTs,nodeD]
   split
   ·exact node1_G (by decide) (by decide) (by decide) hk.1
   split
   ·rename_i h9
    have n1:=hn.1.2.1
    have n2:=hn.1.2.2.1
    rw [h9] at n1 n2
    rw [show lowA 9=-32 by decide] at n1
    rw [show highA 9=32 by decide] at n2
    exact powD_G n1 n2 he hks.1 hk.1
   split
   ·rename_i h10
    have n1:=hn.1.2.1
    have n2:=hn.1.2.2.1
    rw [h10] at n1 n2
    rw [show lowA 10=2 by decide] at n1
    rw [show highA 10=8 by decide] at n2
    exact node2_G (by decide) (by decide) (by decide) hk.1 (node2_G (by decide) (by decide) (by decide) (mkI_G (by omega) (by omega)) (node1_G (by decide) (by rw [show lowA 9=-32 by decide];omega) (by rw [show highA 9=32 by decide];omega) he))
   ·exact callD_G he hks.1 hk.1
  | [a,b],hk,hks,kn=>
   rw [derTs,derTs,derTs,okGs,okGs] at hk
   rw [okGs,okGs] at hks
   rw [derTs,derTs,derTs,nodeD]
   exact binD_G hks.1 hks.2.1 hk.1 hk.2.1
  | [],hk,hks,kn=>simp at kn;omega
  | _::_::_::_,hk,hks,kn=>simp at kn;omega
theorem derTs_G {g:Tr→Tr} (hg:∀(op arg:Int) (neg:Bool) (l m name:List Nat) (ks:List Tr),op≠1→op≠2→okG (.mk op arg neg l m name ks)→okG (g (.mk op arg neg l m name ks))) (nm:List Nat):∀{ts:List Tr},okGs ts→smTs ts→okGs (derTs g nm ts)
 | [],_,_=>by rw [derTs,okGs];trivial
 | t::ts,h,hs=>by
  rw [okGs] at h
  rw [smTs] at hs
  rw [derTs,okGs]
  exact ⟨derT_G hg nm h.1 hs.1,derTs_G hg nm h.2 hs.2⟩
end
theorem derI_G {nm:List Nat} {t:Tr} (h:okG t) (s:smT t):okG (derT id nm t):=derT_G (fun _ _ _ _ _ _ _ _ _ x=>x) nm h s
/-! what Derive answers, on both sides -/
def derX (nm:List Nat) (t:Tr):Tr × Nat:=if ¬ValT t then (zeroT,40) else if ¬IsNm nm then (zeroT,41) else if resT t≠none then (zeroT,42) else chkdT (simT (derT id nm t))
def chkR (t:Tr):Tr × Nat:=if ValT t then (t,0) else (zeroT,4)
def derY (nm:List Nat) (t:Tr):Tr × Nat:=if ¬ValT t then (zeroT,40) else if ¬IsNm nm then (zeroT,41) else if resT t≠none then (zeroT,42) else chkR (simT (derT bare nm t))
def ZeroN:Tr→Prop
 | .mk op _ neg l m _ _=>op=1∧ratOf neg l m=0
theorem sim_node1 (op arg:Int) (a:Tr):simT (nodeT op arg [a])=nodeS op arg (nodeT op arg [simT a]) [simT a]:=by
 unfold nodeT
 rw [simT,simTs,simTs]
theorem sim_node2 (op arg:Int) (a b:Tr):simT (nodeT op arg [a,b])=nodeS op arg (nodeT op arg [simT a,simT b]) [simT a,simT b]:=by
 unfold nodeT
 rw [simT,simTs,simTs,simTs]
theorem nodeS_two {op arg:Int} {e a b:Tr} (h:op=5∨op=6∨op=7∨op=8):nodeS op arg e [a,b]=binS e op a b:=if_pos h
theorem fitO_of {q r:Rat} (h:fitO q=some r):r=q:=(fitO_eq h).symm
theorem foldT_lit {op:Int} {a b:Tr} {r:Rat} (h:foldT op a b=some r):∃x y,litT a=some x∧litT b=some y∧foldQ op x y=some r:=by
 unfold foldT at h
 obtain ⟨x,h1,h2⟩:=Option.bind_eq_some_iff.1 h
 obtain ⟨y,h3,h4⟩:=Option.bind_eq_some_iff.1 h2
 exact ⟨x,y,h1,h3,h4⟩
def foldP' (op:Int) (q r:Rat):Rat:=if op=5 then q+r else if op=6 then q-r else if op=7 then q*r else q / r
theorem foldQ_eq {op:Int} {x y r:Rat} (h:foldQ op x y=some r):r=foldP' op x y:=by
 unfold foldQ at h
 unfold foldP'
 repeat' split at h
 all_goals first
  | (cases h;done)
  | (have e:=fitO_of h;subst e;simp [*])
/-! values -/
def PV (vals:List (List Nat × Rat)) (t:Tr) (q:Rat):Prop:=∀v,valT vals t=some v→v=q
theorem valT_fitsG {vals:List (List Nat × Rat)} (hv:∀b∈vals,fits b.2):∀(t:Tr),okG t→∀q,valT vals t=some q→fits q:=by
 refine tree_ind fun t ih=>?_
 intro hok q h
 obtain ⟨op,arg,neg,l,m,name,ks⟩:=t
 rw [okG] at hok
 rw [valT] at h
 split at h
 ·rename_i e
  cases h
  have hn:=hok.1.2.2.2.2
  rw [if_pos e] at hn
  exact hn.1.2.2
 split at h
 ·exact findB_fits hv h
 split at h
 ·cases h
 refine comb_fits (vals:=vals) (fun t ht q hq=>?_) h
 obtain ⟨i,hi,rfl⟩:=List.mem_iff_getElem.1 ht
 have e:=List.getElem?_eq_getElem hi
 exact ih _ (szT_kid e) (okGs_mem hok.2 ht) q hq
theorem litV_valG {vals:List (List Nat × Rat)} {a:Tr} {v:Rat} (h:okG a) (e:litT a=some v):valT vals a=some v:=by
 have hf:=litV_fitsG h e
 obtain ⟨op,arg,neg,l,m,name,ks⟩:=a
 by_cases e1:op=1
 ·rw [litT_num e1] at e
  subst e1
  cases e
  exact valT_num
 by_cases e4:op=4
 ·subst e4
  rw [okG] at h
  match ks,h,e with
  | [],h,_=>exact absurd h.1.1 (by decide)
  | [.mk o a n l' m' nm ks'],h,e=>
   rw [litT_neg rfl] at e
   split at e
   ·rename_i e1
    subst e1
    cases e
    rw [valT_one (by decide),valT_num]
    exact (unQ_neg _ _).trans (if_pos hf)
   ·cases e
  | .mk o a n l' m' nm ks'::y::us,h,e=>
   have h1:=h.1.1
   rw [show kidsN 4=1 by decide] at h1
   simp at h1
   omega
 ·rw [litT_no e1 e4] at e;cases e
theorem PV.lit {vals:List (List Nat × Rat)} {a:Tr} {x q:Rat} (h:PV vals a x) (hok:okG a) (e:litT a=some q):x=q:=(h _ (litV_valG hok e)).symm
theorem PV.mk {vals:List (List Nat × Rat)} {q r:Rat} (hf:fits q) (e:q=r):PV vals (mkL q) r:=fun v hv=>by
 rw [mkL_val hf] at hv
 cases hv
 exact e
theorem node_two {vals:List (List Nat × Rat)} {op arg:Int} {a b:Tr} {v:Rat} (h:op≠1∧op≠2∧op≠3) (hv:valT vals (nodeT op arg [a,b])=some v):∃x y,valT vals a=some x∧valT vals b=some y∧biQ op x y=some v:=by
 unfold nodeT at hv
 rw [valT_two h] at hv
 obtain ⟨x,h1,h2⟩:=Option.bind_eq_some_iff.1 hv
 obtain ⟨y,h3,h4⟩:=Option.bind_eq_some_iff.1 h2
 exact ⟨x,y,h1,h3,h4⟩
theorem node_one {vals:List (List Nat × Rat)} {op arg:Int} {a:Tr} {v:Rat} (h:op≠1∧op≠2∧op≠3) (hv:valT vals (nodeT op arg [a])=some v):∃x,valT vals a=some x∧unQ op arg x=some v:=by
 unfold nodeT at hv
 rw [valT_one h] at hv
 exact Option.bind_eq_some_iff.1 hv
theorem PV.kid {vals:List (List Nat × Rat)} (hv:∀b∈vals,fits b.2) {b:Tr} {y:Rat} (h:PV vals b y) (hok:okG b) (hn:isNeg b):PV vals (kidT b) (-y):=fun v e=>by
 obtain ⟨k,neg,l,m,name,arg,e1,e2,e3⟩:=isNeg_kidG hok hn
 rw [e2] at e
 subst e1
 have hf:fits v:=valT_fitsG hv _ e3 v e
 have:valT vals (.mk 4 arg neg l m name [k])=some (-v):=by
  rw [valT_one (by decide),e]
  exact (unQ_neg _ _).trans (if_pos (fits_neg hf))
 rw [← h _ this,Rat.neg_neg]
theorem div_one' (x:Rat):x / 1=x:=by
 have h:(1:Rat)*(1:Rat)⁻¹=1:=Rat.mul_inv_cancel 1 (by decide)
 rw [Rat.one_mul] at h
 rw [Rat.div_def,h,Rat.mul_one]
theorem bin_PV {vals:List (List Nat × Rat)} (hv:∀b∈vals,fits b.2) {op:Int} (hop:op=5∨op=6∨op=7∨op=8) {a b:Tr} {x y:Rat} (ha:okG a) (hb:okG b) (h:PV vals a x) (h':PV vals b y):PV vals (nodeS op 0 (nodeT op 0 [a,b]) [a,b]) (foldP' op x y):=by
 rw [nodeS_two hop]
 have hop3:op≠1∧op≠2∧op≠3:=by omega
 have hE:PV vals (nodeT op 0 [a,b]) (foldP' op x y):=fun v e=>by
  obtain ⟨x',y',h1,h2,h3⟩:=node_two hop3 e
  rw [biQ_fold hop] at h3
  rw [foldQ_eq h3,h _ h1,h' _ h2]
 have hN:∀{o:Int},(o=5∨o=6)→isNeg b→PV vals (nodeT o 0 [a,kidT b]) (foldP' o x (-y)):=fun {o} ho hn v e=>by
  have hk:=h'.kid hv hb hn
  obtain ⟨x',y',h1,h2,h3⟩:=node_two (by omega) e
  rw [biQ_fold (by omega)] at h3
  rw [foldQ_eq h3,h _ h1,hk _ h2]
 have hM:PV vals (negS (nodeT 4 0 [b]) b) (-y):=fun v e=>by
  unfold negS at e
  split at e
  ·rename_i q hq
   rw [mkL_val (fits_neg (litV_fitsG hb hq))] at e
   cases e
   rw [h'.lit hb hq]
  ·split at e
   ·exact h'.kid hv hb (by assumption) _ e
   ·obtain ⟨x',h1,h2⟩:=node_one (by decide) e
    rw [unQ_neg] at h2
    rw [fitO_of h2,h' _ h1]
 unfold binS
 split
 ·rename_i q hq
  obtain ⟨x',y',h1,h2,h3⟩:=foldT_lit hq
  exact PV.mk (foldT_fits hq) (by rw [foldQ_eq h3,h.lit ha h1,h'.lit hb h2])
 have f5:foldP' 5 x y=x+y:=rfl
 have f6:foldP' 6 x y=x-y:=rfl
 have f7:foldP' 7 x y=x*y:=rfl
 have f8:foldP' 8 x y=x / y:=rfl
 split
 ·rename_i e5
  subst e5
  rw [f5] at hE ⊢
  unfold addS
  split
  ·rw [h.lit ha (by assumption),Rat.zero_add];exact h'
  split
  ·rw [h'.lit hb (by assumption),Rat.add_zero];exact h
  split
  ·have g:=hN (o:=6) (.inr rfl) (by assumption)
   rw [show foldP' 6 x (-y)=x - -y from rfl,Rat.sub_eq_add_neg,Rat.neg_neg] at g
   exact g
  ·exact hE
 split
 ·rename_i e6
  subst e6
  rw [f6] at hE ⊢
  unfold subS
  split
  ·rw [h'.lit hb (by assumption),Rat.sub_eq_add_neg,Rat.neg_zero,Rat.add_zero];exact h
  split
  ·rw [h.lit ha (by assumption),Rat.sub_eq_add_neg,Rat.zero_add];exact hM
  split
  ·have g:=hN (o:=5) (.inl rfl) (by assumption)
   rw [show foldP' 5 x (-y)=x+-y from rfl,← Rat.sub_eq_add_neg] at g
   exact g
  ·exact hE
 split
 ·rename_i e7
  subst e7
  rw [f7] at hE ⊢
  unfold mulS
  split
  ·rename_i hz
   refine PV.mk fits_zero ?_
   rcases hz with hz|hz
   ·rw [h.lit ha hz,Rat.zero_mul]
   ·rw [h'.lit hb hz,Rat.mul_zero]
  split
  ·rw [h.lit ha (by assumption),Rat.one_mul];exact h'
  split
  ·rw [h'.lit hb (by assumption),Rat.mul_one];exact h
  split
  ·rw [h.lit ha (by assumption),Rat.neg_mul,Rat.one_mul];exact hM
  ·exact hE
 ·rename_i e5 e6 e7
  obtain rfl:op=8:=by omega
  rw [f8] at hE ⊢
  unfold divS
  split
  ·refine PV.mk fits_zero ?_
   rw [h.lit ha (by assumption),Rat.div_def,Rat.zero_mul]
  split
  ·rw [h'.lit hb (by assumption),div_one'];exact h
  ·exact hE
theorem sq_PV {vals:List (List Nat × Rat)} {a:Tr} {x:Rat} (ha:okG a) (h:PV vals a x):PV vals (nodeS 9 2 (nodeT 9 2 [a]) [a]) (powQ x 2):=by
 rw [nodeS,if_neg (by decide),if_pos rfl]
 unfold powS
 split
 ·rename_i q hq
  have hf:=powV_fits hq
  unfold powV at hq
  obtain ⟨x',h1,h2⟩:=Option.bind_eq_some_iff.1 hq
  rw [if_neg (by omega)] at h2
  exact PV.mk hf (by rw [fitO_of h2,h.lit ha h1])
 ·rw [if_neg (by decide),if_neg (by decide)]
  intro v e
  obtain ⟨x',h1,h2⟩:=node_one (by decide) e
  rw [unQ_pow,if_neg (by omega)] at h2
  rw [fitO_of h2,h _ h1]
def ruleQ (op:Int) (a b x y:Rat):Rat:=if op=5 then x+y else if op=6 then x-y else if op=7 then x*b+a*y else (x*b-a*y) / (b*b)
theorem pow_two' (x:Rat):powQ x 2=x*x:=by
 unfold powQ
 simp [Rat.pow_succ,Rat.pow_zero,Rat.one_mul]
theorem der_rule {vals:List (List Nat × Rat)} (hv:∀b∈vals,fits b.2) {nm:List Nat} {op:Int} (hop:op=5∨op=6∨op=7∨op=8) {A B:Tr} {a b x y:Rat} (hA:okT 1 A) (hB:okT 1 B) (sA:smT A) (sB:smT B)
  (ha:valT vals A=some a) (hb:valT vals B=some b) (hx:valT vals (simT (derT id nm A))=some x) (hy:valT vals (simT (derT id nm B))=some y):PV vals (simT (derT id nm (nodeT op 0 [A,B]))) (ruleQ op a b x y):=by
 have gA:=okG_of hA
 have gB:=okG_of hB
 have pA:PV vals (simT A) a:=fun v e=>by rw [simT_value hv hA _ ha] at e;cases e;rfl
 have pB:PV vals (simT B) b:=fun v e=>by rw [simT_value hv hB _ hb] at e;cases e;rfl
 have pX:PV vals (simT (derT id nm A)) x:=fun v e=>by rw [hx] at e;cases e;rfl
 have pY:PV vals (simT (derT id nm B)) y:=fun v e=>by rw [hy] at e;cases e;rfl
 have oA:=simT_G gA
 have oB:=simT_G gB
 have oX:=simT_G (derI_G (nm:=nm) gA sA)
 have oY:=simT_G (derI_G (nm:=nm) gB sB)
 have h7:∀{x y:Tr},okG x→okG y→okG (nodeT 7 0 [x,y]):=fun h h'=>node2_G (by decide) (by decide) (by decide) h h'
 have h6:∀{x y:Tr},okG x→okG y→okG (nodeT 6 0 [x,y]):=fun h h'=>node2_G (by decide) (by decide) (by decide) h h'
 have dA:=derI_G (nm:=nm) gA sA
 have dB:=derI_G (nm:=nm) gB sB
 have m1:PV vals (simT (nodeT 7 0 [derT id nm A,B])) (x*b):=by rw [sim_node2];exact bin_PV hv (by decide) oX oB pX pB
 have m2:PV vals (simT (nodeT 7 0 [A,derT id nm B])) (a*y):=by rw [sim_node2];exact bin_PV hv (by decide) oA oY pA pY
 have o1:=simT_G (h7 dA gB)
 have o2:=simT_G (h7 gA dB)
 have e0:derT id nm (nodeT op 0 [A,B])=binD op A B (derT id nm A) (derT id nm B):=by
  unfold nodeT
  rw [derT,if_neg (by omega),if_neg (by omega),derTs,derTs,derTs,nodeD]
 rw [e0]
 unfold binD ruleQ
 rcases hop with rfl|rfl|rfl|rfl
 ·rw [if_pos (.inl rfl),if_pos rfl,sim_node2]
  exact bin_PV hv (by decide) oX oY pX pY
 ·rw [if_pos (.inr rfl),if_neg (by decide),if_pos rfl,sim_node2]
  exact bin_PV hv (by decide) oX oY pX pY
 ·rw [if_neg (by decide),if_pos rfl,if_neg (by decide),if_neg (by decide),if_pos rfl,sim_node2]
  exact bin_PV hv (by decide) o1 o2 m1 m2
 ·rw [if_neg (by decide),if_neg (by decide),if_neg (by decide),if_neg (by decide),if_neg (by decide),sim_node2]
  have n1:PV vals (simT (nodeT 6 0 [nodeT 7 0 [derT id nm A,B],nodeT 7 0 [A,derT id nm B]])) (x*b-a*y):=by
   rw [sim_node2]
   exact bin_PV hv (by decide) o1 o2 m1 m2
  have n2:PV vals (simT (nodeT 9 2 [B])) (b*b):=by
   rw [sim_node1,← pow_two']
   exact sq_PV oB pB
  have o3:=simT_G (h6 (h7 dA gB) (h7 gA dB))
  have o4:=simT_G (node1_G (op:=9) (arg:=2) (by decide) (by decide) (by decide) gB)
  exact bin_PV hv (by decide) o3 o4 n1 n2
end Go.Proofs.YtbgicephinomlaaGreatDoor