/- The parser's functions, by steps: atoms. -/
import Derived.Test.YtbgicephinomlaaGreatDoorE11
set_option linter.unusedVariables false
set_option linter.unusedSimpArgs false
namespace Go.Proofs.YtbgicephinomlaaGreatDoor
open Go Go.Vc Go.Dig
theorem Next_n (h:Heap) (bp:Nat) (s:Sl) (ts:List Tk) (i e:Nat) (v:Value) (kd:Nat) (w:Toks h s ts) (hi:i≤ts.length) (hN:nxtP ts kd i=none):Vc.Fn T F.psyntax_Parser_Next [.pointer (some ⟨bp,0,none⟩),.int .i64 kd] h [Pst bp s i e v] fun r h' L'=>L'=[Pst bp s i e v]∧h'=h∧r=.tuple #[.agg #[.int .i64 0,.string (txt []),.int .i64 0],.bool false]:=by
 have:=Next_ct h bp s ts i e v kd w hi
 rw [hN] at this;exact this
theorem Next_s (h:Heap) (bp:Nat) (s:Sl) (ts:List Tk) (i e:Nat) (v:Value) (kd:Nat) (t:Tk) (w:Toks h s ts) (hi:i≤ts.length) (hN:nxtP ts kd i=some t):Vc.Fn T F.psyntax_Parser_Next [.pointer (some ⟨bp,0,none⟩),.int .i64 kd] h [Pst bp s i e v] fun r h' L'=>L'=[Pst bp s (i+1) e v]∧h'=h∧r=.tuple #[.agg #[.int .i64 t.kind,.string (txt t.text),.int .i64 t.pos],.bool true]:=by
 have:=Next_ct h bp s ts i e v kd w hi
 rw [hN] at this;exact this
theorem nxt_s {ts:List Tk} {i kd:Nat} {t:Tk} (ht:ts[i]?=some t) (hk:t.kind=kd):nxtP ts kd i=some t:=by
 unfold nxtP;rw [ht];simp [hk]
theorem nxt_n {ts:List Tk} {i kd:Nat} {t:Tk} (ht:ts[i]?=some t) (hk:t.kind≠kd):nxtP ts kd i=none:=by
 unfold nxtP;rw [ht];simp [hk]
theorem nxt_e {ts:List Tk} {i kd:Nat} (ht:ts[i]?=none):nxtP ts kd i=none:=by
 unfold nxtP;rw [ht]
theorem isAt_s {ts:List Tk} {i:Nat} {t:Tk} {x:List Nat} (ht:ts[i]?=some t) (hk:t.kind=0) (hx:t.text=x):isAt ts x i=true:=by
 unfold isAt;rw [ht];simp [hk,hx]
theorem isAt_n {ts:List Tk} {i:Nat} {t:Tk} {x:List Nat} (ht:ts[i]?=some t) (hx:¬(t.kind=0∧t.text=x)):isAt ts x i=false:=by
 unfold isAt;rw [ht];simp only [decide_eq_false_iff_not];exact hx
theorem isAt_e {ts:List Tk} {i:Nat} {x:List Nat} (ht:ts[i]?=none):isAt ts x i=false:=by
 unfold isAt;rw [ht]
theorem fnIx_le (l:List Nat):fnIx l≤8:=by
 unfold fnIx
 split
 ·rename_i hm
  have:=List.idxOf_lt_length_of_mem hm
  have h8:fnames.length=8:=rfl
  omega
 ·omega
attribute [local irreducible] Vc.Fn FnP
set_option maxRecDepth 20000 in
set_option maxHeartbeats 2000000 in
theorem Patom_bad (ts:List Tk) (bp:Nat) (s:Sl) (e:Nat) (h:Heap) (i n:Nat) (cs:List Cn) (v:Value) (G:Own) (r:Pr Tr) (tb:Tb h) (w:Toks h s ts) (hi:i≤ts.length) (hc:cs.length≤i) (g:GrowS Ty.syntax_count 4 v cs.length (cnc cs) G) (y2:nxtP ts 2 i=none) (y3:nxtP ts 3 i=none) (y1:nxtP ts 1 i=none) (hF:∀x∈[[112,105],[40],[97,98,115],[115,113,114,116],[109,105,110],[109,97,120],[105,102],[114,111,111,116]],isAt ts x i=false) (hp:some (Pr.bad i)=some r):
  FnP T F.psyntax_Parser_atom [.pointer (some ⟨bp,0,none⟩)] h (Pst bp s i e v::G) (PQ ts bp s e VE r) fun c _ _=>PS ts e r c:=by
 cases hp
 have n2:=fun h w=>Next_n h bp s ts i e v 2 w hi y2
 have n3:=fun h w=>Next_n h bp s ts i e v 3 w hi y3
 have a0:=fun h w=>Accept_f h bp s ts i e v [112,105] w hi (by decide) (hF _ (by decide))
 have a1:=fun h w=>Accept_f h bp s ts i e v [40] w hi (by decide) (hF _ (by decide))
 have a2:=fun h w=>Accept_f h bp s ts i e v [97,98,115] w hi (by decide) (hF _ (by decide))
 have a3:=fun h w=>Accept_f h bp s ts i e v [115,113,114,116] w hi (by decide) (hF _ (by decide))
 have a4:=fun h w=>Accept_f h bp s ts i e v [109,105,110] w hi (by decide) (hF _ (by decide))
 have a5:=fun h w=>Accept_f h bp s ts i e v [109,97,120] w hi (by decide) (hF _ (by decide))
 have a6:=fun h w=>Accept_f h bp s ts i e v [105,102] w hi (by decide) (hF _ (by decide))
 have a7:=fun h w=>Accept_f h bp s ts i e v [114,111,111,116] w hi (by decide) (hF _ (by decide))
 refine fnP_of_codeI ok _ D.psyntax_Parser_atom rfl ?_
 conv=>whnf
 repeat ((first | refine opsI.step ?_ | refine codeI.step ?_);conv=>whnf)
 repeat' first | ((first | (show CallN _ _ _ _ _ _;first | (refine CallN.own 1 rfl rfl (Fn.withPan (n2 _ (by assumption))) (fun v h' La hl hr=>?_);obtain ⟨rfl,rfl,rfl⟩:=hr;clear hl;refine ⟨_,rfl,?_⟩) | (refine CallN.own 2 rfl rfl (Fn.withPan (n3 _ (by assumption))) (fun v h' La hl hr=>?_);obtain ⟨rfl,rfl,rfl⟩:=hr;clear hl;refine ⟨_,rfl,?_⟩) | (refine CallN.own 3 rfl rfl (Fn.withPan (a0 _ (by assumption))) (fun v h' La hl hr=>?_);obtain ⟨rfl,rfl,rfl⟩:=hr;clear hl;refine ⟨_,rfl,?_⟩) | (refine CallN.own 3 rfl rfl (Fn.withPan (a1 _ (by assumption))) (fun v h' La hl hr=>?_);obtain ⟨rfl,rfl,rfl⟩:=hr;clear hl;refine ⟨_,rfl,?_⟩) | (refine CallN.own 3 rfl rfl (Fn.withPan (a2 _ (by assumption))) (fun v h' La hl hr=>?_);obtain ⟨rfl,rfl,rfl⟩:=hr;clear hl;refine ⟨_,rfl,?_⟩) | (refine CallN.own 3 rfl rfl (Fn.withPan (a3 _ (by assumption))) (fun v h' La hl hr=>?_);obtain ⟨rfl,rfl,rfl⟩:=hr;clear hl;refine ⟨_,rfl,?_⟩) | (refine CallN.own 3 rfl rfl (Fn.withPan (a4 _ (by assumption))) (fun v h' La hl hr=>?_);obtain ⟨rfl,rfl,rfl⟩:=hr;clear hl;refine ⟨_,rfl,?_⟩) | (refine CallN.own 3 rfl rfl (Fn.withPan (a5 _ (by assumption))) (fun v h' La hl hr=>?_);obtain ⟨rfl,rfl,rfl⟩:=hr;clear hl;refine ⟨_,rfl,?_⟩) | (refine CallN.own 3 rfl rfl (Fn.withPan (a6 _ (by assumption))) (fun v h' La hl hr=>?_);obtain ⟨rfl,rfl,rfl⟩:=hr;clear hl;refine ⟨_,rfl,?_⟩) | (refine CallN.own 3 rfl rfl (Fn.withPan (a7 _ (by assumption))) (fun v h' La hl hr=>?_);obtain ⟨rfl,rfl,rfl⟩:=hr;clear hl;refine ⟨_,rfl,?_⟩)) | ((first | refine opsI.step ?_ | refine codeI.step ?_)) | intro (_:Nat) | refine Sto.lit 0 rfl rfl rfl ?_) <;> (conv=>whnf))
 all_goals exact CallN.par2 (A:=[_,_,_]) (B:=G) rfl (FnP.withPan (Number_f _ _ _ ts i _ _ (by assumption) hi y1)) (fun v h' Lp hl hr=>hr.elim) (fun c h' Lp hl hs=>⟨i,rfl,hs⟩)
set_option maxRecDepth 20000 in
set_option maxHeartbeats 2000000 in
theorem Patom_num (ts:List Tk) (bp:Nat) (s:Sl) (e:Nat) (h:Heap) (i n:Nat) (cs:List Cn) (v:Value) (G:Own) (r:Pr Tr) (tb:Tb h) (w:Toks h s ts) (hi:i≤ts.length) (hc:cs.length≤i) (g:GrowS Ty.syntax_count 4 v cs.length (cnc cs) G) (t:Tk) (ht:ts[i]?=some t) (hk:t.kind=1) (hp:some (Pr.ok (numT t.text prs) (i+1) cs)=some r):
  FnP T F.psyntax_Parser_atom [.pointer (some ⟨bp,0,none⟩)] h (Pst bp s i e v::G) (PQ ts bp s e VE r) fun c _ _=>PS ts e r c:=by
 cases hp
 have hj:=(List.getElem?_eq_some_iff.1 ht).1
 have hF:∀x∈[[112,105],[40],[97,98,115],[115,113,114,116],[109,105,110],[109,97,120],[105,102],[114,111,111,116]],isAt ts x i=false:=fun x _=>isAt_n ht (by omega)
 have n2:=fun h w=>Next_n h bp s ts i e v 2 w hi (nxt_n ht (by omega))
 have n3:=fun h w=>Next_n h bp s ts i e v 3 w hi (nxt_n ht (by omega))
 have a0:=fun h w=>Accept_f h bp s ts i e v [112,105] w hi (by decide) (hF _ (by decide))
 have a1:=fun h w=>Accept_f h bp s ts i e v [40] w hi (by decide) (hF _ (by decide))
 have a2:=fun h w=>Accept_f h bp s ts i e v [97,98,115] w hi (by decide) (hF _ (by decide))
 have a3:=fun h w=>Accept_f h bp s ts i e v [115,113,114,116] w hi (by decide) (hF _ (by decide))
 have a4:=fun h w=>Accept_f h bp s ts i e v [109,105,110] w hi (by decide) (hF _ (by decide))
 have a5:=fun h w=>Accept_f h bp s ts i e v [109,97,120] w hi (by decide) (hF _ (by decide))
 have a6:=fun h w=>Accept_f h bp s ts i e v [105,102] w hi (by decide) (hF _ (by decide))
 have a7:=fun h w=>Accept_f h bp s ts i e v [114,111,111,116] w hi (by decide) (hF _ (by decide))
 refine fnP_of_codeI ok _ D.psyntax_Parser_atom rfl ?_
 conv=>whnf
 repeat ((first | refine opsI.step ?_ | refine codeI.step ?_);conv=>whnf)
 repeat' first | ((first | (show CallN _ _ _ _ _ _;first | (refine CallN.own 1 rfl rfl (Fn.withPan (n2 _ (by assumption))) (fun v h' La hl hr=>?_);obtain ⟨rfl,rfl,rfl⟩:=hr;clear hl;refine ⟨_,rfl,?_⟩) | (refine CallN.own 2 rfl rfl (Fn.withPan (n3 _ (by assumption))) (fun v h' La hl hr=>?_);obtain ⟨rfl,rfl,rfl⟩:=hr;clear hl;refine ⟨_,rfl,?_⟩) | (refine CallN.own 3 rfl rfl (Fn.withPan (a0 _ (by assumption))) (fun v h' La hl hr=>?_);obtain ⟨rfl,rfl,rfl⟩:=hr;clear hl;refine ⟨_,rfl,?_⟩) | (refine CallN.own 3 rfl rfl (Fn.withPan (a1 _ (by assumption))) (fun v h' La hl hr=>?_);obtain ⟨rfl,rfl,rfl⟩:=hr;clear hl;refine ⟨_,rfl,?_⟩) | (refine CallN.own 3 rfl rfl (Fn.withPan (a2 _ (by assumption))) (fun v h' La hl hr=>?_);obtain ⟨rfl,rfl,rfl⟩:=hr;clear hl;refine ⟨_,rfl,?_⟩) | (refine CallN.own 3 rfl rfl (Fn.withPan (a3 _ (by assumption))) (fun v h' La hl hr=>?_);obtain ⟨rfl,rfl,rfl⟩:=hr;clear hl;refine ⟨_,rfl,?_⟩) | (refine CallN.own 3 rfl rfl (Fn.withPan (a4 _ (by assumption))) (fun v h' La hl hr=>?_);obtain ⟨rfl,rfl,rfl⟩:=hr;clear hl;refine ⟨_,rfl,?_⟩) | (refine CallN.own 3 rfl rfl (Fn.withPan (a5 _ (by assumption))) (fun v h' La hl hr=>?_);obtain ⟨rfl,rfl,rfl⟩:=hr;clear hl;refine ⟨_,rfl,?_⟩) | (refine CallN.own 3 rfl rfl (Fn.withPan (a6 _ (by assumption))) (fun v h' La hl hr=>?_);obtain ⟨rfl,rfl,rfl⟩:=hr;clear hl;refine ⟨_,rfl,?_⟩) | (refine CallN.own 3 rfl rfl (Fn.withPan (a7 _ (by assumption))) (fun v h' La hl hr=>?_);obtain ⟨rfl,rfl,rfl⟩:=hr;clear hl;refine ⟨_,rfl,?_⟩)) | ((first | refine opsI.step ?_ | refine codeI.step ?_)) | intro (_:Nat) | refine Sto.lit 0 rfl rfl rfl ?_) <;> (conv=>whnf))
 all_goals refine CallN.par2 (A:=[_,_,_]) (B:=G) rfl (FnP.withPan (Number_ct _ (by assumption) _ _ ts i _ _ t (by assumption) ht hk)) (fun v h' Lp hl hr=>?_) (fun c h' Lp hl hs=>hs.elim)
 obtain ⟨rfl,a,b,rfl,hv⟩:=hr
 conv=>whnf
 repeat' first | ((first | ((first | refine opsI.step ?_ | refine codeI.step ?_)) | refine LdN.own 2 rfl rfl ?_ | refine Sto.lit 2 rfl rfl rfl ?_) <;> (conv=>whnf))
 all_goals exact RetN.drop0 (RetN.drop0 (RetN.drop0 (RetN.done ⟨numT t.text prs,i+1,cs,_,G,rfl,by omega,by omega,rfl,g,1,0,_,a,b,[],⟨none,0,0⟩,rfl,IsE.num hv⟩)))
set_option maxRecDepth 20000 in
set_option maxHeartbeats 2000000 in
theorem Patom_var (ts:List Tk) (bp:Nat) (s:Sl) (e:Nat) (h:Heap) (i n:Nat) (cs:List Cn) (v:Value) (G:Own) (r:Pr Tr) (tb:Tb h) (w:Toks h s ts) (hi:i≤ts.length) (hc:cs.length≤i) (g:GrowS Ty.syntax_count 4 v cs.length (cnc cs) G) (t:Tk) (ht:ts[i]?=some t) (hk:t.kind=2) (hp:some (Pr.ok (varT t.text) (i+1) cs)=some r):
  FnP T F.psyntax_Parser_atom [.pointer (some ⟨bp,0,none⟩)] h (Pst bp s i e v::G) (PQ ts bp s e VE r) fun c _ _=>PS ts e r c:=by
 cases hp
 have hj:=(List.getElem?_eq_some_iff.1 ht).1
 have ht8:=w.lt t (List.mem_of_getElem? ht)
 have n2:=fun h w=>Next_s h bp s ts i e v 2 t w hi (nxt_s ht hk)
 refine fnP_of_codeI ok _ D.psyntax_Parser_atom rfl ?_
 conv=>whnf
 repeat ((first | refine opsI.step ?_ | refine codeI.step ?_);conv=>whnf)
 repeat' first | ((first | (show CallN _ _ _ _ _ _;(refine CallN.own 1 rfl rfl (Fn.withPan (n2 _ (by assumption))) (fun v h' La hl hr=>?_);obtain ⟨rfl,rfl,rfl⟩:=hr;clear hl;refine ⟨_,rfl,?_⟩)) | ((first | refine opsI.step ?_ | refine codeI.step ?_)) | intro (_:Nat) | refine LdN.own 1 rfl rfl ?_ | refine Ld.own 0 rfl rfl ?_ | (show Sto _ _ _ _;first | refine Sto.lit 0 rfl rfl rfl ?_ | refine Sto.lit 1 rfl rfl rfl ?_)) <;> (conv=>whnf))
 all_goals exact RetN.drop0 (RetN.drop0 (RetN.done ⟨varT t.text,i+1,cs,v,G,rfl,by omega,by omega,rfl,g,2,0,false,⟨none,0,0⟩,⟨none,0,0⟩,t.text,⟨none,0,0⟩,rfl,IsE.var ht8⟩))
set_option maxRecDepth 20000 in
set_option maxHeartbeats 2000000 in
theorem Patom_fun (ts:List Tk) (bp:Nat) (s:Sl) (e:Nat) (h:Heap) (i n:Nat) (cs:List Cn) (v:Value) (G:Own) (r:Pr Tr) (tb:Tb h) (w:Toks h s ts) (hi:i≤ts.length) (hc:cs.length≤i) (g:GrowS Ty.syntax_count 4 v cs.length (cnc cs) G) (ihk:∀k:Nat,k≤3→PC F.psyntax_Parser_kids [.int .i64 k] (.kids k) VK n) (t:Tk) (ht:ts[i]?=some t) (hk:t.kind=3) (hp:(Pr.bnd (pp ts prs n (.kids 1) (i+1) cs) fun e i cs=>some (.ok (nodeT 11 (fnIx t.text) e.kids) i cs))=some r):
  FnP T F.psyntax_Parser_atom [.pointer (some ⟨bp,0,none⟩)] h (Pst bp s i e v::G) (PQ ts bp s e VE r) fun c _ _=>PS ts e r c:=by
 have hj:=(List.getElem?_eq_some_iff.1 ht).1
 have ht8:=w.lt t (List.mem_of_getElem? ht)
 have hix:=fnIx_le t.text
 have n2:=fun h w=>Next_n h bp s ts i e v 2 w hi (nxt_n ht (by omega))
 have n3:=fun h w=>Next_s h bp s ts i e v 3 t w hi (nxt_s ht hk)
 cases h1:pp ts prs n (.kids 1) (i+1) cs with
 | none=>rw [h1] at hp;cases hp
 | some r1=>
  rw [h1] at hp
  have c1:=fun h tb w=>ihk 1 (by omega) ts bp s e h (i+1) cs v G r1 tb w (by omega) (by omega) g h1
  refine fnP_of_codeI ok _ D.psyntax_Parser_atom rfl ?_
  conv=>whnf
  repeat ((first | refine opsI.step ?_ | refine codeI.step ?_);conv=>whnf)
  repeat' first | ((first | (show CallN _ _ _ _ _ _;first | (refine CallN.own 1 rfl rfl (Fn.withPan (n2 _ (by assumption))) (fun v h' La hl hr=>?_);obtain ⟨rfl,rfl,rfl⟩:=hr;clear hl;refine ⟨_,rfl,?_⟩) | (refine CallN.own 2 rfl rfl (Fn.withPan (n3 _ (by assumption))) (fun v h' La hl hr=>?_);obtain ⟨rfl,rfl,rfl⟩:=hr;clear hl;refine ⟨_,rfl,?_⟩) | (refine CallN.fn rfl (Fn0.withPan (Find_ct _ _ ht8)) (fun v h' hl hr=>?_);obtain rfl:=hr) | (refine CallN.par (A:=[_,_,_]) rfl (FnP.withPan (c1 _ (by (iterate 30 (try first | assumption | refine Tb.mono ?_ (by assumption)));first | done | assumption) (by (iterate 30 (try first | assumption | refine Toks.mono ?_ (by assumption)));first | done | assumption))) (fun v h' Lp hl hr=>?_) (fun c h' Lp hl hs=>PS.bnd hp hs);obtain ⟨tr2,i2,cs2,v2,G2,rfl,hi2,hc2,rfl,g2,ss2,rfl,hK2⟩:=hr) | refine CallN.quiet rfl (Fn0.withPan (node_ct _ _ _ ss2)) ?_) | ((first | refine opsI.step ?_ | refine codeI.step ?_)) | intro (_:Nat) | refine LdN.own 2 rfl rfl ?_ | refine Ld.own 0 rfl rfl ?_ | (show Sto _ _ _ _;first | refine Sto.lit 0 rfl rfl rfl ?_ | refine Sto.lit 2 rfl rfl rfl ?_)) <;> (conv=>whnf))
  all_goals exact RetN.drop0 (RetN.drop0 (RetN.drop0 (RetN.done ⟨nodeT 11 (fnIx t.text) tr2.kids,i2,cs2,v2,G2,(Option.some.inj hp).symm,hi2,hc2,rfl,g2,VE.node (by decide) (by omega) hK2⟩)))
set_option maxRecDepth 20000 in
set_option maxHeartbeats 2000000 in
theorem Patom_pi (ts:List Tk) (bp:Nat) (s:Sl) (e:Nat) (h:Heap) (i n:Nat) (cs:List Cn) (v:Value) (G:Own) (r:Pr Tr) (tb:Tb h) (w:Toks h s ts) (hi:i≤ts.length) (hc:cs.length≤i) (g:GrowS Ty.syntax_count 4 v cs.length (cnc cs) G) (t:Tk) (ht:ts[i]?=some t) (hk:t.kind=0) (hx:t.text=[112,105]) (hp:some (Pr.ok (nodeT 3 0 []) (i+1) cs)=some r):
  FnP T F.psyntax_Parser_atom [.pointer (some ⟨bp,0,none⟩)] h (Pst bp s i e v::G) (PQ ts bp s e VE r) fun c _ _=>PS ts e r c:=by
 have hj:=(List.getElem?_eq_some_iff.1 ht).1
 have n2:=fun h w=>Next_n h bp s ts i e v 2 w hi (nxt_n ht (by omega))
 have n3:=fun h w=>Next_n h bp s ts i e v 3 w hi (nxt_n ht (by omega))
 have a0:=fun h w=>Accept_t h bp s ts i e v [112,105] w (by decide) (isAt_s ht hk hx)
 cases hp
 refine fnP_of_codeI ok _ D.psyntax_Parser_atom rfl ?_
 conv=>whnf
 repeat ((first | refine opsI.step ?_ | refine codeI.step ?_);conv=>whnf)
 repeat' first | ((first | (show CallN _ _ _ _ _ _;first | (refine CallN.own 1 rfl rfl (Fn.withPan (n2 _ (by assumption))) (fun v h' La hl hr=>?_);obtain ⟨rfl,rfl,rfl⟩:=hr;clear hl;refine ⟨_,rfl,?_⟩) | (refine CallN.own 2 rfl rfl (Fn.withPan (n3 _ (by assumption))) (fun v h' La hl hr=>?_);obtain ⟨rfl,rfl,rfl⟩:=hr;clear hl;refine ⟨_,rfl,?_⟩) | (refine CallN.own 3 rfl rfl (Fn.withPan (a0 _ (by assumption))) (fun v h' La hl hr=>?_);obtain ⟨rfl,rfl,rfl⟩:=hr;clear hl;refine ⟨_,rfl,?_⟩) | refine CallN.quiet rfl (Fn0.withPan (nodeS_ct _ _ _ none 0 0)) ?_) | ((first | refine opsI.step ?_ | refine codeI.step ?_)) | intro (_:Nat) | refine LdN.own 2 rfl rfl ?_ | (show Sto _ _ _ _;first | refine Sto.lit 0 rfl rfl rfl ?_ | refine Sto.lit 2 rfl rfl rfl ?_)) <;> (conv=>whnf))
 all_goals exact RetN.drop0 (RetN.drop0 (RetN.drop0 (RetN.done ⟨nodeT 3 0 [],i+1,cs,v,G,rfl,by omega,by omega,rfl,g,VE.node (by decide) (by decide) (IsK.nil _)⟩)))
set_option maxRecDepth 20000 in
set_option maxHeartbeats 2000000 in
theorem Patom_par (ts:List Tk) (bp:Nat) (s:Sl) (e:Nat) (h:Heap) (i n:Nat) (cs:List Cn) (v:Value) (G:Own) (r:Pr Tr) (tb:Tb h) (w:Toks h s ts) (hi:i≤ts.length) (hc:cs.length≤i) (g:GrowS Ty.syntax_count 4 v cs.length (cnc cs) G) (ihe:PC F.psyntax_Parser_Expr [] .sum VE n) (t:Tk) (ht:ts[i]?=some t) (hk:t.kind=0) (hx:t.text=[40]) (hp:(Pr.bnd (pp ts prs n .sum (i+1) cs) fun e i cs=>Pr.bnd (wantP ts [41] i cs) fun _ i cs=>some (.ok e i cs))=some r):
  FnP T F.psyntax_Parser_atom [.pointer (some ⟨bp,0,none⟩)] h (Pst bp s i e v::G) (PQ ts bp s e VE r) fun c _ _=>PS ts e r c:=by
 have hj:=(List.getElem?_eq_some_iff.1 ht).1
 have n2:=fun h w=>Next_n h bp s ts i e v 2 w hi (nxt_n ht (by omega))
 have n3:=fun h w=>Next_n h bp s ts i e v 3 w hi (nxt_n ht (by omega))
 have a0:=fun h w=>Accept_f h bp s ts i e v [112,105] w hi (by decide) (isAt_n ht (fun q=>absurd (hx.symm.trans q.2) (by decide)))
 have a1:=fun h w=>Accept_t h bp s ts i e v [40] w (by decide) (isAt_s ht hk hx)
 cases h1:pp ts prs n .sum (i+1) cs with
 | none=>rw [h1] at hp;cases hp
 | some r1=>
  rw [h1] at hp
  have c1:=fun h tb w=>ihe ts bp s e h (i+1) cs v G r1 tb w (by omega) (by omega) g h1
  refine fnP_of_codeI ok _ D.psyntax_Parser_atom rfl ?_
  conv=>whnf
  repeat ((first | refine opsI.step ?_ | refine codeI.step ?_);conv=>whnf)
  repeat' first | ((first | (show CallN _ _ _ _ _ _;first | (refine CallN.own 1 rfl rfl (Fn.withPan (n2 _ (by assumption))) (fun v h' La hl hr=>?_);obtain ⟨rfl,rfl,rfl⟩:=hr;clear hl;refine ⟨_,rfl,?_⟩) | (refine CallN.own 2 rfl rfl (Fn.withPan (n3 _ (by assumption))) (fun v h' La hl hr=>?_);obtain ⟨rfl,rfl,rfl⟩:=hr;clear hl;refine ⟨_,rfl,?_⟩) | (refine CallN.own 3 rfl rfl (Fn.withPan (a0 _ (by assumption))) (fun v h' La hl hr=>?_);obtain ⟨rfl,rfl,rfl⟩:=hr;clear hl;refine ⟨_,rfl,?_⟩) | (refine CallN.own 3 rfl rfl (Fn.withPan (a1 _ (by assumption))) (fun v h' La hl hr=>?_);obtain ⟨rfl,rfl,rfl⟩:=hr;clear hl;refine ⟨_,rfl,?_⟩) | (refine CallN.par (A:=[_,_,_]) rfl (FnP.withPan (c1 _ (by assumption) (by assumption))) (fun v h' Lp hl hr=>?_) (fun c h' Lp hl hs=>PS.bnd hp hs);obtain ⟨tr2,i2,cs2,v2,G2,rfl,hi2,hc2,rfl,g2,hv2⟩:=hr;obtain ⟨op2,ar2,ng2,nn2,dd2,nm2,ss2,rfl,hE2⟩:=hv2)) | ((first | refine opsI.step ?_ | refine codeI.step ?_)) | intro (_:Nat) | refine Sto.lit 0 rfl rfl rfl ?_) <;> (conv=>whnf))
  replace hp:Pr.bnd (wantP ts [41] i2 cs2) (fun _ i cs=>some (.ok tr2 i cs))=some r:=hp
  have w1:=fun h w=>Want_ct h bp s ts i2 e v2 [41] w hi2 (by decide)
  repeat' first | ((first | (show CallN _ _ _ _ _ _;(refine CallN.par2 (A:=[_,_,_,_]) (B:=G2) rfl (FnP.withPan (w1 _ (by (iterate 30 (try first | assumption | refine Toks.mono ?_ (by assumption)));first | done | assumption))) (fun v h' Lp hl hr=>?_) (fun c h' Lp hl hs=>PS.want hp hs);obtain ⟨rfl,hq,rfl,rfl⟩:=hr;clear hl)) | ((first | refine opsI.step ?_ | refine codeI.step ?_)) | (show LdN _ _ _ _ _;first | refine LdN.own 0 rfl rfl ?_ | refine LdN.own 3 rfl rfl ?_) | refine Sto.lit 3 rfl rfl rfl ?_) <;> (conv=>whnf))
  replace hp:=want_t hq hp
  have hj2:=isAt_lt hq
  exact RetN.drop0 (RetN.drop0 (RetN.drop0 (RetN.drop0 (RetN.done ⟨tr2,i2+1,cs2,v2,G2,(Option.some.inj hp).symm,by omega,by omega,rfl,g2,op2,ar2,ng2,nn2,dd2,nm2,ss2,rfl,hE2⟩))))
set_option maxRecDepth 20000 in
set_option maxHeartbeats 2000000 in
theorem Patom_abs (ts:List Tk) (bp:Nat) (s:Sl) (e:Nat) (h:Heap) (i n:Nat) (cs:List Cn) (v:Value) (G:Own) (r:Pr Tr) (tb:Tb h) (w:Toks h s ts) (hi:i≤ts.length) (hc:cs.length≤i) (g:GrowS Ty.syntax_count 4 v cs.length (cnc cs) G) (ihk:∀k:Nat,k≤3→PC F.psyntax_Parser_kids [.int .i64 k] (.kids k) VK n) (t:Tk) (ht:ts[i]?=some t) (hk:t.kind=0) (hx:t.text=[97,98,115]) (hp:(Pr.bnd (pp ts prs n (.kids 1) (i+1) cs) fun e i cs=>some (.ok (nodeT 12 0 e.kids) i cs))=some r):
  FnP T F.psyntax_Parser_atom [.pointer (some ⟨bp,0,none⟩)] h (Pst bp s i e v::G) (PQ ts bp s e VE r) fun c _ _=>PS ts e r c:=by
 have hj:=(List.getElem?_eq_some_iff.1 ht).1
 have n2:=fun h w=>Next_n h bp s ts i e v 2 w hi (nxt_n ht (by omega))
 have n3:=fun h w=>Next_n h bp s ts i e v 3 w hi (nxt_n ht (by omega))
 have a0:=fun h w=>Accept_f h bp s ts i e v [112,105] w hi (by decide) (isAt_n ht (fun q=>absurd (hx.symm.trans q.2) (by decide)))
 have a1:=fun h w=>Accept_f h bp s ts i e v [40] w hi (by decide) (isAt_n ht (fun q=>absurd (hx.symm.trans q.2) (by decide)))
 have a2:=fun h w=>Accept_t h bp s ts i e v [97,98,115] w (by decide) (isAt_s ht hk hx)
 cases h1:pp ts prs n (.kids 1) (i+1) cs with
 | none=>rw [h1] at hp;cases hp
 | some r1=>
  rw [h1] at hp
  have c1:=fun h tb w=>ihk 1 (by omega) ts bp s e h (i+1) cs v G r1 tb w (by omega) (by omega) g h1
  refine fnP_of_codeI ok _ D.psyntax_Parser_atom rfl ?_
  conv=>whnf
  repeat ((first | refine opsI.step ?_ | refine codeI.step ?_);conv=>whnf)
  repeat' first | ((first | (show CallN _ _ _ _ _ _;first | (refine CallN.own 1 rfl rfl (Fn.withPan (n2 _ (by assumption))) (fun v h' La hl hr=>?_);obtain ⟨rfl,rfl,rfl⟩:=hr;clear hl;refine ⟨_,rfl,?_⟩) | (refine CallN.own 2 rfl rfl (Fn.withPan (n3 _ (by assumption))) (fun v h' La hl hr=>?_);obtain ⟨rfl,rfl,rfl⟩:=hr;clear hl;refine ⟨_,rfl,?_⟩) | (refine CallN.own 3 rfl rfl (Fn.withPan (a0 _ (by assumption))) (fun v h' La hl hr=>?_);obtain ⟨rfl,rfl,rfl⟩:=hr;clear hl;refine ⟨_,rfl,?_⟩) | (refine CallN.own 3 rfl rfl (Fn.withPan (a1 _ (by assumption))) (fun v h' La hl hr=>?_);obtain ⟨rfl,rfl,rfl⟩:=hr;clear hl;refine ⟨_,rfl,?_⟩) | (refine CallN.own 3 rfl rfl (Fn.withPan (a2 _ (by assumption))) (fun v h' La hl hr=>?_);obtain ⟨rfl,rfl,rfl⟩:=hr;clear hl;refine ⟨_,rfl,?_⟩) | (refine CallN.par (A:=[_,_,_]) rfl (FnP.withPan (c1 _ (by assumption) (by assumption))) (fun v h' Lp hl hr=>?_) (fun c h' Lp hl hs=>PS.bnd hp hs);obtain ⟨tr2,i2,cs2,v2,G2,rfl,hi2,hc2,rfl,g2,ss2,rfl,hK2⟩:=hr) | refine CallN.quiet rfl (Fn0.withPan (node_ct _ _ _ ss2)) ?_) | ((first | refine opsI.step ?_ | refine codeI.step ?_)) | intro (_:Nat) | refine LdN.own 2 rfl rfl ?_ | (show Sto _ _ _ _;first | refine Sto.lit 0 rfl rfl rfl ?_ | refine Sto.lit 2 rfl rfl rfl ?_)) <;> (conv=>whnf))
  all_goals exact RetN.drop0 (RetN.drop0 (RetN.drop0 (RetN.done ⟨nodeT 12 0 tr2.kids,i2,cs2,v2,G2,(Option.some.inj hp).symm,hi2,hc2,rfl,g2,VE.node (by decide) (by decide) hK2⟩)))
set_option maxRecDepth 20000 in
set_option maxHeartbeats 2000000 in
theorem Patom_sqrt (ts:List Tk) (bp:Nat) (s:Sl) (e:Nat) (h:Heap) (i n:Nat) (cs:List Cn) (v:Value) (G:Own) (r:Pr Tr) (tb:Tb h) (w:Toks h s ts) (hi:i≤ts.length) (hc:cs.length≤i) (g:GrowS Ty.syntax_count 4 v cs.length (cnc cs) G) (ihk:∀k:Nat,k≤3→PC F.psyntax_Parser_kids [.int .i64 k] (.kids k) VK n) (t:Tk) (ht:ts[i]?=some t) (hk:t.kind=0) (hx:t.text=[115,113,114,116]) (hp:(Pr.bnd (pp ts prs n (.kids 1) (i+1) cs) fun e i cs=>some (.ok (nodeT 10 2 e.kids) i cs))=some r):
  FnP T F.psyntax_Parser_atom [.pointer (some ⟨bp,0,none⟩)] h (Pst bp s i e v::G) (PQ ts bp s e VE r) fun c _ _=>PS ts e r c:=by
 have hj:=(List.getElem?_eq_some_iff.1 ht).1
 have n2:=fun h w=>Next_n h bp s ts i e v 2 w hi (nxt_n ht (by omega))
 have n3:=fun h w=>Next_n h bp s ts i e v 3 w hi (nxt_n ht (by omega))
 have a0:=fun h w=>Accept_f h bp s ts i e v [112,105] w hi (by decide) (isAt_n ht (fun q=>absurd (hx.symm.trans q.2) (by decide)))
 have a1:=fun h w=>Accept_f h bp s ts i e v [40] w hi (by decide) (isAt_n ht (fun q=>absurd (hx.symm.trans q.2) (by decide)))
 have a2:=fun h w=>Accept_f h bp s ts i e v [97,98,115] w hi (by decide) (isAt_n ht (fun q=>absurd (hx.symm.trans q.2) (by decide)))
 have a3:=fun h w=>Accept_t h bp s ts i e v [115,113,114,116] w (by decide) (isAt_s ht hk hx)
 cases h1:pp ts prs n (.kids 1) (i+1) cs with
 | none=>rw [h1] at hp;cases hp
 | some r1=>
  rw [h1] at hp
  have c1:=fun h tb w=>ihk 1 (by omega) ts bp s e h (i+1) cs v G r1 tb w (by omega) (by omega) g h1
  refine fnP_of_codeI ok _ D.psyntax_Parser_atom rfl ?_
  conv=>whnf
  repeat ((first | refine opsI.step ?_ | refine codeI.step ?_);conv=>whnf)
  repeat' first | ((first | (show CallN _ _ _ _ _ _;first | (refine CallN.own 1 rfl rfl (Fn.withPan (n2 _ (by assumption))) (fun v h' La hl hr=>?_);obtain ⟨rfl,rfl,rfl⟩:=hr;clear hl;refine ⟨_,rfl,?_⟩) | (refine CallN.own 2 rfl rfl (Fn.withPan (n3 _ (by assumption))) (fun v h' La hl hr=>?_);obtain ⟨rfl,rfl,rfl⟩:=hr;clear hl;refine ⟨_,rfl,?_⟩) | (refine CallN.own 3 rfl rfl (Fn.withPan (a0 _ (by assumption))) (fun v h' La hl hr=>?_);obtain ⟨rfl,rfl,rfl⟩:=hr;clear hl;refine ⟨_,rfl,?_⟩) | (refine CallN.own 3 rfl rfl (Fn.withPan (a1 _ (by assumption))) (fun v h' La hl hr=>?_);obtain ⟨rfl,rfl,rfl⟩:=hr;clear hl;refine ⟨_,rfl,?_⟩) | (refine CallN.own 3 rfl rfl (Fn.withPan (a2 _ (by assumption))) (fun v h' La hl hr=>?_);obtain ⟨rfl,rfl,rfl⟩:=hr;clear hl;refine ⟨_,rfl,?_⟩) | (refine CallN.own 3 rfl rfl (Fn.withPan (a3 _ (by assumption))) (fun v h' La hl hr=>?_);obtain ⟨rfl,rfl,rfl⟩:=hr;clear hl;refine ⟨_,rfl,?_⟩) | (refine CallN.par (A:=[_,_,_]) rfl (FnP.withPan (c1 _ (by assumption) (by assumption))) (fun v h' Lp hl hr=>?_) (fun c h' Lp hl hs=>PS.bnd hp hs);obtain ⟨tr2,i2,cs2,v2,G2,rfl,hi2,hc2,rfl,g2,ss2,rfl,hK2⟩:=hr) | refine CallN.quiet rfl (Fn0.withPan (node_ct _ _ _ ss2)) ?_) | ((first | refine opsI.step ?_ | refine codeI.step ?_)) | intro (_:Nat) | refine LdN.own 2 rfl rfl ?_ | (show Sto _ _ _ _;first | refine Sto.lit 0 rfl rfl rfl ?_ | refine Sto.lit 2 rfl rfl rfl ?_)) <;> (conv=>whnf))
  all_goals exact RetN.drop0 (RetN.drop0 (RetN.drop0 (RetN.done ⟨nodeT 10 2 tr2.kids,i2,cs2,v2,G2,(Option.some.inj hp).symm,hi2,hc2,rfl,g2,VE.node (by decide) (by decide) hK2⟩)))
set_option maxRecDepth 20000 in
set_option maxHeartbeats 2000000 in
theorem Patom_min (ts:List Tk) (bp:Nat) (s:Sl) (e:Nat) (h:Heap) (i n:Nat) (cs:List Cn) (v:Value) (G:Own) (r:Pr Tr) (tb:Tb h) (w:Toks h s ts) (hi:i≤ts.length) (hc:cs.length≤i) (g:GrowS Ty.syntax_count 4 v cs.length (cnc cs) G) (ihk:∀k:Nat,k≤3→PC F.psyntax_Parser_kids [.int .i64 k] (.kids k) VK n) (t:Tk) (ht:ts[i]?=some t) (hk:t.kind=0) (hx:t.text=[109,105,110]) (hp:(Pr.bnd (pp ts prs n (.kids 2) (i+1) cs) fun e i cs=>some (.ok (nodeT 13 0 e.kids) i cs))=some r):
  FnP T F.psyntax_Parser_atom [.pointer (some ⟨bp,0,none⟩)] h (Pst bp s i e v::G) (PQ ts bp s e VE r) fun c _ _=>PS ts e r c:=by
 have hj:=(List.getElem?_eq_some_iff.1 ht).1
 have n2:=fun h w=>Next_n h bp s ts i e v 2 w hi (nxt_n ht (by omega))
 have n3:=fun h w=>Next_n h bp s ts i e v 3 w hi (nxt_n ht (by omega))
 have a0:=fun h w=>Accept_f h bp s ts i e v [112,105] w hi (by decide) (isAt_n ht (fun q=>absurd (hx.symm.trans q.2) (by decide)))
 have a1:=fun h w=>Accept_f h bp s ts i e v [40] w hi (by decide) (isAt_n ht (fun q=>absurd (hx.symm.trans q.2) (by decide)))
 have a2:=fun h w=>Accept_f h bp s ts i e v [97,98,115] w hi (by decide) (isAt_n ht (fun q=>absurd (hx.symm.trans q.2) (by decide)))
 have a3:=fun h w=>Accept_f h bp s ts i e v [115,113,114,116] w hi (by decide) (isAt_n ht (fun q=>absurd (hx.symm.trans q.2) (by decide)))
 have a4:=fun h w=>Accept_t h bp s ts i e v [109,105,110] w (by decide) (isAt_s ht hk hx)
 cases h1:pp ts prs n (.kids 2) (i+1) cs with
 | none=>rw [h1] at hp;cases hp
 | some r1=>
  rw [h1] at hp
  have c1:=fun h tb w=>ihk 2 (by omega) ts bp s e h (i+1) cs v G r1 tb w (by omega) (by omega) g h1
  refine fnP_of_codeI ok _ D.psyntax_Parser_atom rfl ?_
  conv=>whnf
  repeat ((first | refine opsI.step ?_ | refine codeI.step ?_);conv=>whnf)
  repeat' first | ((first | (show CallN _ _ _ _ _ _;first | (refine CallN.own 1 rfl rfl (Fn.withPan (n2 _ (by assumption))) (fun v h' La hl hr=>?_);obtain ⟨rfl,rfl,rfl⟩:=hr;clear hl;refine ⟨_,rfl,?_⟩) | (refine CallN.own 2 rfl rfl (Fn.withPan (n3 _ (by assumption))) (fun v h' La hl hr=>?_);obtain ⟨rfl,rfl,rfl⟩:=hr;clear hl;refine ⟨_,rfl,?_⟩) | (refine CallN.own 3 rfl rfl (Fn.withPan (a0 _ (by assumption))) (fun v h' La hl hr=>?_);obtain ⟨rfl,rfl,rfl⟩:=hr;clear hl;refine ⟨_,rfl,?_⟩) | (refine CallN.own 3 rfl rfl (Fn.withPan (a1 _ (by assumption))) (fun v h' La hl hr=>?_);obtain ⟨rfl,rfl,rfl⟩:=hr;clear hl;refine ⟨_,rfl,?_⟩) | (refine CallN.own 3 rfl rfl (Fn.withPan (a2 _ (by assumption))) (fun v h' La hl hr=>?_);obtain ⟨rfl,rfl,rfl⟩:=hr;clear hl;refine ⟨_,rfl,?_⟩) | (refine CallN.own 3 rfl rfl (Fn.withPan (a3 _ (by assumption))) (fun v h' La hl hr=>?_);obtain ⟨rfl,rfl,rfl⟩:=hr;clear hl;refine ⟨_,rfl,?_⟩) | (refine CallN.own 3 rfl rfl (Fn.withPan (a4 _ (by assumption))) (fun v h' La hl hr=>?_);obtain ⟨rfl,rfl,rfl⟩:=hr;clear hl;refine ⟨_,rfl,?_⟩) | (refine CallN.par (A:=[_,_,_]) rfl (FnP.withPan (c1 _ (by assumption) (by assumption))) (fun v h' Lp hl hr=>?_) (fun c h' Lp hl hs=>PS.bnd hp hs);obtain ⟨tr2,i2,cs2,v2,G2,rfl,hi2,hc2,rfl,g2,ss2,rfl,hK2⟩:=hr) | refine CallN.quiet rfl (Fn0.withPan (node_ct _ _ _ ss2)) ?_) | ((first | refine opsI.step ?_ | refine codeI.step ?_)) | intro (_:Nat) | refine LdN.own 2 rfl rfl ?_ | (show Sto _ _ _ _;first | refine Sto.lit 0 rfl rfl rfl ?_ | refine Sto.lit 2 rfl rfl rfl ?_)) <;> (conv=>whnf))
  all_goals exact RetN.drop0 (RetN.drop0 (RetN.drop0 (RetN.done ⟨nodeT 13 0 tr2.kids,i2,cs2,v2,G2,(Option.some.inj hp).symm,hi2,hc2,rfl,g2,VE.node (by decide) (by decide) hK2⟩)))
set_option maxRecDepth 20000 in
set_option maxHeartbeats 2000000 in
theorem Patom_max (ts:List Tk) (bp:Nat) (s:Sl) (e:Nat) (h:Heap) (i n:Nat) (cs:List Cn) (v:Value) (G:Own) (r:Pr Tr) (tb:Tb h) (w:Toks h s ts) (hi:i≤ts.length) (hc:cs.length≤i) (g:GrowS Ty.syntax_count 4 v cs.length (cnc cs) G) (ihk:∀k:Nat,k≤3→PC F.psyntax_Parser_kids [.int .i64 k] (.kids k) VK n) (t:Tk) (ht:ts[i]?=some t) (hk:t.kind=0) (hx:t.text=[109,97,120]) (hp:(Pr.bnd (pp ts prs n (.kids 2) (i+1) cs) fun e i cs=>some (.ok (nodeT 14 0 e.kids) i cs))=some r):
  FnP T F.psyntax_Parser_atom [.pointer (some ⟨bp,0,none⟩)] h (Pst bp s i e v::G) (PQ ts bp s e VE r) fun c _ _=>PS ts e r c:=by
 have hj:=(List.getElem?_eq_some_iff.1 ht).1
 have n2:=fun h w=>Next_n h bp s ts i e v 2 w hi (nxt_n ht (by omega))
 have n3:=fun h w=>Next_n h bp s ts i e v 3 w hi (nxt_n ht (by omega))
 have a0:=fun h w=>Accept_f h bp s ts i e v [112,105] w hi (by decide) (isAt_n ht (fun q=>absurd (hx.symm.trans q.2) (by decide)))
 have a1:=fun h w=>Accept_f h bp s ts i e v [40] w hi (by decide) (isAt_n ht (fun q=>absurd (hx.symm.trans q.2) (by decide)))
 have a2:=fun h w=>Accept_f h bp s ts i e v [97,98,115] w hi (by decide) (isAt_n ht (fun q=>absurd (hx.symm.trans q.2) (by decide)))
 have a3:=fun h w=>Accept_f h bp s ts i e v [115,113,114,116] w hi (by decide) (isAt_n ht (fun q=>absurd (hx.symm.trans q.2) (by decide)))
 have a4:=fun h w=>Accept_f h bp s ts i e v [109,105,110] w hi (by decide) (isAt_n ht (fun q=>absurd (hx.symm.trans q.2) (by decide)))
 have a5:=fun h w=>Accept_t h bp s ts i e v [109,97,120] w (by decide) (isAt_s ht hk hx)
 cases h1:pp ts prs n (.kids 2) (i+1) cs with
 | none=>rw [h1] at hp;cases hp
 | some r1=>
  rw [h1] at hp
  have c1:=fun h tb w=>ihk 2 (by omega) ts bp s e h (i+1) cs v G r1 tb w (by omega) (by omega) g h1
  refine fnP_of_codeI ok _ D.psyntax_Parser_atom rfl ?_
  conv=>whnf
  repeat ((first | refine opsI.step ?_ | refine codeI.step ?_);conv=>whnf)
  repeat' first | ((first | (show CallN _ _ _ _ _ _;first | (refine CallN.own 1 rfl rfl (Fn.withPan (n2 _ (by assumption))) (fun v h' La hl hr=>?_);obtain ⟨rfl,rfl,rfl⟩:=hr;clear hl;refine ⟨_,rfl,?_⟩) | (refine CallN.own 2 rfl rfl (Fn.withPan (n3 _ (by assumption))) (fun v h' La hl hr=>?_);obtain ⟨rfl,rfl,rfl⟩:=hr;clear hl;refine ⟨_,rfl,?_⟩) | (refine CallN.own 3 rfl rfl (Fn.withPan (a0 _ (by assumption))) (fun v h' La hl hr=>?_);obtain ⟨rfl,rfl,rfl⟩:=hr;clear hl;refine ⟨_,rfl,?_⟩) | (refine CallN.own 3 rfl rfl (Fn.withPan (a1 _ (by assumption))) (fun v h' La hl hr=>?_);obtain ⟨rfl,rfl,rfl⟩:=hr;clear hl;refine ⟨_,rfl,?_⟩) | (refine CallN.own 3 rfl rfl (Fn.withPan (a2 _ (by assumption))) (fun v h' La hl hr=>?_);obtain ⟨rfl,rfl,rfl⟩:=hr;clear hl;refine ⟨_,rfl,?_⟩) | (refine CallN.own 3 rfl rfl (Fn.withPan (a3 _ (by assumption))) (fun v h' La hl hr=>?_);obtain ⟨rfl,rfl,rfl⟩:=hr;clear hl;refine ⟨_,rfl,?_⟩) | (refine CallN.own 3 rfl rfl (Fn.withPan (a4 _ (by assumption))) (fun v h' La hl hr=>?_);obtain ⟨rfl,rfl,rfl⟩:=hr;clear hl;refine ⟨_,rfl,?_⟩) | (refine CallN.own 3 rfl rfl (Fn.withPan (a5 _ (by assumption))) (fun v h' La hl hr=>?_);obtain ⟨rfl,rfl,rfl⟩:=hr;clear hl;refine ⟨_,rfl,?_⟩) | (refine CallN.par (A:=[_,_,_]) rfl (FnP.withPan (c1 _ (by assumption) (by assumption))) (fun v h' Lp hl hr=>?_) (fun c h' Lp hl hs=>PS.bnd hp hs);obtain ⟨tr2,i2,cs2,v2,G2,rfl,hi2,hc2,rfl,g2,ss2,rfl,hK2⟩:=hr) | refine CallN.quiet rfl (Fn0.withPan (node_ct _ _ _ ss2)) ?_) | ((first | refine opsI.step ?_ | refine codeI.step ?_)) | intro (_:Nat) | refine LdN.own 2 rfl rfl ?_ | (show Sto _ _ _ _;first | refine Sto.lit 0 rfl rfl rfl ?_ | refine Sto.lit 2 rfl rfl rfl ?_)) <;> (conv=>whnf))
  all_goals exact RetN.drop0 (RetN.drop0 (RetN.drop0 (RetN.done ⟨nodeT 14 0 tr2.kids,i2,cs2,v2,G2,(Option.some.inj hp).symm,hi2,hc2,rfl,g2,VE.node (by decide) (by decide) hK2⟩)))
set_option maxRecDepth 20000 in
set_option maxHeartbeats 2000000 in
theorem Patom_if (ts:List Tk) (bp:Nat) (s:Sl) (e:Nat) (h:Heap) (i n:Nat) (cs:List Cn) (v:Value) (G:Own) (r:Pr Tr) (tb:Tb h) (w:Toks h s ts) (hi:i≤ts.length) (hc:cs.length≤i) (g:GrowS Ty.syntax_count 4 v cs.length (cnc cs) G) (ihk:∀k:Nat,k≤3→PC F.psyntax_Parser_kids [.int .i64 k] (.kids k) VK n) (t:Tk) (ht:ts[i]?=some t) (hk:t.kind=0) (hx:t.text=[105,102]) (hp:(Pr.bnd (pp ts prs n (.kids 3) (i+1) cs) fun e i cs=>some (.ok (nodeT 15 0 e.kids) i cs))=some r):
  FnP T F.psyntax_Parser_atom [.pointer (some ⟨bp,0,none⟩)] h (Pst bp s i e v::G) (PQ ts bp s e VE r) fun c _ _=>PS ts e r c:=by
 have hj:=(List.getElem?_eq_some_iff.1 ht).1
 have n2:=fun h w=>Next_n h bp s ts i e v 2 w hi (nxt_n ht (by omega))
 have n3:=fun h w=>Next_n h bp s ts i e v 3 w hi (nxt_n ht (by omega))
 have a0:=fun h w=>Accept_f h bp s ts i e v [112,105] w hi (by decide) (isAt_n ht (fun q=>absurd (hx.symm.trans q.2) (by decide)))
 have a1:=fun h w=>Accept_f h bp s ts i e v [40] w hi (by decide) (isAt_n ht (fun q=>absurd (hx.symm.trans q.2) (by decide)))
 have a2:=fun h w=>Accept_f h bp s ts i e v [97,98,115] w hi (by decide) (isAt_n ht (fun q=>absurd (hx.symm.trans q.2) (by decide)))
 have a3:=fun h w=>Accept_f h bp s ts i e v [115,113,114,116] w hi (by decide) (isAt_n ht (fun q=>absurd (hx.symm.trans q.2) (by decide)))
 have a4:=fun h w=>Accept_f h bp s ts i e v [109,105,110] w hi (by decide) (isAt_n ht (fun q=>absurd (hx.symm.trans q.2) (by decide)))
 have a5:=fun h w=>Accept_f h bp s ts i e v [109,97,120] w hi (by decide) (isAt_n ht (fun q=>absurd (hx.symm.trans q.2) (by decide)))
 have a6:=fun h w=>Accept_t h bp s ts i e v [105,102] w (by decide) (isAt_s ht hk hx)
 cases h1:pp ts prs n (.kids 3) (i+1) cs with
 | none=>rw [h1] at hp;cases hp
 | some r1=>
  rw [h1] at hp
  have c1:=fun h tb w=>ihk 3 (by omega) ts bp s e h (i+1) cs v G r1 tb w (by omega) (by omega) g h1
  refine fnP_of_codeI ok _ D.psyntax_Parser_atom rfl ?_
  conv=>whnf
  repeat ((first | refine opsI.step ?_ | refine codeI.step ?_);conv=>whnf)
  repeat' first | ((first | (show CallN _ _ _ _ _ _;first | (refine CallN.own 1 rfl rfl (Fn.withPan (n2 _ (by assumption))) (fun v h' La hl hr=>?_);obtain ⟨rfl,rfl,rfl⟩:=hr;clear hl;refine ⟨_,rfl,?_⟩) | (refine CallN.own 2 rfl rfl (Fn.withPan (n3 _ (by assumption))) (fun v h' La hl hr=>?_);obtain ⟨rfl,rfl,rfl⟩:=hr;clear hl;refine ⟨_,rfl,?_⟩) | (refine CallN.own 3 rfl rfl (Fn.withPan (a0 _ (by assumption))) (fun v h' La hl hr=>?_);obtain ⟨rfl,rfl,rfl⟩:=hr;clear hl;refine ⟨_,rfl,?_⟩) | (refine CallN.own 3 rfl rfl (Fn.withPan (a1 _ (by assumption))) (fun v h' La hl hr=>?_);obtain ⟨rfl,rfl,rfl⟩:=hr;clear hl;refine ⟨_,rfl,?_⟩) | (refine CallN.own 3 rfl rfl (Fn.withPan (a2 _ (by assumption))) (fun v h' La hl hr=>?_);obtain ⟨rfl,rfl,rfl⟩:=hr;clear hl;refine ⟨_,rfl,?_⟩) | (refine CallN.own 3 rfl rfl (Fn.withPan (a3 _ (by assumption))) (fun v h' La hl hr=>?_);obtain ⟨rfl,rfl,rfl⟩:=hr;clear hl;refine ⟨_,rfl,?_⟩) | (refine CallN.own 3 rfl rfl (Fn.withPan (a4 _ (by assumption))) (fun v h' La hl hr=>?_);obtain ⟨rfl,rfl,rfl⟩:=hr;clear hl;refine ⟨_,rfl,?_⟩) | (refine CallN.own 3 rfl rfl (Fn.withPan (a5 _ (by assumption))) (fun v h' La hl hr=>?_);obtain ⟨rfl,rfl,rfl⟩:=hr;clear hl;refine ⟨_,rfl,?_⟩) | (refine CallN.own 3 rfl rfl (Fn.withPan (a6 _ (by assumption))) (fun v h' La hl hr=>?_);obtain ⟨rfl,rfl,rfl⟩:=hr;clear hl;refine ⟨_,rfl,?_⟩) | (refine CallN.par (A:=[_,_,_]) rfl (FnP.withPan (c1 _ (by assumption) (by assumption))) (fun v h' Lp hl hr=>?_) (fun c h' Lp hl hs=>PS.bnd hp hs);obtain ⟨tr2,i2,cs2,v2,G2,rfl,hi2,hc2,rfl,g2,ss2,rfl,hK2⟩:=hr) | refine CallN.quiet rfl (Fn0.withPan (node_ct _ _ _ ss2)) ?_) | ((first | refine opsI.step ?_ | refine codeI.step ?_)) | intro (_:Nat) | refine LdN.own 2 rfl rfl ?_ | (show Sto _ _ _ _;first | refine Sto.lit 0 rfl rfl rfl ?_ | refine Sto.lit 2 rfl rfl rfl ?_)) <;> (conv=>whnf))
  all_goals exact RetN.drop0 (RetN.drop0 (RetN.drop0 (RetN.done ⟨nodeT 15 0 tr2.kids,i2,cs2,v2,G2,(Option.some.inj hp).symm,hi2,hc2,rfl,g2,VE.node (by decide) (by decide) hK2⟩)))
set_option maxRecDepth 20000 in
set_option maxHeartbeats 2000000 in
theorem Patom_root (ts:List Tk) (bp:Nat) (s:Sl) (e:Nat) (h:Heap) (i n:Nat) (cs:List Cn) (v:Value) (G:Own) (r:Pr Tr) (tb:Tb h) (w:Toks h s ts) (hi:i≤ts.length) (hc:cs.length≤i) (g:GrowS Ty.syntax_count 4 v cs.length (cnc cs) G) (ihe:PC F.psyntax_Parser_Expr [] .sum VE n) (t:Tk) (ht:ts[i]?=some t) (hk:t.kind=0) (hx:t.text=[114,111,111,116]) (hp:(Pr.bnd (wantP ts [40] (i+1) cs) fun _ i cs=>Pr.bnd (some (cntP ts 2 8 i cs)) fun k i cs=>Pr.bnd (wantP ts [44] i cs) fun _ i cs=>Pr.bnd (pp ts prs n .sum i cs) fun e i cs=>Pr.bnd (wantP ts [41] i cs) fun _ i cs=>some (.ok (nodeT 10 k [e]) i cs))=some r):
  FnP T F.psyntax_Parser_atom [.pointer (some ⟨bp,0,none⟩)] h (Pst bp s i e v::G) (PQ ts bp s e VE r) fun c _ _=>PS ts e r c:=by
 have hj:=(List.getElem?_eq_some_iff.1 ht).1
 have n2:=fun h w=>Next_n h bp s ts i e v 2 w hi (nxt_n ht (by omega))
 have n3:=fun h w=>Next_n h bp s ts i e v 3 w hi (nxt_n ht (by omega))
 have a0:=fun h w=>Accept_f h bp s ts i e v [112,105] w hi (by decide) (isAt_n ht (fun q=>absurd (hx.symm.trans q.2) (by decide)))
 have a1:=fun h w=>Accept_f h bp s ts i e v [40] w hi (by decide) (isAt_n ht (fun q=>absurd (hx.symm.trans q.2) (by decide)))
 have a2:=fun h w=>Accept_f h bp s ts i e v [97,98,115] w hi (by decide) (isAt_n ht (fun q=>absurd (hx.symm.trans q.2) (by decide)))
 have a3:=fun h w=>Accept_f h bp s ts i e v [115,113,114,116] w hi (by decide) (isAt_n ht (fun q=>absurd (hx.symm.trans q.2) (by decide)))
 have a4:=fun h w=>Accept_f h bp s ts i e v [109,105,110] w hi (by decide) (isAt_n ht (fun q=>absurd (hx.symm.trans q.2) (by decide)))
 have a5:=fun h w=>Accept_f h bp s ts i e v [109,97,120] w hi (by decide) (isAt_n ht (fun q=>absurd (hx.symm.trans q.2) (by decide)))
 have a6:=fun h w=>Accept_f h bp s ts i e v [105,102] w hi (by decide) (isAt_n ht (fun q=>absurd (hx.symm.trans q.2) (by decide)))
 have a7:=fun h w=>Accept_t h bp s ts i e v [114,111,111,116] w (by decide) (isAt_s ht hk hx)
 have w1:=fun h w=>Want_ct h bp s ts (i+1) e v [40] w (by omega) (by decide)
 refine fnP_of_codeI ok _ D.psyntax_Parser_atom rfl ?_
 conv=>whnf
 repeat ((first | refine opsI.step ?_ | refine codeI.step ?_);conv=>whnf)
 repeat' first | ((first | (show CallN _ _ _ _ _ _;first | (refine CallN.own 1 rfl rfl (Fn.withPan (n2 _ (by assumption))) (fun v h' La hl hr=>?_);obtain ⟨rfl,rfl,rfl⟩:=hr;clear hl;refine ⟨_,rfl,?_⟩) | (refine CallN.own 2 rfl rfl (Fn.withPan (n3 _ (by assumption))) (fun v h' La hl hr=>?_);obtain ⟨rfl,rfl,rfl⟩:=hr;clear hl;refine ⟨_,rfl,?_⟩) | (refine CallN.own 3 rfl rfl (Fn.withPan (a0 _ (by assumption))) (fun v h' La hl hr=>?_);obtain ⟨rfl,rfl,rfl⟩:=hr;clear hl;refine ⟨_,rfl,?_⟩) | (refine CallN.own 3 rfl rfl (Fn.withPan (a1 _ (by assumption))) (fun v h' La hl hr=>?_);obtain ⟨rfl,rfl,rfl⟩:=hr;clear hl;refine ⟨_,rfl,?_⟩) | (refine CallN.own 3 rfl rfl (Fn.withPan (a2 _ (by assumption))) (fun v h' La hl hr=>?_);obtain ⟨rfl,rfl,rfl⟩:=hr;clear hl;refine ⟨_,rfl,?_⟩) | (refine CallN.own 3 rfl rfl (Fn.withPan (a3 _ (by assumption))) (fun v h' La hl hr=>?_);obtain ⟨rfl,rfl,rfl⟩:=hr;clear hl;refine ⟨_,rfl,?_⟩) | (refine CallN.own 3 rfl rfl (Fn.withPan (a4 _ (by assumption))) (fun v h' La hl hr=>?_);obtain ⟨rfl,rfl,rfl⟩:=hr;clear hl;refine ⟨_,rfl,?_⟩) | (refine CallN.own 3 rfl rfl (Fn.withPan (a5 _ (by assumption))) (fun v h' La hl hr=>?_);obtain ⟨rfl,rfl,rfl⟩:=hr;clear hl;refine ⟨_,rfl,?_⟩) | (refine CallN.own 3 rfl rfl (Fn.withPan (a6 _ (by assumption))) (fun v h' La hl hr=>?_);obtain ⟨rfl,rfl,rfl⟩:=hr;clear hl;refine ⟨_,rfl,?_⟩) | (refine CallN.own 3 rfl rfl (Fn.withPan (a7 _ (by assumption))) (fun v h' La hl hr=>?_);obtain ⟨rfl,rfl,rfl⟩:=hr;clear hl;refine ⟨_,rfl,?_⟩) | (refine CallN.par2 (A:=[_,_,_]) (B:=G) rfl (FnP.withPan (w1 _ (by assumption))) (fun v h' Lp hl hr=>?_) (fun c h' Lp hl hs=>PS.want hp hs);obtain ⟨rfl,hq,rfl,rfl⟩:=hr;clear hl)) | ((first | refine opsI.step ?_ | refine codeI.step ?_)) | intro (_:Nat) | refine Sto.lit 0 rfl rfl rfl ?_) <;> (conv=>whnf))
 replace hp:=want_t hq hp
 have hj2:=isAt_lt hq
 clear hq w1
 have c2:=fun h w=>Count_ct h bp s ts (i+2) e v cs G 2 8 w (by omega) g (by omega) (by omega)
 repeat' first | ((first | (show CallN _ _ _ _ _ _;(refine CallN.par (A:=[_,_,_]) rfl (FnP.withPan (c2 _ (by assumption))) (fun v h' Lp hl hr=>?_) (fun c h' Lp hl hs=>PS.bnd hp ⟨_,hs⟩);obtain ⟨rfl,k,cs3,v3,G3,e3,hi3,hl3,rfl,g3,rfl,hk⟩:=hr;clear hl)) | ((first | refine opsI.step ?_ | refine codeI.step ?_))) <;> (conv=>whnf))
 clear c2
 rw [e3] at hp
 replace hp:=(show Pr.bnd (wantP ts [44] (i+3) cs3) _=some r from hp)
 have w1:=fun h w=>Want_ct h bp s ts (i+3) e v3 [44] w (by omega) (by decide)
 repeat' first | ((first | (show CallN _ _ _ _ _ _;(refine CallN.par2 (A:=[_,_,_]) (B:=G3) rfl (FnP.withPan (w1 _ (by assumption))) (fun v h' Lp hl hr=>?_) (fun c h' Lp hl hs=>PS.want hp hs);obtain ⟨rfl,hq,rfl,rfl⟩:=hr;clear hl)) | ((first | refine opsI.step ?_ | refine codeI.step ?_))) <;> (conv=>whnf))
 replace hp:=want_t hq hp
 have hj3:=isAt_lt hq
 clear hq w1
 cases h1:pp ts prs n .sum (i+3+1) cs3 with
 | none=>rw [h1] at hp;cases hp
 | some r1=>
  rw [h1] at hp
  have c1:=fun h tb w=>ihe ts bp s e h (i+3+1) cs3 v3 G3 r1 tb w (by omega) (by omega) g3 h1
  repeat' first | ((first | (show CallN _ _ _ _ _ _;(refine CallN.par (A:=[_,_,_]) rfl (FnP.withPan (c1 _ (by assumption) (by assumption))) (fun v h' Lp hl hr=>?_) (fun c h' Lp hl hs=>PS.bnd hp hs);obtain ⟨tr2,i2,cs2,v2,G2,rfl,hi2,hc2,rfl,g2,hv2⟩:=hr;obtain ⟨op2,ar2,ng2,nn2,dd2,nm2,ss2,rfl,hE2⟩:=hv2)) | ((first | refine opsI.step ?_ | refine codeI.step ?_)) | intro (_:Nat) | refine Sto.lit 0 rfl rfl rfl ?_) <;> (conv=>whnf))
  replace hp:Pr.bnd (wantP ts [41] i2 cs2) (fun _ i cs=>some (.ok (nodeT 10 k [tr2]) i cs))=some r:=hp
  have w1:=fun h w=>Want_ct h bp s ts i2 e v2 [41] w hi2 (by decide)
  repeat' first | ((first | (show CallN _ _ _ _ _ _;first | (refine CallN.par2 (A:=[_,_,_,_]) (B:=G2) rfl (FnP.withPan (w1 _ (by (iterate 30 (try first | assumption | refine Toks.mono ?_ (by assumption)));first | done | assumption))) (fun v h' Lp hl hr=>?_) (fun c h' Lp hl hs=>PS.want hp hs);obtain ⟨rfl,hq,rfl,rfl⟩:=hr;clear hl) | (refine CallN.keep 0 rfl rfl fun hle=>?_;refine CallN.quiet rfl (Fn0.withPan (nodeS_ct _ _ _ _ _ _)) ?_)) | ((first | refine opsI.step ?_ | refine codeI.step ?_)) | intro (_:Nat) | (show LdN _ _ _ _ _;first | refine LdN.own 0 rfl rfl ?_ | refine LdN.own 3 rfl rfl ?_) | refine Sto.lit 3 rfl rfl rfl ?_) <;> (conv=>whnf))
  replace hp:=want_t hq hp
  have hj4:=isAt_lt hq
  exact RetN.drop0 (RetN.drop0 (RetN.drop0 (RetN.drop0 (RetN.done ⟨nodeT 10 k [tr2],i2+1,cs2,v2,G2,(Option.some.inj hp).symm,by omega,by omega,rfl,g2,VE.node (by decide) (by omega) (IsK.one hE2 rfl hle)⟩))))
end Go.Proofs.YtbgicephinomlaaGreatDoor