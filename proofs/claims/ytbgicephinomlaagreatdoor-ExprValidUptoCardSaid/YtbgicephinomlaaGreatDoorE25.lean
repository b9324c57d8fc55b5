/- The text of a tree, written to a builder. -/
import Derived.Test.YtbgicephinomlaaGreatDoorE23
set_option linter.unusedVariables false
set_option linter.unusedSimpArgs false
namespace Go.Proofs.YtbgicephinomlaaGreatDoor
open Go Go.Vc Go.Dig
def WriteP (t:Tr):Prop:=∀(h:Heap) (vs:List Value) (b:Nat) (x:List Nat) (L:Own),Tb h→Pw h→IsE h vs t→Bld b x L→x.length+(textT t).length≤500000000→
 Vc.Fn T F.expr_write [.pointer (some ⟨b,0,none⟩),.agg vs.toArray] h L fun r h' L'=>Bld b (x++textT t) L'∧r=.tuple #[]
attribute [local irreducible] Vc.Fn
set_option maxRecDepth 20000 in
set_option maxHeartbeats 2000000 in
theorem place_ct {t:Tr} (hw:WriteP t) (h:Heap) (op arg:Int) (neg:Bool) (a b':Sl) (name:List Nat) (s:Sl) (b:Nat) (x:List Nat) (L:Own) (low:Int) (tb:Tb h) (pw:Pw h)
  (w:IsE h [.int .i64 op,.int .i64 arg,.bool neg,a.val,b'.val,.string (txt name),s.val] t) (hB:Bld b x L) (hl:x.length+(placeX (textT t,levT t.op) low).length≤500000000):
  Vc.Fn T F.expr_place [.pointer (some ⟨b,0,none⟩),.agg #[.int .i64 op,.int .i64 arg,.bool neg,a.val,b'.val,.string (txt name),s.val],.int .i64 low] h L fun r h' L'=>Bld b (x++placeX (textT t,levT t.op) low) L'∧r=.tuple #[]:=by
 have hop:t.op=op:=by
  obtain ⟨o,ar,n,l,m,nm,ks⟩:=t
  rw [IsE] at w
  obtain ⟨_,_,_,e,-⟩:=w
  injection e with e1 _
  injection e1 with _ e2
  exact e2.symm
 rw [hop] at hl ⊢
 have c0:=fun h=>level_ct h op
 obtain ⟨K,hK⟩:∃K,K=levT op:=⟨_,rfl⟩
 rw [← hK] at c0 hl ⊢
 have p1:low≤K→placeX (textT t,K) low=textT t:=fun y=>if_pos y
 have p2:¬low≤K→placeX (textT t,K) low=[40]++textT t++[41]:=fun y=>if_neg y
 obtain ⟨P,hP⟩:∃P,P=placeX (textT t,K) low:=⟨_,rfl⟩
 rw [← hP] at p1 p2 hl ⊢
 clear hP
 refine fn_of_codeI ok D.expr_place rfl ?_
 conv=>whnf
 repeat ((first | refine opsI.step ?_ | refine codeI.step ?_);conv=>whnf)
 repeat' first | ((first | (show CallN _ _ _ _ _ _;refine CallN.quiet rfl (c0 _) ?_) | ((first | refine opsI.step ?_ | refine codeI.step ?_)) | intro (_:Nat) | refine LdN.own 0 rfl rfl ?_ | refine Ld.own 0 rfl rfl ?_) <;> (conv=>whnf)) | (refine cnd_le (fun _=>?_) (fun _=>?_) <;> first | (exfalso;omega) | (conv=>whnf))
 ·rw [p1 (by omega)] at hl ⊢
  refine CallN.all (A:=[_]) rfl (hw _ _ b x _ tb pw w hB (by omega)) (fun v h' Lp hl hr=>?_)
  obtain ⟨hB1,rfl⟩:=hr
  conv=>whnf
  repeat' first | (((first | refine opsI.step ?_ | refine codeI.step ?_)) <;> (conv=>whnf))
  exact RetN.drop0 (RetN.done ⟨hB1,rfl⟩)
 ·rw [p2 (by omega)] at hl ⊢
  simp only [List.length_append,List.length_cons,List.length_nil] at hl
  refine CallN.all (A:=[_]) rfl (WriteString_ct _ b x [40] _ hB (by decide) (by decide) (by simp only [List.length_cons,List.length_nil];omega)) (fun v h' Lp hl hr=>?_)
  obtain ⟨rfl,hB1,n1,e1,rfl⟩:=hr
  conv=>whnf
  repeat' first | ((first | ((first | refine opsI.step ?_ | refine codeI.step ?_)) | refine LdN.own 0 rfl rfl ?_) <;> (conv=>whnf))
  refine CallN.all (A:=[_]) rfl (hw _ _ b _ _ tb pw w hB1 (by simp only [List.length_append,List.length_cons,List.length_nil];omega)) (fun v h' Lp hl hr=>?_)
  obtain ⟨hB2,rfl⟩:=hr
  conv=>whnf
  repeat' first | (((first | refine opsI.step ?_ | refine codeI.step ?_)) <;> (conv=>whnf))
  refine CallN.all (A:=[_]) rfl (WriteString_ct _ b _ [41] _ hB2 (by decide) (by decide) (by simp only [List.length_append,List.length_cons,List.length_nil];omega)) (fun v h' Lp hl hr=>?_)
  obtain ⟨rfl,hB3,n2,e2,rfl⟩:=hr
  conv=>whnf
  repeat' first | (((first | refine opsI.step ?_ | refine codeI.step ?_)) <;> (conv=>whnf))
  refine RetN.drop0 (RetN.done ⟨?_,rfl⟩)
  simpa [List.append_assoc] using hB3
set_option maxRecDepth 20000 in
set_option maxHeartbeats 2000000 in
theorem infix_5 {t0 t1:Tr} {ks:List Tr} (hks:ks=[t0,t1]) (hw0:WriteP t0) (hw1:WriteP t1) (h:Heap) (arg:Int) (neg:Bool) (a b':Sl) (name:List Nat) (s:Sl) (bb:Nat) (x:List Nat) (L:Own) (low high:Int) (tb:Tb h) (pw:Pw h)
  (hk:IsK h s ks) (hB:Bld bb x L) (hl:x.length+(placeX (textT t0,levT t0.op) low).length+3+(placeX (textT t1,levT t1.op) high).length≤500000000):
  Vc.Fn T F.expr_infix [.pointer (some ⟨bb,0,none⟩),.agg #[.int .i64 5,.int .i64 arg,.bool neg,a.val,b'.val,.string (txt name),s.val],.int .i64 low,.int .i64 high] h L
   fun r h' L'=>Bld bb (x++(placeX (textT t0,levT t0.op) low++[32,43,32]++placeX (textT t1,levT t1.op) high)) L'∧r=.tuple #[]:=by
 have hl2:=hk.len
 have hks2:ks.length=2:=by rw [hks];rfl
 have ht0:ks[0]?=some t0:=by rw [hks];rfl
 have ht1:ks[1]?=some t1:=by rw [hks];rfl
 refine fn_of_codeI ok D.expr_infix rfl ?_
 conv=>whnf
 repeat ((first | refine opsI.step ?_ | refine codeI.step ?_);conv=>whnf)
 repeat' first | ((first | (show Ext _ _ _ _ _ _ _;first | refine Ext.makeMap (fun bm=>?_) | refine Ext.mapNew 0 (.inl rfl) rfl rfl rfl rfl rfl ?_) | (show Idx _ _ _ _ _;refine Idx.kid hk 0 t0 (by omega) ht0 (fun ad op arg neg a b name s' hE hld=>?_)) | refine hld _ _ _ (Heap.le_refl _) ?_ | ((first | refine opsI.step ?_ | refine codeI.step ?_)) | intro (_:Nat) | refine Ld.own 1 rfl rfl ?_) <;> (conv=>whnf))
 refine CallN.all (A:=[_,_]) rfl (place_ct hw0 _ _ _ _ _ _ _ _ bb x _ _ tb pw (by assumption) hB (by omega)) (fun v h1 Lp hl1 hr=>?_)
 obtain ⟨hB1,rfl⟩:=hr
 conv=>whnf
 repeat' first | ((first | (show Ext _ _ _ _ _ _ _;refine Ext.mapGet 0 rfl rfl rfl rfl rfl ?_) | ((first | refine opsI.step ?_ | refine codeI.step ?_)) | refine Ld.own 1 rfl rfl ?_) <;> (conv=>whnf))
 refine CallN.all (A:=[_,_]) rfl (WriteString_ct _ bb _ [32,43,32] _ hB1 (by decide) (by decide) (by simp only [List.length_append,List.length_cons,List.length_nil];omega)) (fun v h2 Lp hl2' hr=>?_)
 obtain ⟨rfl,hB2,n1,e1,rfl⟩:=hr
 have hk2:=hk.mono hl1
 conv=>whnf
 repeat' first | ((first | (show Idx _ _ _ _ _;refine Idx.kid hk2 1 t1 (by omega) ht1 (fun ad op arg neg a b name s' hE1 hld1=>?_)) | refine hld1 _ _ _ (Heap.le_refl _) ?_ | ((first | refine opsI.step ?_ | refine codeI.step ?_)) | refine Ld.own 1 rfl rfl ?_) <;> (conv=>whnf))
 refine CallN.all (A:=[_,_]) rfl (place_ct hw1 _ _ _ _ _ _ _ _ bb _ _ _ (tb.mono hl1) (pw.mono hl1) hE1 hB2 (by simp only [List.length_append,List.length_cons,List.length_nil];omega)) (fun v h3 Lp hl3 hr=>?_)
 obtain ⟨hB3,rfl⟩:=hr
 conv=>whnf
 repeat' first | (((first | refine opsI.step ?_ | refine codeI.step ?_)) <;> (conv=>whnf))
 refine RetN.drop0 (RetN.drop0 (RetN.done ⟨?_,rfl⟩))
 rw [List.append_assoc,List.append_assoc] at hB3
 rw [List.append_assoc];exact hB3
set_option maxRecDepth 20000 in
set_option maxHeartbeats 2000000 in
theorem infix_6 {t0 t1:Tr} {ks:List Tr} (hks:ks=[t0,t1]) (hw0:WriteP t0) (hw1:WriteP t1) (h:Heap) (arg:Int) (neg:Bool) (a b':Sl) (name:List Nat) (s:Sl) (bb:Nat) (x:List Nat) (L:Own) (low high:Int) (tb:Tb h) (pw:Pw h)
  (hk:IsK h s ks) (hB:Bld bb x L) (hl:x.length+(placeX (textT t0,levT t0.op) low).length+3+(placeX (textT t1,levT t1.op) high).length≤500000000):
  Vc.Fn T F.expr_infix [.pointer (some ⟨bb,0,none⟩),.agg #[.int .i64 6,.int .i64 arg,.bool neg,a.val,b'.val,.string (txt name),s.val],.int .i64 low,.int .i64 high] h L
   fun r h' L'=>Bld bb (x++(placeX (textT t0,levT t0.op) low++[32,45,32]++placeX (textT t1,levT t1.op) high)) L'∧r=.tuple #[]:=by
 have hl2:=hk.len
 have hks2:ks.length=2:=by rw [hks];rfl
 have ht0:ks[0]?=some t0:=by rw [hks];rfl
 have ht1:ks[1]?=some t1:=by rw [hks];rfl
 refine fn_of_codeI ok D.expr_infix rfl ?_
 conv=>whnf
 repeat ((first | refine opsI.step ?_ | refine codeI.step ?_);conv=>whnf)
 repeat' first | ((first | (show Ext _ _ _ _ _ _ _;first | refine Ext.makeMap (fun bm=>?_) | refine Ext.mapNew 0 (.inl rfl) rfl rfl rfl rfl rfl ?_) | (show Idx _ _ _ _ _;refine Idx.kid hk 0 t0 (by omega) ht0 (fun ad op arg neg a b name s' hE hld=>?_)) | refine hld _ _ _ (Heap.le_refl _) ?_ | ((first | refine opsI.step ?_ | refine codeI.step ?_)) | intro (_:Nat) | refine Ld.own 1 rfl rfl ?_) <;> (conv=>whnf))
 refine CallN.all (A:=[_,_]) rfl (place_ct hw0 _ _ _ _ _ _ _ _ bb x _ _ tb pw (by assumption) hB (by omega)) (fun v h1 Lp hl1 hr=>?_)
 obtain ⟨hB1,rfl⟩:=hr
 conv=>whnf
 repeat' first | ((first | (show Ext _ _ _ _ _ _ _;refine Ext.mapGet 0 rfl rfl rfl rfl rfl ?_) | ((first | refine opsI.step ?_ | refine codeI.step ?_)) | refine Ld.own 1 rfl rfl ?_) <;> (conv=>whnf))
 refine CallN.all (A:=[_,_]) rfl (WriteString_ct _ bb _ [32,45,32] _ hB1 (by decide) (by decide) (by simp only [List.length_append,List.length_cons,List.length_nil];omega)) (fun v h2 Lp hl2' hr=>?_)
 obtain ⟨rfl,hB2,n1,e1,rfl⟩:=hr
 have hk2:=hk.mono hl1
 conv=>whnf
 repeat' first | ((first | (show Idx _ _ _ _ _;refine Idx.kid hk2 1 t1 (by omega) ht1 (fun ad op arg neg a b name s' hE1 hld1=>?_)) | refine hld1 _ _ _ (Heap.le_refl _) ?_ | ((first | refine opsI.step ?_ | refine codeI.step ?_)) | refine Ld.own 1 rfl rfl ?_) <;> (conv=>whnf))
 refine CallN.all (A:=[_,_]) rfl (place_ct hw1 _ _ _ _ _ _ _ _ bb _ _ _ (tb.mono hl1) (pw.mono hl1) hE1 hB2 (by simp only [List.length_append,List.length_cons,List.length_nil];omega)) (fun v h3 Lp hl3 hr=>?_)
 obtain ⟨hB3,rfl⟩:=hr
 conv=>whnf
 repeat' first | (((first | refine opsI.step ?_ | refine codeI.step ?_)) <;> (conv=>whnf))
 refine RetN.drop0 (RetN.drop0 (RetN.done ⟨?_,rfl⟩))
 rw [List.append_assoc,List.append_assoc] at hB3
 rw [List.append_assoc];exact hB3
set_option maxRecDepth 20000 in
set_option maxHeartbeats 2000000 in
theorem infix_7 {t0 t1:Tr} {ks:List Tr} (hks:ks=[t0,t1]) (hw0:WriteP t0) (hw1:WriteP t1) (h:Heap) (arg:Int) (neg:Bool) (a b':Sl) (name:List Nat) (s:Sl) (bb:Nat) (x:List Nat) (L:Own) (low high:Int) (tb:Tb h) (pw:Pw h)
  (hk:IsK h s ks) (hB:Bld bb x L) (hl:x.length+(placeX (textT t0,levT t0.op) low).length+3+(placeX (textT t1,levT t1.op) high).length≤500000000):
  Vc.Fn T F.expr_infix [.pointer (some ⟨bb,0,none⟩),.agg #[.int .i64 7,.int .i64 arg,.bool neg,a.val,b'.val,.string (txt name),s.val],.int .i64 low,.int .i64 high] h L
   fun r h' L'=>Bld bb (x++(placeX (textT t0,levT t0.op) low++[32,42,32]++placeX (textT t1,levT t1.op) high)) L'∧r=.tuple #[]:=by
 have hl2:=hk.len
 have hks2:ks.length=2:=by rw [hks];rfl
 have ht0:ks[0]?=some t0:=by rw [hks];rfl
 have ht1:ks[1]?=some t1:=by rw [hks];rfl
 refine fn_of_codeI ok D.expr_infix rfl ?_
 conv=>whnf
 repeat ((first | refine opsI.step ?_ | refine codeI.step ?_);conv=>whnf)
 repeat' first | ((first | (show Ext _ _ _ _ _ _ _;first | refine Ext.makeMap (fun bm=>?_) | refine Ext.mapNew 0 (.inl rfl) rfl rfl rfl rfl rfl ?_) | (show Idx _ _ _ _ _;refine Idx.kid hk 0 t0 (by omega) ht0 (fun ad op arg neg a b name s' hE hld=>?_)) | refine hld _ _ _ (Heap.le_refl _) ?_ | ((first | refine opsI.step ?_ | refine codeI.step ?_)) | intro (_:Nat) | refine Ld.own 1 rfl rfl ?_) <;> (conv=>whnf))
 refine CallN.all (A:=[_,_]) rfl (place_ct hw0 _ _ _ _ _ _ _ _ bb x _ _ tb pw (by assumption) hB (by omega)) (fun v h1 Lp hl1 hr=>?_)
 obtain ⟨hB1,rfl⟩:=hr
 conv=>whnf
 repeat' first | ((first | (show Ext _ _ _ _ _ _ _;refine Ext.mapGet 0 rfl rfl rfl rfl rfl ?_) | ((first | refine opsI.step ?_ | refine codeI.step ?_)) | refine Ld.own 1 rfl rfl ?_) <;> (conv=>whnf))
 refine CallN.all (A:=[_,_]) rfl (WriteString_ct _ bb _ [32,42,32] _ hB1 (by decide) (by decide) (by simp only [List.length_append,List.length_cons,List.length_nil];omega)) (fun v h2 Lp hl2' hr=>?_)
 obtain ⟨rfl,hB2,n1,e1,rfl⟩:=hr
 have hk2:=hk.mono hl1
 conv=>whnf
 repeat' first | ((first | (show Idx _ _ _ _ _;refine Idx.kid hk2 1 t1 (by omega) ht1 (fun ad op arg neg a b name s' hE1 hld1=>?_)) | refine hld1 _ _ _ (Heap.le_refl _) ?_ | ((first | refine opsI.step ?_ | refine codeI.step ?_)) | refine Ld.own 1 rfl rfl ?_) <;> (conv=>whnf))
 refine CallN.all (A:=[_,_]) rfl (place_ct hw1 _ _ _ _ _ _ _ _ bb _ _ _ (tb.mono hl1) (pw.mono hl1) hE1 hB2 (by simp only [List.length_append,List.length_cons,List.length_nil];omega)) (fun v h3 Lp hl3 hr=>?_)
 obtain ⟨hB3,rfl⟩:=hr
 conv=>whnf
 repeat' first | (((first | refine opsI.step ?_ | refine codeI.step ?_)) <;> (conv=>whnf))
 refine RetN.drop0 (RetN.drop0 (RetN.done ⟨?_,rfl⟩))
 rw [List.append_assoc,List.append_assoc] at hB3
 rw [List.append_assoc];exact hB3
set_option maxRecDepth 20000 in
set_option maxHeartbeats 2000000 in
theorem infix_8 {t0 t1:Tr} {ks:List Tr} (hks:ks=[t0,t1]) (hw0:WriteP t0) (hw1:WriteP t1) (h:Heap) (arg:Int) (neg:Bool) (a b':Sl) (name:List Nat) (s:Sl) (bb:Nat) (x:List Nat) (L:Own) (low high:Int) (tb:Tb h) (pw:Pw h)
  (hk:IsK h s ks) (hB:Bld bb x L) (hl:x.length+(placeX (textT t0,levT t0.op) low).length+3+(placeX (textT t1,levT t1.op) high).length≤500000000):
  Vc.Fn T F.expr_infix [.pointer (some ⟨bb,0,none⟩),.agg #[.int .i64 8,.int .i64 arg,.bool neg,a.val,b'.val,.string (txt name),s.val],.int .i64 low,.int .i64 high] h L
   fun r h' L'=>Bld bb (x++(placeX (textT t0,levT t0.op) low++[32,47,32]++placeX (textT t1,levT t1.op) high)) L'∧r=.tuple #[]:=by
 have hl2:=hk.len
 have hks2:ks.length=2:=by rw [hks];rfl
 have ht0:ks[0]?=some t0:=by rw [hks];rfl
 have ht1:ks[1]?=some t1:=by rw [hks];rfl
 refine fn_of_codeI ok D.expr_infix rfl ?_
 conv=>whnf
 repeat ((first | refine opsI.step ?_ | refine codeI.step ?_);conv=>whnf)
 repeat' first | ((first | (show Ext _ _ _ _ _ _ _;first | refine Ext.makeMap (fun bm=>?_) | refine Ext.mapNew 0 (.inl rfl) rfl rfl rfl rfl rfl ?_) | (show Idx _ _ _ _ _;refine Idx.kid hk 0 t0 (by omega) ht0 (fun ad op arg neg a b name s' hE hld=>?_)) | refine hld _ _ _ (Heap.le_refl _) ?_ | ((first | refine opsI.step ?_ | refine codeI.step ?_)) | intro (_:Nat) | refine Ld.own 1 rfl rfl ?_) <;> (conv=>whnf))
 refine CallN.all (A:=[_,_]) rfl (place_ct hw0 _ _ _ _ _ _ _ _ bb x _ _ tb pw (by assumption) hB (by omega)) (fun v h1 Lp hl1 hr=>?_)
 obtain ⟨hB1,rfl⟩:=hr
 conv=>whnf
 repeat' first | ((first | (show Ext _ _ _ _ _ _ _;refine Ext.mapGet 0 rfl rfl rfl rfl rfl ?_) | ((first | refine opsI.step ?_ | refine codeI.step ?_)) | refine Ld.own 1 rfl rfl ?_) <;> (conv=>whnf))
 refine CallN.all (A:=[_,_]) rfl (WriteString_ct _ bb _ [32,47,32] _ hB1 (by decide) (by decide) (by simp only [List.length_append,List.length_cons,List.length_nil];omega)) (fun v h2 Lp hl2' hr=>?_)
 obtain ⟨rfl,hB2,n1,e1,rfl⟩:=hr
 have hk2:=hk.mono hl1
 conv=>whnf
 repeat' first | ((first | (show Idx _ _ _ _ _;refine Idx.kid hk2 1 t1 (by omega) ht1 (fun ad op arg neg a b name s' hE1 hld1=>?_)) | refine hld1 _ _ _ (Heap.le_refl _) ?_ | ((first | refine opsI.step ?_ | refine codeI.step ?_)) | refine Ld.own 1 rfl rfl ?_) <;> (conv=>whnf))
 refine CallN.all (A:=[_,_]) rfl (place_ct hw1 _ _ _ _ _ _ _ _ bb _ _ _ (tb.mono hl1) (pw.mono hl1) hE1 hB2 (by simp only [List.length_append,List.length_cons,List.length_nil];omega)) (fun v h3 Lp hl3 hr=>?_)
 obtain ⟨hB3,rfl⟩:=hr
 conv=>whnf
 repeat' first | (((first | refine opsI.step ?_ | refine codeI.step ?_)) <;> (conv=>whnf))
 refine RetN.drop0 (RetN.drop0 (RetN.done ⟨?_,rfl⟩))
 rw [List.append_assoc,List.append_assoc] at hB3
 rw [List.append_assoc];exact hB3
end Go.Proofs.YtbgicephinomlaaGreatDoor
/- The text of a tree, written to a builder: words with operands; the whole. -/
namespace Go.Proofs.YtbgicephinomlaaGreatDoor
open Go Go.Vc Go.Dig
theorem fname_byte (n:Nat):∀y∈fnames.getD n [],y<256:=by
 by_cases h:n<8
 ·have:∀k,k<8→∀y∈fnames.getD k [],y<256:=by decide
  exact this n h
 ·rw [List.getD_eq_getElem?_getD,List.getElem?_eq_none (by show fnames.length≤n;have:fnames.length=8:=rfl;omega)];simp
theorem headX_byte (op arg:Int):∀y∈headX op arg,y<256:=by
 have h1:=itT_byte arg
 have h2:=fname_byte (arg.toNat-1)
 unfold headX
 (repeat' split) <;> intro y hy
 ·simp only [List.mem_cons,List.not_mem_nil,or_false] at hy;omega
 ·rcases List.mem_append.1 hy with hy | hy
  ·rcases List.mem_append.1 hy with hy | hy
   ·simp only [List.mem_cons,List.not_mem_nil,or_false] at hy;omega
   ·exact h1 y hy
  ·simp only [List.mem_cons,List.not_mem_nil,or_false] at hy;omega
 ·rcases List.mem_append.1 hy with hy | hy
  ·exact h2 y hy
  ·simp only [List.mem_cons,List.not_mem_nil,or_false] at hy;omega
 all_goals first
  | (simp only [List.mem_cons,List.not_mem_nil,or_false] at hy;omega)
  | (simp at hy)
theorem headX_ne {op:Int} (arg:Int) (h:10≤op∧op≤15):headX op arg≠[]:=by
 unfold headX
 repeat' split
 all_goals simp
 omega
attribute [local irreducible] Vc.Fn
theorem sum_split {ks:List (List Nat × Int)} {j:Nat} {x:List Nat × Int} (h:ks[j]?=some x):sumX (ks.take j)+x.1.length≤sumX ks:=by
 induction ks generalizing j with
 | nil=>simp at h
 | cons u ks ih=>
  cases j with
  | zero=>simp at h;subst h;simp [sumX]
  | succ j=>have:=ih (j:=j) (by simpa using h);simp only [List.take_succ_cons,sumX];omega
theorem joinF_snoc:∀(b:Bool) (l:List (List Nat × Int)) (x:List Nat × Int),joinF b (l++[x])=joinF b l++(if b=true∧l=[] then [] else [44,32])++x.1
 | true,[],x=>by simp [joinF]
 | false,[],x=>by simp [joinF]
 | true,y::l,x=>by
  rw [List.cons_append,joinF,joinF,joinF_snoc false l x]
  simp
 | false,y::l,x=>by
  rw [List.cons_append,joinF,joinF,joinF_snoc false l x]
  simp
theorem joinF_take_le:∀(b:Bool) (j:Nat) (xs:List (List Nat × Int)),(joinF b (xs.take j)).length≤(joinF b xs).length
 | b,0,xs=>by cases b <;> simp [joinF]
 | b,j+1,[]=>by simp
 | true,j+1,x::r=>by have:=joinF_take_le false j r;simp only [List.take_succ_cons,joinF,List.length_append];omega
 | false,j+1,x::r=>by have:=joinF_take_le false j r;simp only [List.take_succ_cons,joinF,List.length_append,List.length_cons,List.length_nil];omega
theorem joinF_ge:∀(b:Bool) (xs:List (List Nat × Int)),sumX xs≤(joinF b xs).length
 | true,[]=>by simp [joinF,sumX]
 | false,[]=>by simp [joinF,sumX]
 | true,x::r=>by have:=joinF_ge false r;simp only [joinF,sumX,List.length_append];omega
 | false,x::r=>by have:=joinF_ge false r;simp only [joinF,sumX,List.length_append,List.length_cons,List.length_nil];omega
theorem two_of {ks:List Tr} {t0 t1:Tr} (hn:ks.length=2) (h0:ks[0]?=some t0) (h1:ks[1]?=some t1):ks=[t0,t1]:=by
 match ks,hn with
 | [a,b],_=>
  simp at h0 h1
  rw [h0,h1]
set_option maxRecDepth 20000 in
set_option maxHeartbeats 2000000 in
theorem XList_ct {ks:List Tr} (hw:∀t∈ks,WriteP t) (hks:ks.length≤3) (h:Heap) (op arg:Int) (hop:10≤op∧op≤15) (harg:-100≤arg∧arg≤100) (harg11:op=11→1≤arg∧arg≤8) (neg:Bool) (a b':Sl) (name:List Nat) (s:Sl) (bb:Nat) (x:List Nat) (L:Own) (tb:Tb h) (pw:Pw h)
  (hk:IsK h s ks) (hB:Bld bb x L) (hl:x.length+((headX op arg).length+(joinF true (textsT ks)).length+1)≤500000000):
  Vc.Fn T F.expr_list [.pointer (some ⟨bb,0,none⟩),.agg #[.int .i64 op,.int .i64 arg,.bool neg,a.val,b'.val,.string (txt name),s.val]] h L
   fun r h' L'=>Bld bb (x++(headX op arg++joinF true (textsT ks)++[41])) L'∧r=.tuple #[]:=by
 have hkl:=hk.len
 have c1:=fun h pw=>Itoa_ct h pw arg (by omega) (by omega)
 have hil:=itT_len harg.1 harg.2
 have hhl:=headX_len (op:=op) harg.1 harg.2
 have hhb:=headX_byte op arg
 have hhn:=headX_ne arg hop
 have k1:op=10→arg=2→headX op arg=[115,113,114,116,40]:=fun e f=>by rw [headX,if_pos e,if_pos f]
 have k2:op=10→arg≠2→headX op arg=[114,111,111,116,40]++itT arg++[44,32]:=fun e f=>by rw [headX,if_pos e,if_neg f]
 have k3:op=11→headX op arg=fnames.getD (arg.toNat-1) []++[40]:=fun e=>by subst e;rfl
 have k4:op=12→headX op arg=[97,98,115,40]:=fun e=>by subst e;rfl
 have k5:op=13→headX op arg=[109,105,110,40]:=fun e=>by subst e;rfl
 have k6:op=14→headX op arg=[109,97,120,40]:=fun e=>by subst e;rfl
 have k7:op=15→headX op arg=[105,102,40]:=fun e=>by subst e;rfl
 obtain ⟨HD,hHD⟩:∃x,x=headX op arg:=⟨_,rfl⟩
 rw [← hHD] at hl hhl hhb hhn k1 k2 k3 k4 k5 k6 k7 ⊢
 clear hHD
 have c3:op=11→∀h,Fn0 T F.elem_Name [.int .i64 arg] h fun v h'=>v=.string (txt (fnames.getD (arg.toNat-1) [])):=fun e h=>by
  have:=Name_ct h arg.toNat (by have:=(harg11 e).1;omega) (by have:=(harg11 e).2;omega)
  rw [Int.toNat_of_nonneg (by have:=(harg11 e).1;omega)] at this;exact this
 have hfl:=fname_len (arg.toNat-1)
 obtain ⟨FN,hFN⟩:∃x,x=fnames.getD (arg.toNat-1) []:=⟨_,rfl⟩
 rw [← hFN] at c3 k3 hfl
 clear hFN
 refine fn_of_codeI ok D.expr_list rfl ?_
 conv=>whnf
 repeat ((first | refine opsI.step ?_ | refine codeI.step ?_);conv=>whnf)
 repeat' first | ((first | ((first | refine opsI.step ?_ | refine codeI.step ?_)) | intro (_:Nat)) <;> (conv=>whnf))
 rename_i be
 refine SeqN.cut (fun ρ hx Lx=>rd ρ 4=.string (txt HD)∧h.le hx∧Lx=(be,.cells [.int .i64 op,.int .i64 arg,.bool neg,a.val,b'.val,.string (txt name),s.val].toArray Ty.api_Expr (0,0))::L) ?_ ?_
 ·conv=>whnf
  repeat ((first | refine opsI.step ?_ | refine codeI.step ?_);conv=>whnf)
  repeat' first | ((first | (show CallN _ _ _ _ _ _;first | refine CallN.quiet rfl (c1 _ (by assumption)) ?_ | (refine CallN.fn rfl (c3 (by omega) _) (fun v h' hl2 hr=>?_);subst hr)) | (show Cat _ _ _;first | (refine Cat.txt (a:=[114,111,111,116,40]) (b:=itT arg) rfl rfl (by simp only [List.length_cons,List.length_nil];omega) ?_) | (refine Cat.txt (a:=[114,111,111,116,40]++itT arg) (b:=[44,32]) rfl rfl (by simp only [List.length_append,List.length_cons,List.length_nil];omega) ?_) | (refine Cat.txt (a:=FN) (b:=[40]) rfl rfl (by simp only [List.length_cons,List.length_nil];omega) ?_)) | ((first | refine opsI.step ?_ | refine codeI.step ?_)) | refine Ld.own 0 rfl rfl ?_) <;> (conv=>whnf)) | (refine cnd_eq (fun _=>?_) (fun _=>?_) <;> first | (exfalso;omega) | (conv=>whnf))
  all_goals first
   | exact ⟨rfl,by rw [k1 (by omega) (by omega)];rfl,Heap.le_refl _,rfl⟩
   | exact ⟨rfl,by rw [k2 (by omega) (by omega)];rfl,Heap.le_refl _,rfl⟩
   | exact ⟨rfl,by rw [k3 (by omega)];rfl,by assumption,rfl⟩
   | exact ⟨rfl,by rw [k4 (by omega)];rfl,Heap.le_refl _,rfl⟩
   | exact ⟨rfl,by rw [k5 (by omega)];rfl,Heap.le_refl _,rfl⟩
   | exact ⟨rfl,by rw [k6 (by omega)];rfl,Heap.le_refl _,rfl⟩
   | exact ⟨rfl,by rw [k7 (by omega)];rfl,Heap.le_refl _,rfl⟩
 conv=>whnf
 repeat intro _
 rename_i h1 L1 hJ
 obtain ⟨e4,hle1,rfl⟩:=hJ
 conv at e4=>lhs;whnf
 subst e4
 have tb1:=tb.mono hle1
 have pw1:=pw.mono hle1
 have hk1:=hk.mono hle1
 conv=>whnf
 repeat ((first | refine opsI.step ?_ | refine codeI.step ?_);conv=>whnf)
 skip
 refine CallN.all (A:=[_]) rfl (WriteString_ct _ bb x HD _ hB hhb hhn (by omega)) (fun v h2 Lp hl1 hr=>?_)
 obtain ⟨rfl,hB1,n1,e1,rfl⟩:=hr
 conv=>whnf
 repeat' first | ((first | ((first | refine opsI.step ?_ | refine codeI.step ?_)) | refine Ld.own 0 rfl rfl ?_) <;> (conv=>whnf))
 have htl:=textsT_len ks
 have hjl:=joinF_len true (textsT ks)
 clear k1 k2 k3 k4 k5 k6 k7 c1 c3
 refine LoopN.of (fun r ρ hx Lx=>∃(j:Nat) (X LB:Own),r=ks.length-j∧h2.le hx∧j≤ks.length∧rd ρ 39=.int .i64 j∧Lx=X++LB∧Bld bb (x++HD++joinF true ((textsT ks).take j)) LB) ks.length
  ⟨0,[_],_,rfl,Heap.le_refl _,Nat.zero_le _,vi rfl,rfl,by rw [List.take_zero];simpa [joinF] using hB1⟩ ?_
 conv=>whnf
 repeat intro _
 rename_i r hx Lx hI
 obtain ⟨j,X,LB,rfl,hle,hj,e39,rfl,hBj⟩:=hI
 conv at e39=>lhs;whnf
 subst e39
 by_cases hjk:j=ks.length
 ·subst hjk
  rw [← htl,List.take_length] at hBj
  conv=>whnf
  repeat ((first | refine opsI.step ?_ | refine codeI.step ?_);conv=>whnf)
  repeat' first | ((first | ((first | refine opsI.step ?_ | refine codeI.step ?_))) <;> (conv=>whnf)) | (refine cnd_lt (fun _=>?_) (fun _=>?_) <;> first | (exfalso;omega) | (conv=>whnf))
  refine CallN.all (A:=X) rfl (WriteString_ct _ bb _ [41] _ hBj (by decide) (by decide) (by simp only [List.length_append,List.length_cons,List.length_nil];omega)) (fun v h3 Lp hl1 hr=>?_)
  obtain ⟨rfl,hB2,n2,e2,rfl⟩:=hr
  conv=>whnf
  repeat' first | (((first | refine opsI.step ?_ | refine codeI.step ?_)) <;> (conv=>whnf))
  refine RetN.dropF (RetN.done ⟨?_,rfl⟩) _
  simpa [List.append_assoc] using hB2
 ·obtain ⟨t,ht⟩:∃t,ks[j]?=some t:=⟨_,List.getElem?_eq_getElem (by omega)⟩
  have hwt:=hw t (List.mem_of_getElem? ht)
  have hgt:=textsT_get ht
  have hsp:=sum_split hgt
  have hjj:=joinF_take_le true (j+1) (textsT ks)
  have htk:(textsT ks).take (j+1)=(textsT ks).take j++[(textT t,levT t.op)]:=take_snoc hgt
  have hjs:joinF true ((textsT ks).take j++[(textT t,levT t.op)])=joinF true ((textsT ks).take j)++(if true=true∧(textsT ks).take j=[] then [] else [44,32])++textT t:=joinF_snoc true ((textsT ks).take j) (textT t,levT t.op)
  rw [← htk] at hjs
  have hlt:((textsT ks).take j).length=j:=by rw [List.length_take,htl];omega
  have hne:(textsT ks).take j=[]↔j=0:=by rw [← List.length_eq_zero_iff,hlt]
  simp only at hsp
  have hkx:=hk1.mono hle
  have tbx:=tb1.mono hle
  have pwx:=pw1.mono hle
  by_cases hj0:j=0
  ·rw [if_pos (show true=true∧(textsT ks).take j=[] from ⟨rfl,hne.2 hj0⟩),List.append_nil] at hjs
   have hjl2:=congrArg List.length hjs
   rw [List.length_append] at hjl2
   conv=>whnf
   repeat ((first | refine opsI.step ?_ | refine codeI.step ?_);conv=>whnf)
   repeat' first | ((first | (show SeqN _ _ _ _ _ _ _;refine SeqN.go ?_) | (show Idx _ _ _ _ _;refine Idx.kid hkx j t (by omega) ht (fun ad op arg neg a b name s' hE hld=>?_)) | refine hld _ _ _ (Heap.le_refl _) ?_ | ((first | refine opsI.step ?_ | refine codeI.step ?_)) | intro (_:Nat) | refine LdN.own 0 rfl rfl ?_ | refine Sto.lit 0 rfl rfl rfl ?_) <;> (conv=>whnf)) | (refine cnd_lt (fun _=>?_) (fun _=>?_) <;> first | (exfalso;omega) | (conv=>whnf))
   refine CallN.all (A:=_::X) rfl (hwt _ _ bb _ LB tbx pwx (by assumption) hBj (by simp only [List.length_append];omega)) (fun v h3 Lp hl1 hr=>?_)
   obtain ⟨hB2,rfl⟩:=hr
   conv=>whnf
   repeat' first | ((first | ((first | refine opsI.step ?_ | refine codeI.step ?_)) | refine WrapN.i64 (by omega) (by omega) ?_) <;> (conv=>whnf))
   exact ⟨rfl,ks.length-(j+1),by omega,j+1,_::X,Lp,rfl,Heap.le_trans hle hl1,by omega,vi (by omega),rfl,by rw [hjs,← List.append_assoc];exact hB2⟩
  ·rw [if_neg (fun y=>hj0 (hne.1 y.2))] at hjs
   have hjl2:=congrArg List.length hjs
   rw [List.length_append,List.length_append] at hjl2
   simp only [List.length_cons,List.length_nil] at hjl2
   conv=>whnf
   repeat ((first | refine opsI.step ?_ | refine codeI.step ?_);conv=>whnf)
   repeat' first | ((first | (show SeqN _ _ _ _ _ _ _;refine SeqN.go ?_) | (show Idx _ _ _ _ _;refine Idx.kid hkx j t (by omega) ht (fun ad op arg neg a b name s' hE hld=>?_)) | refine hld _ _ _ (Heap.le_refl _) ?_ | ((first | refine opsI.step ?_ | refine codeI.step ?_)) | intro (_:Nat) | refine Sto.lit 0 rfl rfl rfl ?_) <;> (conv=>whnf)) | (refine cnd_lt (fun _=>?_) (fun _=>?_) <;> first | (exfalso;omega) | (conv=>whnf))
   refine CallN.all (A:=_::X) rfl (WriteString_ct _ bb _ [44,32] _ hBj (by decide) (by decide) (by simp only [List.length_append,List.length_cons,List.length_nil];omega)) (fun v h3 Lp hl1 hr=>?_)
   obtain ⟨rfl,hB2,n2,e2,rfl⟩:=hr
   conv=>whnf
   repeat' first | ((first | ((first | refine opsI.step ?_ | refine codeI.step ?_)) | refine LdN.own 0 rfl rfl ?_) <;> (conv=>whnf))
   refine CallN.all (A:=_::X) rfl (hwt _ _ bb _ _ tbx pwx (by assumption) hB2 (by simp only [List.length_append,List.length_cons,List.length_nil];omega)) (fun v h4 Lp hl2 hr=>?_)
   obtain ⟨hB3,rfl⟩:=hr
   conv=>whnf
   repeat' first | ((first | ((first | refine opsI.step ?_ | refine codeI.step ?_)) | refine WrapN.i64 (by omega) (by omega) ?_) <;> (conv=>whnf))
   exact ⟨rfl,ks.length-(j+1),by omega,j+1,_::X,Lp,rfl,Heap.le_trans hle hl2,by omega,vi (by omega),rfl,by rw [hjs];simpa [List.append_assoc] using hB3⟩
end Go.Proofs.YtbgicephinomlaaGreatDoor