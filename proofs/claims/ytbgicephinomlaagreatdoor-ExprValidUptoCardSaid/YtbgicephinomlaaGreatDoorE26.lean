/- The text of a tree, written to a builder: each kind of node; Print. -/
import Derived.Test.YtbgicephinomlaaGreatDoorE25
set_option linter.unusedVariables false
set_option linter.unusedSimpArgs false
namespace Go.Proofs.YtbgicephinomlaaGreatDoor
open Go Go.Vc Go.Dig
attribute [local irreducible] Vc.Fn
set_option maxRecDepth 20000 in
set_option maxHeartbeats 2000000 in
theorem write_1 {arg:Int} {neg:Bool} {l m name:List Nat} {ks:List Tr} (hn:nodeB 1 arg neg l m name ks.length) (hw:∀t∈ks,WriteP t):WriteP (.mk 1 arg neg l m name ks):=by
 intro h vs bb x L tb pw w hB hl
 obtain ⟨a,b,s,rfl,ho,ha,hv,hb,hk⟩:=w.isK
 have hkl:=hk.len
 have hok:=hn.2.2.2.2
 rw [if_pos rfl] at hok
 have c1:=fun h tb hv=>NFormat_ct h tb neg a b l m hv
 have e1:specFmt neg l m=(fmtL (ratOf neg l m),0):=if_pos hok.1
 rw [e1] at c1
 have ht:textT (.mk 1 arg neg l m name ks)=fmtL (ratOf neg l m):=by rw [textT];rfl
 rw [ht] at hl ⊢
 refine fn_of_codeI ok D.expr_write rfl ?_
 conv=>whnf
 repeat ((first | refine opsI.step ?_ | refine codeI.step ?_);conv=>whnf)
 repeat' first | ((first | (show LdN _ _ _ _ _;refine LdN.ownAt 0 rfl rfl ?_) | (show CallN _ _ _ _ _ _;(refine CallN.fn rfl (c1 _ (by assumption) (by assumption)) (fun v h' hl2 hr=>?_);subst hr)) | ((first | refine opsI.step ?_ | refine codeI.step ?_)) | intro (_:Nat) | refine Ld.own 0 rfl rfl ?_) <;> (conv=>whnf)) | (refine cnd_eq (fun _=>?_) (fun _=>?_) <;> first | (exfalso;omega) | (conv=>whnf))
 refine CallN.all (A:=[_]) rfl (WriteString_ct _ bb x (fmtL (ratOf neg l m)) _ hB (fmtL_byte _) (fmtL_ne _) (by omega)) (fun v h2 Lp hl1 hr=>?_)
 obtain ⟨rfl,hB1,n1,e1,rfl⟩:=hr
 conv=>whnf
 repeat' first | (((first | refine opsI.step ?_ | refine codeI.step ?_)) <;> (conv=>whnf))
 exact RetN.drop0 (RetN.done ⟨hB1,rfl⟩)
set_option maxRecDepth 20000 in
set_option maxHeartbeats 2000000 in
theorem write_2 {arg:Int} {neg:Bool} {l m name:List Nat} {ks:List Tr} (hn:nodeB 2 arg neg l m name ks.length) (hw:∀t∈ks,WriteP t):WriteP (.mk 2 arg neg l m name ks):=by
 intro h vs bb x L tb pw w hB hl
 obtain ⟨a,b,s,rfl,ho,ha,hv,hb,hk⟩:=w.isK
 have hkl:=hk.len
 have hnm:=hn.2.2.2.1
 rw [if_pos rfl] at hnm
 have ht:textT (.mk 2 arg neg l m name ks)=name:=by rw [textT];rfl
 rw [ht] at hl ⊢
 refine fn_of_codeI ok D.expr_write rfl ?_
 conv=>whnf
 repeat ((first | refine opsI.step ?_ | refine codeI.step ?_);conv=>whnf)
 repeat' first | ((first | ((first | refine opsI.step ?_ | refine codeI.step ?_)) | intro (_:Nat) | refine Ld.own 0 rfl rfl ?_) <;> (conv=>whnf)) | (refine cnd_eq (fun _=>?_) (fun _=>?_) <;> first | (exfalso;omega) | (conv=>whnf))
 refine CallN.all (A:=[_]) rfl (WriteString_ct _ bb x name _ hB hb hnm.2.2.1 (by omega)) (fun v h2 Lp hl1 hr=>?_)
 obtain ⟨rfl,hB1,n1,e1,rfl⟩:=hr
 conv=>whnf
 repeat' first | (((first | refine opsI.step ?_ | refine codeI.step ?_)) <;> (conv=>whnf))
 exact RetN.drop0 (RetN.done ⟨hB1,rfl⟩)
set_option maxRecDepth 20000 in
set_option maxHeartbeats 2000000 in
theorem write_3 {arg:Int} {neg:Bool} {l m name:List Nat} {ks:List Tr} (hn:nodeB 3 arg neg l m name ks.length) (hw:∀t∈ks,WriteP t):WriteP (.mk 3 arg neg l m name ks):=by
 intro h vs bb x L tb pw w hB hl
 obtain ⟨a,b,s,rfl,ho,ha,hv,hb,hk⟩:=w.isK
 have hkl:=hk.len
 have ht:textT (.mk 3 arg neg l m name ks)=[112,105]:=by rw [textT];rfl
 rw [ht] at hl ⊢
 refine fn_of_codeI ok D.expr_write rfl ?_
 conv=>whnf
 repeat ((first | refine opsI.step ?_ | refine codeI.step ?_);conv=>whnf)
 repeat' first | ((first | ((first | refine opsI.step ?_ | refine codeI.step ?_)) | intro (_:Nat) | refine Ld.own 0 rfl rfl ?_) <;> (conv=>whnf)) | (refine cnd_eq (fun _=>?_) (fun _=>?_) <;> first | (exfalso;omega) | (conv=>whnf))
 refine CallN.all (A:=[_]) rfl (WriteString_ct _ bb x [112,105] _ hB (by decide) (by decide) (by simp only [List.length_cons,List.length_nil] at hl ⊢;omega)) (fun v h2 Lp hl1 hr=>?_)
 obtain ⟨rfl,hB1,n1,e1,rfl⟩:=hr
 conv=>whnf
 repeat' first | (((first | refine opsI.step ?_ | refine codeI.step ?_)) <;> (conv=>whnf))
 exact RetN.drop0 (RetN.done ⟨hB1,rfl⟩)
set_option maxRecDepth 20000 in
set_option maxHeartbeats 2000000 in
theorem write_4 {arg:Int} {neg:Bool} {l m name:List Nat} {ks:List Tr} (hn:nodeB 4 arg neg l m name ks.length) (hw:∀t∈ks,WriteP t):WriteP (.mk 4 arg neg l m name ks):=by
 intro h vs bb x L tb pw w hB hl
 obtain ⟨a,b,s,rfl,ho,ha,hv,hb,hk⟩:=w.isK
 have hkl:=hk.len
 have hkn:ks.length=1:=by have:=hn.1;rw [show kidsN 4=1 from rfl] at this;omega
 obtain ⟨t0,ht0⟩:∃t,ks[0]?=some t:=⟨_,List.getElem?_eq_getElem (by omega)⟩
 have hw0:=hw t0 (List.mem_of_getElem? ht0)
 have hx0:(textsT ks).getD 0 ([],0)=(textT t0,levT t0.op):=by rw [List.getD_eq_getElem?_getD,textsT_get ht0];rfl
 have ht:textT (.mk 4 arg neg l m name ks)=[45]++placeX (textT t0,levT t0.op) 3:=by rw [textT,← hx0];rfl
 rw [ht] at hl ⊢
 simp only [List.length_append,List.length_cons,List.length_nil] at hl
 refine fn_of_codeI ok D.expr_write rfl ?_
 conv=>whnf
 repeat ((first | refine opsI.step ?_ | refine codeI.step ?_);conv=>whnf)
 repeat' first | ((first | ((first | refine opsI.step ?_ | refine codeI.step ?_)) | intro (_:Nat) | refine Ld.own 0 rfl rfl ?_) <;> (conv=>whnf)) | (refine cnd_eq (fun _=>?_) (fun _=>?_) <;> first | (exfalso;omega) | (conv=>whnf))
 refine CallN.all (A:=[_]) rfl (WriteString_ct _ bb x [45] _ hB (by decide) (by decide) (by simp only [List.length_cons,List.length_nil];omega)) (fun v h2 Lp hl1 hr=>?_)
 obtain ⟨rfl,hB1,n1,e1,rfl⟩:=hr
 conv=>whnf
 repeat' first | ((first | (show Idx _ _ _ _ _;refine Idx.kid hk 0 t0 (by omega) ht0 (fun ad op2 arg2 neg2 a2 b2 name2 s2 hE hld=>?_)) | refine hld _ _ _ (Heap.le_refl _) ?_ | ((first | refine opsI.step ?_ | refine codeI.step ?_)) | refine Ld.own 0 rfl rfl ?_) <;> (conv=>whnf))
 refine CallN.all (A:=[_]) rfl (place_ct hw0 _ _ _ _ _ _ _ _ bb _ _ _ tb pw (by assumption) hB1 (by simp only [List.length_append,List.length_cons,List.length_nil];omega)) (fun v h1 Lp hl1 hr=>?_)
 obtain ⟨hB2,rfl⟩:=hr
 conv=>whnf
 repeat' first | (((first | refine opsI.step ?_ | refine codeI.step ?_)) <;> (conv=>whnf))
 refine RetN.drop0 (RetN.done ⟨?_,rfl⟩)
 rw [List.append_assoc] at hB2;exact hB2
set_option maxRecDepth 20000 in
set_option maxHeartbeats 2000000 in
theorem write_5 {arg:Int} {neg:Bool} {l m name:List Nat} {ks:List Tr} (hn:nodeB 5 arg neg l m name ks.length) (hw:∀t∈ks,WriteP t):WriteP (.mk 5 arg neg l m name ks):=by
 intro h vs bb x L tb pw w hB hl
 obtain ⟨a,b,s,rfl,ho,ha,hv,hb,hk⟩:=w.isK
 have hkl:=hk.len
 have hkn:ks.length=2:=by have:=hn.1;rw [show kidsN 5=2 from rfl] at this;omega
 obtain ⟨t0,ht0⟩:∃t,ks[0]?=some t:=⟨_,List.getElem?_eq_getElem (by omega)⟩
 have hw0:=hw t0 (List.mem_of_getElem? ht0)
 obtain ⟨t1,ht1⟩:∃t,ks[1]?=some t:=⟨_,List.getElem?_eq_getElem (by omega)⟩
 have hw1:=hw t1 (List.mem_of_getElem? ht1)
 have hx0:(textsT ks).getD 0 ([],0)=(textT t0,levT t0.op):=by rw [List.getD_eq_getElem?_getD,textsT_get ht0];rfl
 have hx1:(textsT ks).getD 1 ([],0)=(textT t1,levT t1.op):=by rw [List.getD_eq_getElem?_getD,textsT_get ht1];rfl
 have hks:ks=[t0,t1]:=two_of hkn ht0 ht1
 have ht:textT (.mk 5 arg neg l m name ks)=placeX (textT t0,levT t0.op) 1++signX 5++placeX (textT t1,levT t1.op) 2:=by rw [textT,← hx0,← hx1];rfl
 rw [ht] at hl ⊢
 have hs3:(signX 5).length=3:=rfl
 simp only [List.length_append] at hl
 refine fn_of_codeI ok D.expr_write rfl ?_
 conv=>whnf
 repeat ((first | refine opsI.step ?_ | refine codeI.step ?_);conv=>whnf)
 repeat' first | ((first | (show SeqN _ _ _ _ _ _ _;refine SeqN.go ?_) | ((first | refine opsI.step ?_ | refine codeI.step ?_)) | intro (_:Nat) | refine LdN.own 0 rfl rfl ?_ | refine Ld.own 0 rfl rfl ?_) <;> (conv=>whnf)) | (refine cnd_eq (fun _=>?_) (fun _=>?_) <;> first | (exfalso;omega) | (conv=>whnf))
 refine CallN.all (A:=[_]) rfl (infix_5 hks hw0 hw1 _ _ _ _ _ _ _ bb x _ _ _ tb pw hk hB (by omega)) (fun v h1 Lp hl1 hr=>?_)
 obtain ⟨hB2,rfl⟩:=hr
 conv=>whnf
 repeat' first | (((first | refine opsI.step ?_ | refine codeI.step ?_)) <;> (conv=>whnf))
 exact RetN.drop0 (RetN.done ⟨hB2,rfl⟩)
set_option maxRecDepth 20000 in
set_option maxHeartbeats 2000000 in
theorem write_6 {arg:Int} {neg:Bool} {l m name:List Nat} {ks:List Tr} (hn:nodeB 6 arg neg l m name ks.length) (hw:∀t∈ks,WriteP t):WriteP (.mk 6 arg neg l m name ks):=by
 intro h vs bb x L tb pw w hB hl
 obtain ⟨a,b,s,rfl,ho,ha,hv,hb,hk⟩:=w.isK
 have hkl:=hk.len
 have hkn:ks.length=2:=by have:=hn.1;rw [show kidsN 6=2 from rfl] at this;omega
 obtain ⟨t0,ht0⟩:∃t,ks[0]?=some t:=⟨_,List.getElem?_eq_getElem (by omega)⟩
 have hw0:=hw t0 (List.mem_of_getElem? ht0)
 obtain ⟨t1,ht1⟩:∃t,ks[1]?=some t:=⟨_,List.getElem?_eq_getElem (by omega)⟩
 have hw1:=hw t1 (List.mem_of_getElem? ht1)
 have hx0:(textsT ks).getD 0 ([],0)=(textT t0,levT t0.op):=by rw [List.getD_eq_getElem?_getD,textsT_get ht0];rfl
 have hx1:(textsT ks).getD 1 ([],0)=(textT t1,levT t1.op):=by rw [List.getD_eq_getElem?_getD,textsT_get ht1];rfl
 have hks:ks=[t0,t1]:=two_of hkn ht0 ht1
 have ht:textT (.mk 6 arg neg l m name ks)=placeX (textT t0,levT t0.op) 1++signX 6++placeX (textT t1,levT t1.op) 2:=by rw [textT,← hx0,← hx1];rfl
 rw [ht] at hl ⊢
 have hs3:(signX 6).length=3:=rfl
 simp only [List.length_append] at hl
 refine fn_of_codeI ok D.expr_write rfl ?_
 conv=>whnf
 repeat ((first | refine opsI.step ?_ | refine codeI.step ?_);conv=>whnf)
 repeat' first | ((first | (show SeqN _ _ _ _ _ _ _;refine SeqN.go ?_) | ((first | refine opsI.step ?_ | refine codeI.step ?_)) | intro (_:Nat) | refine LdN.own 0 rfl rfl ?_ | refine Ld.own 0 rfl rfl ?_) <;> (conv=>whnf)) | (refine cnd_eq (fun _=>?_) (fun _=>?_) <;> first | (exfalso;omega) | (conv=>whnf))
 refine CallN.all (A:=[_]) rfl (infix_6 hks hw0 hw1 _ _ _ _ _ _ _ bb x _ _ _ tb pw hk hB (by omega)) (fun v h1 Lp hl1 hr=>?_)
 obtain ⟨hB2,rfl⟩:=hr
 conv=>whnf
 repeat' first | (((first | refine opsI.step ?_ | refine codeI.step ?_)) <;> (conv=>whnf))
 exact RetN.drop0 (RetN.done ⟨hB2,rfl⟩)
set_option maxRecDepth 20000 in
set_option maxHeartbeats 2000000 in
theorem write_7 {arg:Int} {neg:Bool} {l m name:List Nat} {ks:List Tr} (hn:nodeB 7 arg neg l m name ks.length) (hw:∀t∈ks,WriteP t):WriteP (.mk 7 arg neg l m name ks):=by
 intro h vs bb x L tb pw w hB hl
 obtain ⟨a,b,s,rfl,ho,ha,hv,hb,hk⟩:=w.isK
 have hkl:=hk.len
 have hkn:ks.length=2:=by have:=hn.1;rw [show kidsN 7=2 from rfl] at this;omega
 obtain ⟨t0,ht0⟩:∃t,ks[0]?=some t:=⟨_,List.getElem?_eq_getElem (by omega)⟩
 have hw0:=hw t0 (List.mem_of_getElem? ht0)
 obtain ⟨t1,ht1⟩:∃t,ks[1]?=some t:=⟨_,List.getElem?_eq_getElem (by omega)⟩
 have hw1:=hw t1 (List.mem_of_getElem? ht1)
 have hx0:(textsT ks).getD 0 ([],0)=(textT t0,levT t0.op):=by rw [List.getD_eq_getElem?_getD,textsT_get ht0];rfl
 have hx1:(textsT ks).getD 1 ([],0)=(textT t1,levT t1.op):=by rw [List.getD_eq_getElem?_getD,textsT_get ht1];rfl
 have hks:ks=[t0,t1]:=two_of hkn ht0 ht1
 have ht:textT (.mk 7 arg neg l m name ks)=placeX (textT t0,levT t0.op) 2++signX 7++placeX (textT t1,levT t1.op) 3:=by rw [textT,← hx0,← hx1];rfl
 rw [ht] at hl ⊢
 have hs3:(signX 7).length=3:=rfl
 simp only [List.length_append] at hl
 refine fn_of_codeI ok D.expr_write rfl ?_
 conv=>whnf
 repeat ((first | refine opsI.step ?_ | refine codeI.step ?_);conv=>whnf)
 repeat' first | ((first | (show SeqN _ _ _ _ _ _ _;refine SeqN.go ?_) | ((first | refine opsI.step ?_ | refine codeI.step ?_)) | intro (_:Nat) | refine LdN.own 0 rfl rfl ?_ | refine Ld.own 0 rfl rfl ?_) <;> (conv=>whnf)) | (refine cnd_eq (fun _=>?_) (fun _=>?_) <;> first | (exfalso;omega) | (conv=>whnf))
 refine CallN.all (A:=[_]) rfl (infix_7 hks hw0 hw1 _ _ _ _ _ _ _ bb x _ _ _ tb pw hk hB (by omega)) (fun v h1 Lp hl1 hr=>?_)
 obtain ⟨hB2,rfl⟩:=hr
 conv=>whnf
 repeat' first | (((first | refine opsI.step ?_ | refine codeI.step ?_)) <;> (conv=>whnf))
 exact RetN.drop0 (RetN.done ⟨hB2,rfl⟩)
set_option maxRecDepth 20000 in
set_option maxHeartbeats 2000000 in
theorem write_8 {arg:Int} {neg:Bool} {l m name:List Nat} {ks:List Tr} (hn:nodeB 8 arg neg l m name ks.length) (hw:∀t∈ks,WriteP t):WriteP (.mk 8 arg neg l m name ks):=by
 intro h vs bb x L tb pw w hB hl
 obtain ⟨a,b,s,rfl,ho,ha,hv,hb,hk⟩:=w.isK
 have hkl:=hk.len
 have hkn:ks.length=2:=by have:=hn.1;rw [show kidsN 8=2 from rfl] at this;omega
 obtain ⟨t0,ht0⟩:∃t,ks[0]?=some t:=⟨_,List.getElem?_eq_getElem (by omega)⟩
 have hw0:=hw t0 (List.mem_of_getElem? ht0)
 obtain ⟨t1,ht1⟩:∃t,ks[1]?=some t:=⟨_,List.getElem?_eq_getElem (by omega)⟩
 have hw1:=hw t1 (List.mem_of_getElem? ht1)
 have hx0:(textsT ks).getD 0 ([],0)=(textT t0,levT t0.op):=by rw [List.getD_eq_getElem?_getD,textsT_get ht0];rfl
 have hx1:(textsT ks).getD 1 ([],0)=(textT t1,levT t1.op):=by rw [List.getD_eq_getElem?_getD,textsT_get ht1];rfl
 have hks:ks=[t0,t1]:=two_of hkn ht0 ht1
 have ht:textT (.mk 8 arg neg l m name ks)=placeX (textT t0,levT t0.op) 2++signX 8++placeX (textT t1,levT t1.op) 3:=by rw [textT,← hx0,← hx1];rfl
 rw [ht] at hl ⊢
 have hs3:(signX 8).length=3:=rfl
 simp only [List.length_append] at hl
 refine fn_of_codeI ok D.expr_write rfl ?_
 conv=>whnf
 repeat ((first | refine opsI.step ?_ | refine codeI.step ?_);conv=>whnf)
 repeat' first | ((first | (show SeqN _ _ _ _ _ _ _;refine SeqN.go ?_) | ((first | refine opsI.step ?_ | refine codeI.step ?_)) | intro (_:Nat) | refine LdN.own 0 rfl rfl ?_ | refine Ld.own 0 rfl rfl ?_) <;> (conv=>whnf)) | (refine cnd_eq (fun _=>?_) (fun _=>?_) <;> first | (exfalso;omega) | (conv=>whnf))
 refine CallN.all (A:=[_]) rfl (infix_8 hks hw0 hw1 _ _ _ _ _ _ _ bb x _ _ _ tb pw hk hB (by omega)) (fun v h1 Lp hl1 hr=>?_)
 obtain ⟨hB2,rfl⟩:=hr
 conv=>whnf
 repeat' first | (((first | refine opsI.step ?_ | refine codeI.step ?_)) <;> (conv=>whnf))
 exact RetN.drop0 (RetN.done ⟨hB2,rfl⟩)
set_option maxRecDepth 20000 in
set_option maxHeartbeats 2000000 in
theorem write_9 {arg:Int} {neg:Bool} {l m name:List Nat} {ks:List Tr} (hn:nodeB 9 arg neg l m name ks.length) (hw:∀t∈ks,WriteP t):WriteP (.mk 9 arg neg l m name ks):=by
 intro h vs bb x L tb pw w hB hl
 obtain ⟨a,b,s,rfl,ho,ha,hv,hb,hk⟩:=w.isK
 have hkl:=hk.len
 have hkn:ks.length=1:=by have:=hn.1;rw [show kidsN 9=1 from rfl] at this;omega
 obtain ⟨t0,ht0⟩:∃t,ks[0]?=some t:=⟨_,List.getElem?_eq_getElem (by omega)⟩
 have hw0:=hw t0 (List.mem_of_getElem? ht0)
 have hx0:(textsT ks).getD 0 ([],0)=(textT t0,levT t0.op):=by rw [List.getD_eq_getElem?_getD,textsT_get ht0];rfl
 have ht:textT (.mk 9 arg neg l m name ks)=placeX (textT t0,levT t0.op) 5++([94]++itT arg):=by rw [textT,← hx0];rfl
 rw [ht] at hl ⊢
 have hil:=itT_len (n:=arg) (by have:=hn.2.1;rw [show lowA 9=-32 from rfl] at this;omega) (by have:=hn.2.2.1;rw [show highA 9=32 from rfl] at this;omega)
 simp only [List.length_append,List.length_cons,List.length_nil] at hl
 have c1:=fun h pw=>Itoa_ct h pw arg (by omega) (by omega)
 refine fn_of_codeI ok D.expr_write rfl ?_
 conv=>whnf
 repeat ((first | refine opsI.step ?_ | refine codeI.step ?_);conv=>whnf)
 repeat' first | ((first | (show SeqN _ _ _ _ _ _ _;refine SeqN.go ?_) | (show Idx _ _ _ _ _;refine Idx.kid hk 0 t0 (by omega) ht0 (fun ad op2 arg2 neg2 a2 b2 name2 s2 hE hld=>?_)) | refine hld _ _ _ (Heap.le_refl _) ?_ | ((first | refine opsI.step ?_ | refine codeI.step ?_)) | intro (_:Nat) | refine Ld.own 0 rfl rfl ?_) <;> (conv=>whnf)) | (refine cnd_eq (fun _=>?_) (fun _=>?_) <;> first | (exfalso;omega) | (conv=>whnf))
 refine CallN.all (A:=[_]) rfl (place_ct hw0 _ _ _ _ _ _ _ _ bb x _ _ tb pw (by assumption) hB (by omega)) (fun v h1 Lp hl1 hr=>?_)
 obtain ⟨hB1,rfl⟩:=hr
 have pw1:=pw.mono hl1
 conv=>whnf
 repeat' first | ((first | (show CallN _ _ _ _ _ _;refine CallN.quiet rfl (c1 _ pw1) ?_) | (show Cat _ _ _;(refine Cat.txt (a:=[94]) (b:=itT arg) rfl rfl (by simp only [List.length_cons,List.length_nil];omega) ?_)) | ((first | refine opsI.step ?_ | refine codeI.step ?_)) | refine Ld.own 0 rfl rfl ?_) <;> (conv=>whnf))
 refine CallN.all (A:=[_]) rfl (WriteString_ct _ bb _ ([94]++itT arg) _ hB1 (fun y hy=>by
   rcases List.mem_append.1 hy with hy | hy
   ·simp only [List.mem_cons,List.not_mem_nil,or_false] at hy;omega
   ·exact itT_byte _ y hy) (by simp) (by simp only [List.length_append,List.length_cons,List.length_nil];omega)) (fun v h2 Lp hl2 hr=>?_)
 obtain ⟨rfl,hB2,n1,e1,rfl⟩:=hr
 conv=>whnf
 repeat' first | (((first | refine opsI.step ?_ | refine codeI.step ?_)) <;> (conv=>whnf))
 refine RetN.drop0 (RetN.done ⟨?_,rfl⟩)
 rw [List.append_assoc] at hB2;exact hB2
set_option maxRecDepth 20000 in
set_option maxHeartbeats 2000000 in
theorem write_10 {arg:Int} {neg:Bool} {l m name:List Nat} {ks:List Tr} (hn:nodeB 10 arg neg l m name ks.length) (hw:∀t∈ks,WriteP t):WriteP (.mk 10 arg neg l m name ks):=by
 intro h vs bb x L tb pw w hB hl
 obtain ⟨a,b,s,rfl,ho,ha,hv,hb,hk⟩:=w.isK
 have hkl:=hk.len
 have hks:ks.length≤3:=by have h1:=hn.1;have h2:=kidsN_le 10;omega
 have ht:textT (.mk 10 arg neg l m name ks)=headX 10 arg++joinF true (textsT ks)++[41]:=by rw [textT];rfl
 rw [ht] at hl ⊢
 have hlo:=hn.2.1
 have hhi:=hn.2.2.1
 have hlh:=lowHigh 10
 have hjg:=joinF_ge true (textsT ks)
 simp only [List.length_append,List.length_cons,List.length_nil] at hl
 refine fn_of_codeI ok D.expr_write rfl ?_
 conv=>whnf
 repeat ((first | refine opsI.step ?_ | refine codeI.step ?_);conv=>whnf)
 repeat' first | ((first | (show SeqN _ _ _ _ _ _ _;refine SeqN.go ?_) | ((first | refine opsI.step ?_ | refine codeI.step ?_)) | intro (_:Nat) | refine LdN.own 0 rfl rfl ?_ | refine Ld.own 0 rfl rfl ?_) <;> (conv=>whnf)) | (refine cnd_eq (fun _=>?_) (fun _=>?_) <;> first | (exfalso;omega) | (conv=>whnf))
 refine CallN.all (A:=[_]) rfl (XList_ct hw hks _ 10 arg (by decide) (by omega) (by intro e;exact absurd e (by decide)) _ _ _ _ _ bb x _ tb pw hk hB (by omega)) (fun v h1 Lp hl1 hr=>?_)
 obtain ⟨hB2,rfl⟩:=hr
 conv=>whnf
 repeat' first | (((first | refine opsI.step ?_ | refine codeI.step ?_)) <;> (conv=>whnf))
 exact RetN.drop0 (RetN.done ⟨hB2,rfl⟩)
set_option maxRecDepth 20000 in
set_option maxHeartbeats 2000000 in
theorem write_11 {arg:Int} {neg:Bool} {l m name:List Nat} {ks:List Tr} (hn:nodeB 11 arg neg l m name ks.length) (hw:∀t∈ks,WriteP t):WriteP (.mk 11 arg neg l m name ks):=by
 intro h vs bb x L tb pw w hB hl
 obtain ⟨a,b,s,rfl,ho,ha,hv,hb,hk⟩:=w.isK
 have hkl:=hk.len
 have hks:ks.length≤3:=by have h1:=hn.1;have h2:=kidsN_le 11;omega
 have ht:textT (.mk 11 arg neg l m name ks)=headX 11 arg++joinF true (textsT ks)++[41]:=by rw [textT];rfl
 rw [ht] at hl ⊢
 have hlo:=hn.2.1
 have hhi:=hn.2.2.1
 have hlh:=lowHigh 11
 have hjg:=joinF_ge true (textsT ks)
 simp only [List.length_append,List.length_cons,List.length_nil] at hl
 refine fn_of_codeI ok D.expr_write rfl ?_
 conv=>whnf
 repeat ((first | refine opsI.step ?_ | refine codeI.step ?_);conv=>whnf)
 repeat' first | ((first | (show SeqN _ _ _ _ _ _ _;refine SeqN.go ?_) | ((first | refine opsI.step ?_ | refine codeI.step ?_)) | intro (_:Nat) | refine LdN.own 0 rfl rfl ?_ | refine Ld.own 0 rfl rfl ?_) <;> (conv=>whnf)) | (refine cnd_eq (fun _=>?_) (fun _=>?_) <;> first | (exfalso;omega) | (conv=>whnf))
 refine CallN.all (A:=[_]) rfl (XList_ct hw hks _ 11 arg (by decide) (by omega) (by intro _;rw [show lowA 11=1 from rfl] at hlo;rw [show highA 11=8 from rfl] at hhi;omega) _ _ _ _ _ bb x _ tb pw hk hB (by omega)) (fun v h1 Lp hl1 hr=>?_)
 obtain ⟨hB2,rfl⟩:=hr
 conv=>whnf
 repeat' first | (((first | refine opsI.step ?_ | refine codeI.step ?_)) <;> (conv=>whnf))
 exact RetN.drop0 (RetN.done ⟨hB2,rfl⟩)
set_option maxRecDepth 20000 in
set_option maxHeartbeats 2000000 in
theorem write_12 {arg:Int} {neg:Bool} {l m name:List Nat} {ks:List Tr} (hn:nodeB 12 arg neg l m name ks.length) (hw:∀t∈ks,WriteP t):WriteP (.mk 12 arg neg l m name ks):=by
 intro h vs bb x L tb pw w hB hl
 obtain ⟨a,b,s,rfl,ho,ha,hv,hb,hk⟩:=w.isK
 have hkl:=hk.len
 have hks:ks.length≤3:=by have h1:=hn.1;have h2:=kidsN_le 12;omega
 have ht:textT (.mk 12 arg neg l m name ks)=headX 12 arg++joinF true (textsT ks)++[41]:=by rw [textT];rfl
 rw [ht] at hl ⊢
 have hlo:=hn.2.1
 have hhi:=hn.2.2.1
 have hlh:=lowHigh 12
 have hjg:=joinF_ge true (textsT ks)
 simp only [List.length_append,List.length_cons,List.length_nil] at hl
 refine fn_of_codeI ok D.expr_write rfl ?_
 conv=>whnf
 repeat ((first | refine opsI.step ?_ | refine codeI.step ?_);conv=>whnf)
 repeat' first | ((first | (show SeqN _ _ _ _ _ _ _;refine SeqN.go ?_) | ((first | refine opsI.step ?_ | refine codeI.step ?_)) | intro (_:Nat) | refine LdN.own 0 rfl rfl ?_ | refine Ld.own 0 rfl rfl ?_) <;> (conv=>whnf)) | (refine cnd_eq (fun _=>?_) (fun _=>?_) <;> first | (exfalso;omega) | (conv=>whnf))
 refine CallN.all (A:=[_]) rfl (XList_ct hw hks _ 12 arg (by decide) (by omega) (by intro e;exact absurd e (by decide)) _ _ _ _ _ bb x _ tb pw hk hB (by omega)) (fun v h1 Lp hl1 hr=>?_)
 obtain ⟨hB2,rfl⟩:=hr
 conv=>whnf
 repeat' first | (((first | refine opsI.step ?_ | refine codeI.step ?_)) <;> (conv=>whnf))
 exact RetN.drop0 (RetN.done ⟨hB2,rfl⟩)
set_option maxRecDepth 20000 in
set_option maxHeartbeats 2000000 in
theorem write_13 {arg:Int} {neg:Bool} {l m name:List Nat} {ks:List Tr} (hn:nodeB 13 arg neg l m name ks.length) (hw:∀t∈ks,WriteP t):WriteP (.mk 13 arg neg l m name ks):=by
 intro h vs bb x L tb pw w hB hl
 obtain ⟨a,b,s,rfl,ho,ha,hv,hb,hk⟩:=w.isK
 have hkl:=hk.len
 have hks:ks.length≤3:=by have h1:=hn.1;have h2:=kidsN_le 13;omega
 have ht:textT (.mk 13 arg neg l m name ks)=headX 13 arg++joinF true (textsT ks)++[41]:=by rw [textT];rfl
 rw [ht] at hl ⊢
 have hlo:=hn.2.1
 have hhi:=hn.2.2.1
 have hlh:=lowHigh 13
 have hjg:=joinF_ge true (textsT ks)
 simp only [List.length_append,List.length_cons,List.length_nil] at hl
 refine fn_of_codeI ok D.expr_write rfl ?_
 conv=>whnf
 repeat ((first | refine opsI.step ?_ | refine codeI.step ?_);conv=>whnf)
 repeat' first | ((first | (show SeqN _ _ _ _ _ _ _;refine SeqN.go ?_) | ((first | refine opsI.step ?_ | refine codeI.step ?_)) | intro (_:Nat) | refine LdN.own 0 rfl rfl ?_ | refine Ld.own 0 rfl rfl ?_) <;> (conv=>whnf)) | (refine cnd_eq (fun _=>?_) (fun _=>?_) <;> first | (exfalso;omega) | (conv=>whnf))
 refine CallN.all (A:=[_]) rfl (XList_ct hw hks _ 13 arg (by decide) (by omega) (by intro e;exact absurd e (by decide)) _ _ _ _ _ bb x _ tb pw hk hB (by omega)) (fun v h1 Lp hl1 hr=>?_)
 obtain ⟨hB2,rfl⟩:=hr
 conv=>whnf
 repeat' first | (((first | refine opsI.step ?_ | refine codeI.step ?_)) <;> (conv=>whnf))
 exact RetN.drop0 (RetN.done ⟨hB2,rfl⟩)
set_option maxRecDepth 20000 in
set_option maxHeartbeats 2000000 in
theorem write_14 {arg:Int} {neg:Bool} {l m name:List Nat} {ks:List Tr} (hn:nodeB 14 arg neg l m name ks.length) (hw:∀t∈ks,WriteP t):WriteP (.mk 14 arg neg l m name ks):=by
 intro h vs bb x L tb pw w hB hl
 obtain ⟨a,b,s,rfl,ho,ha,hv,hb,hk⟩:=w.isK
 have hkl:=hk.len
 have hks:ks.length≤3:=by have h1:=hn.1;have h2:=kidsN_le 14;omega
 have ht:textT (.mk 14 arg neg l m name ks)=headX 14 arg++joinF true (textsT ks)++[41]:=by rw [textT];rfl
 rw [ht] at hl ⊢
 have hlo:=hn.2.1
 have hhi:=hn.2.2.1
 have hlh:=lowHigh 14
 have hjg:=joinF_ge true (textsT ks)
 simp only [List.length_append,List.length_cons,List.length_nil] at hl
 refine fn_of_codeI ok D.expr_write rfl ?_
 conv=>whnf
 repeat ((first | refine opsI.step ?_ | refine codeI.step ?_);conv=>whnf)
 repeat' first | ((first | (show SeqN _ _ _ _ _ _ _;refine SeqN.go ?_) | ((first | refine opsI.step ?_ | refine codeI.step ?_)) | intro (_:Nat) | refine LdN.own 0 rfl rfl ?_ | refine Ld.own 0 rfl rfl ?_) <;> (conv=>whnf)) | (refine cnd_eq (fun _=>?_) (fun _=>?_) <;> first | (exfalso;omega) | (conv=>whnf))
 refine CallN.all (A:=[_]) rfl (XList_ct hw hks _ 14 arg (by decide) (by omega) (by intro e;exact absurd e (by decide)) _ _ _ _ _ bb x _ tb pw hk hB (by omega)) (fun v h1 Lp hl1 hr=>?_)
 obtain ⟨hB2,rfl⟩:=hr
 conv=>whnf
 repeat' first | (((first | refine opsI.step ?_ | refine codeI.step ?_)) <;> (conv=>whnf))
 exact RetN.drop0 (RetN.done ⟨hB2,rfl⟩)
set_option maxRecDepth 20000 in
set_option maxHeartbeats 2000000 in
theorem write_15 {arg:Int} {neg:Bool} {l m name:List Nat} {ks:List Tr} (hn:nodeB 15 arg neg l m name ks.length) (hw:∀t∈ks,WriteP t):WriteP (.mk 15 arg neg l m name ks):=by
 intro h vs bb x L tb pw w hB hl
 obtain ⟨a,b,s,rfl,ho,ha,hv,hb,hk⟩:=w.isK
 have hkl:=hk.len
 have hks:ks.length≤3:=by have h1:=hn.1;have h2:=kidsN_le 15;omega
 have ht:textT (.mk 15 arg neg l m name ks)=headX 15 arg++joinF true (textsT ks)++[41]:=by rw [textT];rfl
 rw [ht] at hl ⊢
 have hlo:=hn.2.1
 have hhi:=hn.2.2.1
 have hlh:=lowHigh 15
 have hjg:=joinF_ge true (textsT ks)
 simp only [List.length_append,List.length_cons,List.length_nil] at hl
 refine fn_of_codeI ok D.expr_write rfl ?_
 conv=>whnf
 repeat ((first | refine opsI.step ?_ | refine codeI.step ?_);conv=>whnf)
 repeat' first | ((first | (show SeqN _ _ _ _ _ _ _;refine SeqN.go ?_) | ((first | refine opsI.step ?_ | refine codeI.step ?_)) | intro (_:Nat) | refine LdN.own 0 rfl rfl ?_ | refine Ld.own 0 rfl rfl ?_) <;> (conv=>whnf)) | (refine cnd_eq (fun _=>?_) (fun _=>?_) <;> first | (exfalso;omega) | (conv=>whnf))
 refine CallN.all (A:=[_]) rfl (XList_ct hw hks _ 15 arg (by decide) (by omega) (by intro e;exact absurd e (by decide)) _ _ _ _ _ bb x _ tb pw hk hB (by omega)) (fun v h1 Lp hl1 hr=>?_)
 obtain ⟨hB2,rfl⟩:=hr
 conv=>whnf
 repeat' first | (((first | refine opsI.step ?_ | refine codeI.step ?_)) <;> (conv=>whnf))
 exact RetN.drop0 (RetN.done ⟨hB2,rfl⟩)
theorem write_ct:∀(t:Tr) (d:Nat),okT d t→WriteP t:=by
 refine tree_ind fun t ih=>?_
 intro d hok
 obtain ⟨op,arg,neg,l,m,name,ks⟩:=t
 rw [okT] at hok
 obtain ⟨-,hn,hks⟩:=hok
 have hw:∀t∈ks,WriteP t:=fun t ht=>by
  obtain ⟨j,hj⟩:=List.mem_iff_getElem?.1 ht
  exact ih t (szT_kid hj) (d+1) (okTs_mem hks ht)
 have hop:1≤op∧op≤15:=by
  have h1:=hn.1
  have h2:kidsN op≠-1→1≤op∧op≤15:=fun x=>by
   unfold kidsN at x
   repeat' split at x
   all_goals omega
  exact h2 (by omega)
 have:op=1∨op=2∨op=3∨op=4∨op=5∨op=6∨op=7∨op=8∨op=9∨op=10∨op=11∨op=12∨op=13∨op=14∨op=15:=by omega
 rcases this with rfl | rfl | rfl | rfl | rfl | rfl | rfl | rfl | rfl | rfl | rfl | rfl | rfl | rfl | rfl
 ·exact write_1 hn hw
 ·exact write_2 hn hw
 ·exact write_3 hn hw
 ·exact write_4 hn hw
 ·exact write_5 hn hw
 ·exact write_6 hn hw
 ·exact write_7 hn hw
 ·exact write_8 hn hw
 ·exact write_9 hn hw
 ·exact write_10 hn hw
 ·exact write_11 hn hw
 ·exact write_12 hn hw
 ·exact write_13 hn hw
 ·exact write_14 hn hw
 ·exact write_15 hn hw
end Go.Proofs.YtbgicephinomlaaGreatDoor