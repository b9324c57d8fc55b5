/- The text of a tree, written to a builder. -/
import Derived.Test.YtieblmbjldlaeaaGreatDoorE23
set_option linter.all false
set_option maxHeartbeats 2000000
set_option maxRecDepth 20000
namespace Go.Proofs.Y
open Go Go.Vc Go.Dig
def bK (t:Tr):Prop:=∀(h:aA) (vs:List Value) (b:Nat) (x:List Nat) (L:Own),Tb h→Pw h→IsE h vs t→Bld b x L→x.length+(aF t).length≤500000000→
 Vc.Fn T F.q99 [.pointer (some ⟨b,0,none⟩),.agg vs.toArray] h L fun r h' L'=>Bld b (x++aF t) L'∧r=.tuple #[]
attribute [local irreducible] Vc.Fn
theorem fT {t:Tr} (hw:bK t) (h:aA) (op arg:Int) (neg:Bool) (a b':Sl) (name:List Nat) (s:Sl) (b:Nat) (x:List Nat) (L:Own) (low:Int) (tb:Tb h) (pw:Pw h)
  (w:IsE h [.int .i64 op,.int .i64 arg,.bool neg,a.val,b'.val,.string (txt name),s.val] t) (hB:Bld b x L) (hl:x.length+(aN (aF t,aU t.op) low).length≤500000000):
  Vc.Fn T F.q155 [.pointer (some ⟨b,0,none⟩),.agg #[.int .i64 op,.int .i64 arg,.bool neg,a.val,b'.val,.string (txt name),s.val],.int .i64 low] h L fun r h' L'=>Bld b (x++aN (aF t,aU t.op) low) L'∧r=.tuple #[]:=by
 have hop:t.op=op:=by
  obtain ⟨o,ar,n,l,m,nm,ks⟩:=t
  rw [IsE] at w
  obtain ⟨_,_,_,e,-⟩:=w
  injection e with e1 _
  injection e1 with _ e2
  exact e2.symm
 rw [hop] at hl ⊢
 have c0:=fun h=>aBa h op
 obtain ⟨K,hK⟩:∃K,K=aU op:=⟨_,rfl⟩
 rw [← hK] at c0 hl ⊢
 have p1:low≤K→aN (aF t,K) low=aF t:=fun y=>if_pos y
 have p2:¬low≤K→aN (aF t,K) low=[40]++aF t++[41]:=fun y=>if_neg y
 obtain ⟨P,hP⟩:∃P,P=aN (aF t,K) low:=⟨_,rfl⟩
 rw [← hP] at p1 p2 hl ⊢
 clear hP
 refine f1C ok D.q155 rfl ?_
 conv=>whnf
 repeat' first|((first|(show CN _ _ _ _ _ _;refine CN.quiet rfl (c0 _) ?_)|((first|apply oI.z|apply cI.z))|intro (_:Nat)|refine LdN.o 0 rfl rfl ?_|refine Ld.o 0 rfl rfl ?_) <;> (conv=>whnf))|(apply bI<;>intro _<;>first|(exfalso;omega)|conv=>whnf)
 ·rw [p1 (by omega)] at hl ⊢
  refine CN.all (A:=[_]) rfl (hw _ _ b x _ tb pw w hB (by omega)) (fun v h' Lp hl hr=>?_)
  obtain ⟨hB1,rfl⟩:=hr
  conv=>whnf
  repeat' first|(((first|apply oI.z|apply cI.z)) <;> (conv=>whnf))
  exact RN.drop0 (RN.done ⟨hB1,rfl⟩)
 ·rw [p2 (by omega)] at hl ⊢
  simp only [aVo,aVs,aVv] at hl
  refine CN.all (A:=[_]) rfl (WSc _ b x [40] _ hB (by decide) (by decide) (by simp only [aVs,aVv];omega)) (fun v h' Lp hl hr=>?_)
  obtain ⟨rfl,hB1,n1,e1,rfl⟩:=hr
  conv=>whnf
  repeat' first|((first|((first|apply oI.z|apply cI.z))|refine LdN.o 0 rfl rfl ?_) <;> (conv=>whnf))
  refine CN.all (A:=[_]) rfl (hw _ _ b _ _ tb pw w hB1 (by simp only [aVo,aVs,aVv];omega)) (fun v h' Lp hl hr=>?_)
  obtain ⟨hB2,rfl⟩:=hr
  conv=>whnf
  repeat' first|(((first|apply oI.z|apply cI.z)) <;> (conv=>whnf))
  refine CN.all (A:=[_]) rfl (WSc _ b _ [41] _ hB2 (by decide) (by decide) (by simp only [aVo,aVs,aVv];omega)) (fun v h' Lp hl hr=>?_)
  obtain ⟨rfl,hB3,n2,e2,rfl⟩:=hr
  conv=>whnf
  repeat' first|(((first|apply oI.z|apply cI.z)) <;> (conv=>whnf))
  refine RN.drop0 (RN.done ⟨?_,rfl⟩)
  simpa [aVt] using hB3
theorem aNo {t0 t1:Tr} {ks:List Tr} (hks:ks=[t0,t1]) (hw0:bK t0) (hw1:bK t1) (h:aA) (arg:Int) (neg:Bool) (a b':Sl) (name:List Nat) (s:Sl) (bb:Nat) (x:List Nat) (L:Own) (low high:Int) (tb:Tb h) (pw:Pw h)
  (hk:IsK h s ks) (hB:Bld bb x L) (hl:x.length+(aN (aF t0,aU t0.op) low).length+3+(aN (aF t1,aU t1.op) high).length≤500000000):
  Vc.Fn T F.q156 [.pointer (some ⟨bb,0,none⟩),.agg #[.int .i64 5,.int .i64 arg,.bool neg,a.val,b'.val,.string (txt name),s.val],.int .i64 low,.int .i64 high] h L
   fun r h' L'=>Bld bb (x++(aN (aF t0,aU t0.op) low++[32,43,32]++aN (aF t1,aU t1.op) high)) L'∧r=.tuple #[]:=by
 have hl2:=hk.len
 have hks2:ks.length=2:=by rw [hks];rfl
 have ht0:ks[0]?=some t0:=by rw [hks];rfl
 have ht1:ks[1]?=some t1:=by rw [hks];rfl
 refine f1C ok D.q156 rfl ?_
 conv=>whnf
 repeat' first|((first|(show Ext _ _ _ _ _ _ _;first|refine Ext.makeMap (fun bm=>?_)|refine Ext.mapNew 0 (.inl rfl) rfl rfl rfl rfl rfl ?_)|(show Idx _ _ _ _ _;refine Idx.kid hk 0 t0 (by omega) ht0 (fun ad op arg neg a b name s' hE hld=>?_))|refine hld _ _ _ (aA.lr _) ?_|((first|apply oI.z|apply cI.z))|intro (_:Nat)|refine Ld.o 1 rfl rfl ?_) <;> (conv=>whnf))
 refine CN.all (A:=[_,_]) rfl (fT hw0 _ _ _ _ _ _ _ _ bb x _ _ tb pw (by assumption) hB (by omega)) (fun v h1 Lp hl1 hr=>?_)
 obtain ⟨hB1,rfl⟩:=hr
 conv=>whnf
 repeat' first|((first|(show Ext _ _ _ _ _ _ _;refine Ext.mapGet 0 rfl rfl rfl rfl rfl ?_)|((first|apply oI.z|apply cI.z))|refine Ld.o 1 rfl rfl ?_) <;> (conv=>whnf))
 refine CN.all (A:=[_,_]) rfl (WSc _ bb _ [32,43,32] _ hB1 (by decide) (by decide) (by simp only [aVo,aVs,aVv];omega)) (fun v h2 Lp hl2' hr=>?_)
 obtain ⟨rfl,hB2,n1,e1,rfl⟩:=hr
 have hk2:=hk.mono hl1
 conv=>whnf
 repeat' first|((first|(show Idx _ _ _ _ _;refine Idx.kid hk2 1 t1 (by omega) ht1 (fun ad op arg neg a b name s' hE1 hld1=>?_))|refine hld1 _ _ _ (aA.lr _) ?_|((first|apply oI.z|apply cI.z))|refine Ld.o 1 rfl rfl ?_) <;> (conv=>whnf))
 refine CN.all (A:=[_,_]) rfl (fT hw1 _ _ _ _ _ _ _ _ bb _ _ _ (tb.mono hl1) (pw.mono hl1) hE1 hB2 (by simp only [aVo,aVs,aVv];omega)) (fun v h3 Lp hl3 hr=>?_)
 obtain ⟨hB3,rfl⟩:=hr
 conv=>whnf
 repeat' first|(((first|apply oI.z|apply cI.z)) <;> (conv=>whnf))
 refine RN.drop0 (RN.drop0 (RN.done ⟨?_,rfl⟩))
 rw [aVt,aVt] at hB3
 rw [aVt];exact hB3
theorem aNp {t0 t1:Tr} {ks:List Tr} (hks:ks=[t0,t1]) (hw0:bK t0) (hw1:bK t1) (h:aA) (arg:Int) (neg:Bool) (a b':Sl) (name:List Nat) (s:Sl) (bb:Nat) (x:List Nat) (L:Own) (low high:Int) (tb:Tb h) (pw:Pw h)
  (hk:IsK h s ks) (hB:Bld bb x L) (hl:x.length+(aN (aF t0,aU t0.op) low).length+3+(aN (aF t1,aU t1.op) high).length≤500000000):
  Vc.Fn T F.q156 [.pointer (some ⟨bb,0,none⟩),.agg #[.int .i64 6,.int .i64 arg,.bool neg,a.val,b'.val,.string (txt name),s.val],.int .i64 low,.int .i64 high] h L
   fun r h' L'=>Bld bb (x++(aN (aF t0,aU t0.op) low++[32,45,32]++aN (aF t1,aU t1.op) high)) L'∧r=.tuple #[]:=by
 have hl2:=hk.len
 have hks2:ks.length=2:=by rw [hks];rfl
 have ht0:ks[0]?=some t0:=by rw [hks];rfl
 have ht1:ks[1]?=some t1:=by rw [hks];rfl
 refine f1C ok D.q156 rfl ?_
 conv=>whnf
 repeat' first|((first|(show Ext _ _ _ _ _ _ _;first|refine Ext.makeMap (fun bm=>?_)|refine Ext.mapNew 0 (.inl rfl) rfl rfl rfl rfl rfl ?_)|(show Idx _ _ _ _ _;refine Idx.kid hk 0 t0 (by omega) ht0 (fun ad op arg neg a b name s' hE hld=>?_))|refine hld _ _ _ (aA.lr _) ?_|((first|apply oI.z|apply cI.z))|intro (_:Nat)|refine Ld.o 1 rfl rfl ?_) <;> (conv=>whnf))
 refine CN.all (A:=[_,_]) rfl (fT hw0 _ _ _ _ _ _ _ _ bb x _ _ tb pw (by assumption) hB (by omega)) (fun v h1 Lp hl1 hr=>?_)
 obtain ⟨hB1,rfl⟩:=hr
 conv=>whnf
 repeat' first|((first|(show Ext _ _ _ _ _ _ _;refine Ext.mapGet 0 rfl rfl rfl rfl rfl ?_)|((first|apply oI.z|apply cI.z))|refine Ld.o 1 rfl rfl ?_) <;> (conv=>whnf))
 refine CN.all (A:=[_,_]) rfl (WSc _ bb _ [32,45,32] _ hB1 (by decide) (by decide) (by simp only [aVo,aVs,aVv];omega)) (fun v h2 Lp hl2' hr=>?_)
 obtain ⟨rfl,hB2,n1,e1,rfl⟩:=hr
 have hk2:=hk.mono hl1
 conv=>whnf
 repeat' first|((first|(show Idx _ _ _ _ _;refine Idx.kid hk2 1 t1 (by omega) ht1 (fun ad op arg neg a b name s' hE1 hld1=>?_))|refine hld1 _ _ _ (aA.lr _) ?_|((first|apply oI.z|apply cI.z))|refine Ld.o 1 rfl rfl ?_) <;> (conv=>whnf))
 refine CN.all (A:=[_,_]) rfl (fT hw1 _ _ _ _ _ _ _ _ bb _ _ _ (tb.mono hl1) (pw.mono hl1) hE1 hB2 (by simp only [aVo,aVs,aVv];omega)) (fun v h3 Lp hl3 hr=>?_)
 obtain ⟨hB3,rfl⟩:=hr
 conv=>whnf
 repeat' first|(((first|apply oI.z|apply cI.z)) <;> (conv=>whnf))
 refine RN.drop0 (RN.drop0 (RN.done ⟨?_,rfl⟩))
 rw [aVt,aVt] at hB3
 rw [aVt];exact hB3
theorem aNq {t0 t1:Tr} {ks:List Tr} (hks:ks=[t0,t1]) (hw0:bK t0) (hw1:bK t1) (h:aA) (arg:Int) (neg:Bool) (a b':Sl) (name:List Nat) (s:Sl) (bb:Nat) (x:List Nat) (L:Own) (low high:Int) (tb:Tb h) (pw:Pw h)
  (hk:IsK h s ks) (hB:Bld bb x L) (hl:x.length+(aN (aF t0,aU t0.op) low).length+3+(aN (aF t1,aU t1.op) high).length≤500000000):
  Vc.Fn T F.q156 [.pointer (some ⟨bb,0,none⟩),.agg #[.int .i64 7,.int .i64 arg,.bool neg,a.val,b'.val,.string (txt name),s.val],.int .i64 low,.int .i64 high] h L
   fun r h' L'=>Bld bb (x++(aN (aF t0,aU t0.op) low++[32,42,32]++aN (aF t1,aU t1.op) high)) L'∧r=.tuple #[]:=by
 have hl2:=hk.len
 have hks2:ks.length=2:=by rw [hks];rfl
 have ht0:ks[0]?=some t0:=by rw [hks];rfl
 have ht1:ks[1]?=some t1:=by rw [hks];rfl
 refine f1C ok D.q156 rfl ?_
 conv=>whnf
 repeat' first|((first|(show Ext _ _ _ _ _ _ _;first|refine Ext.makeMap (fun bm=>?_)|refine Ext.mapNew 0 (.inl rfl) rfl rfl rfl rfl rfl ?_)|(show Idx _ _ _ _ _;refine Idx.kid hk 0 t0 (by omega) ht0 (fun ad op arg neg a b name s' hE hld=>?_))|refine hld _ _ _ (aA.lr _) ?_|((first|apply oI.z|apply cI.z))|intro (_:Nat)|refine Ld.o 1 rfl rfl ?_) <;> (conv=>whnf))
 refine CN.all (A:=[_,_]) rfl (fT hw0 _ _ _ _ _ _ _ _ bb x _ _ tb pw (by assumption) hB (by omega)) (fun v h1 Lp hl1 hr=>?_)
 obtain ⟨hB1,rfl⟩:=hr
 conv=>whnf
 repeat' first|((first|(show Ext _ _ _ _ _ _ _;refine Ext.mapGet 0 rfl rfl rfl rfl rfl ?_)|((first|apply oI.z|apply cI.z))|refine Ld.o 1 rfl rfl ?_) <;> (conv=>whnf))
 refine CN.all (A:=[_,_]) rfl (WSc _ bb _ [32,42,32] _ hB1 (by decide) (by decide) (by simp only [aVo,aVs,aVv];omega)) (fun v h2 Lp hl2' hr=>?_)
 obtain ⟨rfl,hB2,n1,e1,rfl⟩:=hr
 have hk2:=hk.mono hl1
 conv=>whnf
 repeat' first|((first|(show Idx _ _ _ _ _;refine Idx.kid hk2 1 t1 (by omega) ht1 (fun ad op arg neg a b name s' hE1 hld1=>?_))|refine hld1 _ _ _ (aA.lr _) ?_|((first|apply oI.z|apply cI.z))|refine Ld.o 1 rfl rfl ?_) <;> (conv=>whnf))
 refine CN.all (A:=[_,_]) rfl (fT hw1 _ _ _ _ _ _ _ _ bb _ _ _ (tb.mono hl1) (pw.mono hl1) hE1 hB2 (by simp only [aVo,aVs,aVv];omega)) (fun v h3 Lp hl3 hr=>?_)
 obtain ⟨hB3,rfl⟩:=hr
 conv=>whnf
 repeat' first|(((first|apply oI.z|apply cI.z)) <;> (conv=>whnf))
 refine RN.drop0 (RN.drop0 (RN.done ⟨?_,rfl⟩))
 rw [aVt,aVt] at hB3
 rw [aVt];exact hB3
theorem aNr {t0 t1:Tr} {ks:List Tr} (hks:ks=[t0,t1]) (hw0:bK t0) (hw1:bK t1) (h:aA) (arg:Int) (neg:Bool) (a b':Sl) (name:List Nat) (s:Sl) (bb:Nat) (x:List Nat) (L:Own) (low high:Int) (tb:Tb h) (pw:Pw h)
  (hk:IsK h s ks) (hB:Bld bb x L) (hl:x.length+(aN (aF t0,aU t0.op) low).length+3+(aN (aF t1,aU t1.op) high).length≤500000000):
  Vc.Fn T F.q156 [.pointer (some ⟨bb,0,none⟩),.agg #[.int .i64 8,.int .i64 arg,.bool neg,a.val,b'.val,.string (txt name),s.val],.int .i64 low,.int .i64 high] h L
   fun r h' L'=>Bld bb (x++(aN (aF t0,aU t0.op) low++[32,47,32]++aN (aF t1,aU t1.op) high)) L'∧r=.tuple #[]:=by
 have hl2:=hk.len
 have hks2:ks.length=2:=by rw [hks];rfl
 have ht0:ks[0]?=some t0:=by rw [hks];rfl
 have ht1:ks[1]?=some t1:=by rw [hks];rfl
 refine f1C ok D.q156 rfl ?_
 conv=>whnf
 repeat' first|((first|(show Ext _ _ _ _ _ _ _;first|refine Ext.makeMap (fun bm=>?_)|refine Ext.mapNew 0 (.inl rfl) rfl rfl rfl rfl rfl ?_)|(show Idx _ _ _ _ _;refine Idx.kid hk 0 t0 (by omega) ht0 (fun ad op arg neg a b name s' hE hld=>?_))|refine hld _ _ _ (aA.lr _) ?_|((first|apply oI.z|apply cI.z))|intro (_:Nat)|refine Ld.o 1 rfl rfl ?_) <;> (conv=>whnf))
 refine CN.all (A:=[_,_]) rfl (fT hw0 _ _ _ _ _ _ _ _ bb x _ _ tb pw (by assumption) hB (by omega)) (fun v h1 Lp hl1 hr=>?_)
 obtain ⟨hB1,rfl⟩:=hr
 conv=>whnf
 repeat' first|((first|(show Ext _ _ _ _ _ _ _;refine Ext.mapGet 0 rfl rfl rfl rfl rfl ?_)|((first|apply oI.z|apply cI.z))|refine Ld.o 1 rfl rfl ?_) <;> (conv=>whnf))
 refine CN.all (A:=[_,_]) rfl (WSc _ bb _ [32,47,32] _ hB1 (by decide) (by decide) (by simp only [aVo,aVs,aVv];omega)) (fun v h2 Lp hl2' hr=>?_)
 obtain ⟨rfl,hB2,n1,e1,rfl⟩:=hr
 have hk2:=hk.mono hl1
 conv=>whnf
 repeat' first|((first|(show Idx _ _ _ _ _;refine Idx.kid hk2 1 t1 (by omega) ht1 (fun ad op arg neg a b name s' hE1 hld1=>?_))|refine hld1 _ _ _ (aA.lr _) ?_|((first|apply oI.z|apply cI.z))|refine Ld.o 1 rfl rfl ?_) <;> (conv=>whnf))
 refine CN.all (A:=[_,_]) rfl (fT hw1 _ _ _ _ _ _ _ _ bb _ _ _ (tb.mono hl1) (pw.mono hl1) hE1 hB2 (by simp only [aVo,aVs,aVv];omega)) (fun v h3 Lp hl3 hr=>?_)
 obtain ⟨hB3,rfl⟩:=hr
 conv=>whnf
 repeat' first|(((first|apply oI.z|apply cI.z)) <;> (conv=>whnf))
 refine RN.drop0 (RN.drop0 (RN.done ⟨?_,rfl⟩))
 rw [aVt,aVt] at hB3
 rw [aVt];exact hB3
end Go.Proofs.Y
/- The text of a tree, written to a builder: words with operands; the whole. -/
namespace Go.Proofs.Y
open Go Go.Vc Go.Dig
theorem aDa (n:Nat):∀y∈bA.getD n [],y<256:=by
 by_cases h:n<8
 ·have:∀k,k<8→∀y∈bA.getD k [],y<256:=by decide
  exact this n h
 ·rw [aVp,List.getElem?_eq_none (by show bA.length≤n;have:bA.length=8:=rfl;omega)];simp
theorem tY (op arg:Int):∀y∈cH op arg,y<256:=by
 have h1:=tW arg
 have h2:=aDa (arg.toNat-1)
 unfold cH
 (repeat' split) <;> intro y hy
 ·simp only [aV7,List.not_mem_nil,or_false] at hy;omega
 ·rcases aVx.1 hy with hy|hy
  ·rcases aVx.1 hy with hy|hy
   ·simp only [aV7,List.not_mem_nil,or_false] at hy;omega
   ·exact h1 y hy
  ·simp only [aV7,List.not_mem_nil,or_false] at hy;omega
 ·rcases aVx.1 hy with hy|hy
  ·exact h2 y hy
  ·simp only [aV7,List.not_mem_nil,or_false] at hy;omega
 all_goals first
  | (simp only [aV7,List.not_mem_nil,or_false] at hy;omega)
  | (simp at hy)
theorem aJr {op:Int} (arg:Int) (h:10≤op∧op≤15):cH op arg≠[]:=by
 unfold cH
 repeat' split
 all_goals simp
 omega
attribute [local irreducible] Vc.Fn
theorem wJ {ks:List (List Nat × Int)} {j:Nat} {x:List Nat × Int} (h:ks[j]?=some x):kH (ks.take j)+x.1.length≤kH ks:=by
 induction ks generalizing j with
 | nil=>simp at h
 | cons u ks ih=>
  cases j with
  | zero=>simp at h;subst h;simp [kH]
  | succ j=>have:=ih (j:=j) (by simpa using h);simp only [List.take_succ_cons,kH];omega
theorem mA:∀(b:Bool) (l:List (List Nat × Int)) (x:List Nat × Int),bM b (l++[x])=bM b l++(if b=true∧l=[] then [] else [44,32])++x.1
 | true,[],x=>by simp [bM]
 | false,[],x=>by simp [bM]
 | true,y::l,x=>by
  rw [List.cons_append,bM,bM,mA false l x]
  simp
 | false,y::l,x=>by
  rw [List.cons_append,bM,bM,mA false l x]
  simp
theorem fU:∀(b:Bool) (j:Nat) (xs:List (List Nat × Int)),(bM b (xs.take j)).length≤(bM b xs).length
 | b,0,xs=>by cases b <;> simp [bM]
 | b,j+1,[]=>by simp
 | true,j+1,x::r=>by have:=fU false j r;simp only [List.take_succ_cons,bM,aVo];omega
 | false,j+1,x::r=>by have:=fU false j r;simp only [List.take_succ_cons,bM,aVo,aVs,aVv];omega
theorem iN:∀(b:Bool) (xs:List (List Nat × Int)),kH xs≤(bM b xs).length
 | true,[]=>by simp [bM,kH]
 | false,[]=>by simp [bM,kH]
 | true,x::r=>by have:=iN false r;simp only [bM,kH,aVo];omega
 | false,x::r=>by have:=iN false r;simp only [bM,kH,aVo,aVs,aVv];omega
theorem yP {ks:List Tr} {t0 t1:Tr} (hn:ks.length=2) (h0:ks[0]?=some t0) (h1:ks[1]?=some t1):ks=[t0,t1]:=by
 match ks,hn with
 | [a,b],_=>
  simp at h0 h1
  rw [h0,h1]
theorem lE {ks:List Tr} (hw:∀t∈ks,bK t) (hks:ks.length≤3) (h:aA) (op arg:Int) (hop:10≤op∧op≤15) (harg:-100≤arg∧arg≤100) (harg11:op=11→1≤arg∧arg≤8) (neg:Bool) (a b':Sl) (name:List Nat) (s:Sl) (bb:Nat) (x:List Nat) (L:Own) (tb:Tb h) (pw:Pw h)
  (hk:IsK h s ks) (hB:Bld bb x L) (hl:x.length+((cH op arg).length+(bM true (aG ks)).length+1)≤500000000):
  Vc.Fn T F.q158 [.pointer (some ⟨bb,0,none⟩),.agg #[.int .i64 op,.int .i64 arg,.bool neg,a.val,b'.val,.string (txt name),s.val]] h L
   fun r h' L'=>Bld bb (x++(cH op arg++bM true (aG ks)++[41])) L'∧r=.tuple #[]:=by
 have hkl:=hk.len
 have c1:=fun h pw=>aEr h pw arg (by omega) (by omega)
 have hil:=nM harg.1 harg.2
 have hhl:=rE (op:=op) harg.1 harg.2
 have hhb:=tY op arg
 have hhn:=aJr arg hop
 have k1:op=10→arg=2→cH op arg=[115,113,114,116,40]:=fun e f=>by rw [cH,if_pos e,if_pos f]
 have k2:op=10→arg≠2→cH op arg=[114,111,111,116,40]++itT arg++[44,32]:=fun e f=>by rw [cH,if_pos e,if_neg f]
 have k3:op=11→cH op arg=bA.getD (arg.toNat-1) []++[40]:=fun e=>by subst e;rfl
 have k4:op=12→cH op arg=[97,98,115,40]:=fun e=>by subst e;rfl
 have k5:op=13→cH op arg=[109,105,110,40]:=fun e=>by subst e;rfl
 have k6:op=14→cH op arg=[109,97,120,40]:=fun e=>by subst e;rfl
 have k7:op=15→cH op arg=[105,102,40]:=fun e=>by subst e;rfl
 obtain ⟨HD,hHD⟩:∃x,x=cH op arg:=⟨_,rfl⟩
 rw [← hHD] at hl hhl hhb hhn k1 k2 k3 k4 k5 k6 k7 ⊢
 clear hHD
 have c3:op=11→∀h,Fn0 T F.q195 [.int .i64 arg] h fun v h'=>v=.string (txt (bA.getD (arg.toNat-1) [])):=fun e h=>by
  have:=aNn h arg.toNat (by have:=(harg11 e).1;omega) (by have:=(harg11 e).2;omega)
  rw [Int.toNat_of_nonneg (by have:=(harg11 e).1;omega)] at this;exact this
 have hfl:=rD (arg.toNat-1)
 obtain ⟨FN,hFN⟩:∃x,x=bA.getD (arg.toNat-1) []:=⟨_,rfl⟩
 rw [← hFN] at c3 k3 hfl
 clear hFN
 refine f1C ok D.q158 rfl ?_
 conv=>whnf
 repeat' first|((first|((first|apply oI.z|apply cI.z))|intro (_:Nat)) <;> (conv=>whnf))
 rename_i be
 refine aX.cut (fun ρ hx Lx=>rd ρ 4=.string (txt HD)∧h.le hx∧Lx=(be,.cells [.int .i64 op,.int .i64 arg,.bool neg,a.val,b'.val,.string (txt name),s.val].toArray Ty.api_Expr (0,0))::L) ?_ ?_
 ·conv=>whnf
  repeat' first|((first|(show CN _ _ _ _ _ _;first|refine CN.quiet rfl (c1 _ (by assumption)) ?_|(refine CN.f rfl (c3 (by omega) _) (fun v h' hl2 hr=>?_);subst hr))|(show Cat _ _ _;first|(refine Cat.txt (a:=[114,111,111,116,40]) (b:=itT arg) rfl rfl (by simp only [aVs,aVv];omega) ?_)|(refine Cat.txt (a:=[114,111,111,116,40]++itT arg) (b:=[44,32]) rfl rfl (by simp only [aVo,aVs,aVv];omega) ?_)|(refine Cat.txt (a:=FN) (b:=[40]) rfl rfl (by simp only [aVs,aVv];omega) ?_))|((first|apply oI.z|apply cI.z))|refine Ld.o 0 rfl rfl ?_) <;> (conv=>whnf))|(apply aE<;>intro _<;>first|(exfalso;omega)|conv=>whnf)
  all_goals first
   | exact ⟨rfl,by rw [k1 (by omega) (by omega)];rfl,aA.lr _,rfl⟩
   | exact ⟨rfl,by rw [k2 (by omega) (by omega)];rfl,aA.lr _,rfl⟩
   | exact ⟨rfl,by rw [k3 (by omega)];rfl,by assumption,rfl⟩
   | exact ⟨rfl,by rw [k4 (by omega)];rfl,aA.lr _,rfl⟩
   | exact ⟨rfl,by rw [k5 (by omega)];rfl,aA.lr _,rfl⟩
   | exact ⟨rfl,by rw [k6 (by omega)];rfl,aA.lr _,rfl⟩
   | exact ⟨rfl,by rw [k7 (by omega)];rfl,aA.lr _,rfl⟩
 conv=>whnf
 repeat intro _
 rename_i h1 L1 hJ
 obtain ⟨e4,hle1,rfl⟩:=hJ
 conv at e4=>lhs;whnf
 subst e4
 have tb1:=tb.mono hle1
 have pw1:=pw.mono hle1
 have hk1:=hk.mono hle1
 conv=>whnf
 repeat ((first|apply oI.z|apply cI.z);conv=>whnf)
 skip
 refine CN.all (A:=[_]) rfl (WSc _ bb x HD _ hB hhb hhn (by omega)) (fun v h2 Lp hl1 hr=>?_)
 obtain ⟨rfl,hB1,n1,e1,rfl⟩:=hr
 conv=>whnf
 repeat' first|((first|((first|apply oI.z|apply cI.z))|refine Ld.o 0 rfl rfl ?_) <;> (conv=>whnf))
 have htl:=lY ks
 have hjl:=lC true (aG ks)
 clear k1 k2 k3 k4 k5 k6 k7 c1 c3
 refine LpN.of (fun r ρ hx Lx=>∃(j:Nat) (X LB:Own),r=ks.length-j∧h2.le hx∧j≤ks.length∧rd ρ 39=.int .i64 j∧Lx=X++LB∧Bld bb (x++HD++bM true ((aG ks).take j)) LB) ks.length
  ⟨0,[_],_,rfl,aA.lr _,aWe _,vi rfl,rfl,by rw [List.take_zero];simpa [bM] using hB1⟩ ?_
 conv=>whnf
 repeat intro _
 rename_i r hx Lx hI
 obtain ⟨j,X,LB,rfl,hle,hj,e39,rfl,hBj⟩:=hI
 conv at e39=>lhs;whnf
 subst e39
 by_cases hjk:j=ks.length
 ·subst hjk
  rw [← htl,aV4] at hBj
  conv=>whnf
  repeat' first|((first|((first|apply oI.z|apply cI.z))) <;> (conv=>whnf))|(apply aB<;>intro _<;>first|(exfalso;omega)|conv=>whnf)
  refine CN.all (A:=X) rfl (WSc _ bb _ [41] _ hBj (by decide) (by decide) (by simp only [aVo,aVs,aVv];omega)) (fun v h3 Lp hl1 hr=>?_)
  obtain ⟨rfl,hB2,n2,e2,rfl⟩:=hr
  conv=>whnf
  repeat' first|(((first|apply oI.z|apply cI.z)) <;> (conv=>whnf))
  refine RN.dropF (RN.done ⟨?_,rfl⟩) _
  simpa [aVt] using hB2
 ·obtain ⟨t,ht⟩:∃t,ks[j]?=some t:=⟨_,aVq (by omega)⟩
  have hwt:=hw t (aVu ht)
  have hgt:=cV ht
  have hsp:=wJ hgt
  have hjj:=fU true (j+1) (aG ks)
  have htk:(aG ks).take (j+1)=(aG ks).take j++[(aF t,aU t.op)]:=aZ hgt
  have hjs:bM true ((aG ks).take j++[(aF t,aU t.op)])=bM true ((aG ks).take j)++(if true=true∧(aG ks).take j=[] then [] else [44,32])++aF t:=mA true ((aG ks).take j) (aF t,aU t.op)
  rw [← htk] at hjs
  have hlt:((aG ks).take j).length=j:=by rw [aV9,htl];omega
  have hne:(aG ks).take j=[]↔j=0:=by rw [← List.length_eq_zero_iff,hlt]
  simp only at hsp
  have hkx:=hk1.mono hle
  have tbx:=tb1.mono hle
  have pwx:=pw1.mono hle
  by_cases hj0:j=0
  ·rw [if_pos (show true=true∧(aG ks).take j=[] from ⟨rfl,hne.2 hj0⟩),aVy] at hjs
   have hjl2:=congrArg List.length hjs
   rw [aVo] at hjl2
   conv=>whnf
   repeat' first|((first|(apply aX.go)|(show Idx _ _ _ _ _;refine Idx.kid hkx j t (by omega) ht (fun ad op arg neg a b name s' hE hld=>?_))|refine hld _ _ _ (aA.lr _) ?_|((first|apply oI.z|apply cI.z))|intro (_:Nat)|refine LdN.o 0 rfl rfl ?_|refine Sto.l 0 rfl rfl rfl ?_) <;> (conv=>whnf))|(apply aB<;>intro _<;>first|(exfalso;omega)|conv=>whnf)
   refine CN.all (A:=_::X) rfl (hwt _ _ bb _ LB tbx pwx (by assumption) hBj (by simp only [aVo];omega)) (fun v h3 Lp hl1 hr=>?_)
   obtain ⟨hB2,rfl⟩:=hr
   conv=>whnf
   repeat' first|((first|((first|apply oI.z|apply cI.z))|refine WN.i64 (by omega) (by omega) ?_) <;> (conv=>whnf))
   exact ⟨rfl,ks.length-(j+1),by omega,j+1,_::X,Lp,rfl,aA.lt hle hl1,by omega,vi (by omega),rfl,by rw [hjs,← aVt];exact hB2⟩
  ·rw [if_neg (fun y=>hj0 (hne.1 y.2))] at hjs
   have hjl2:=congrArg List.length hjs
   rw [aVo,aVo] at hjl2
   simp only [aVs,aVv] at hjl2
   conv=>whnf
   repeat' first|((first|(apply aX.go)|(show Idx _ _ _ _ _;refine Idx.kid hkx j t (by omega) ht (fun ad op arg neg a b name s' hE hld=>?_))|refine hld _ _ _ (aA.lr _) ?_|((first|apply oI.z|apply cI.z))|intro (_:Nat)|refine Sto.l 0 rfl rfl rfl ?_) <;> (conv=>whnf))|(apply aB<;>intro _<;>first|(exfalso;omega)|conv=>whnf)
   refine CN.all (A:=_::X) rfl (WSc _ bb _ [44,32] _ hBj (by decide) (by decide) (by simp only [aVo,aVs,aVv];omega)) (fun v h3 Lp hl1 hr=>?_)
   obtain ⟨rfl,hB2,n2,e2,rfl⟩:=hr
   conv=>whnf
   repeat' first|((first|((first|apply oI.z|apply cI.z))|refine LdN.o 0 rfl rfl ?_) <;> (conv=>whnf))
   refine CN.all (A:=_::X) rfl (hwt _ _ bb _ _ tbx pwx (by assumption) hB2 (by simp only [aVo,aVs,aVv];omega)) (fun v h4 Lp hl2 hr=>?_)
   obtain ⟨hB3,rfl⟩:=hr
   conv=>whnf
   repeat' first|((first|((first|apply oI.z|apply cI.z))|refine WN.i64 (by omega) (by omega) ?_) <;> (conv=>whnf))
   exact ⟨rfl,ks.length-(j+1),by omega,j+1,_::X,Lp,rfl,aA.lt hle hl2,by omega,vi (by omega),rfl,by rw [hjs];simpa [aVt] using hB3⟩
end Go.Proofs.Y