/- The text of a tree, written to a builder. -/
import Derived.Test.YtiohcpiloenmoaaGreatDoorE23
set_option linter.all false
set_option maxHeartbeats 2000000
set_option maxRecDepth 20000
namespace Go.Proofs.Y
open Go Go.Vc Go.Dig
def bJ(t:Tr):Prop:=∀(h:aA) (vs:List Value) (b:Nat) (x:List Nat) (L:Own),Tb h->Pw h->IsE h vs t->Bld b x L->x.length+(aM t).length<=500000000->
 Vc.Fn T F.q66 [.pointer (some ⟨b,0,none⟩),.agg vs.toArray] h L fun r h' L'=>Bld b (x++aM t) L'/\r=.tuple #[]
attribute [local irreducible] Vc.Fn
theorem iF{t:Tr}(hw:bJ t)(h:aA)(op arg:Int)(neg:Bool)(a b':Sl)(name:List Nat)(s:Sl)(b:Nat)(x:List Nat)(L:Own)(low:Int)(tb:Tb h)(pw:Pw h)
  (w:IsE h [.int .i64 op,.int .i64 arg,.bool neg,a.val,b'.val,.string (txt name),s.val] t) (hB:Bld b x L) (hl:x.length+(bG (aM t,cX t.op) low).length<=500000000):
  Vc.Fn T F.q120 [.pointer (some ⟨b,0,none⟩),.agg #[.int .i64 op,.int .i64 arg,.bool neg,a.val,b'.val,.string (txt name),s.val],.int .i64 low] h L fun r h' L'=>Bld b (x++bG (aM t,cX t.op) low) L'/\r=.tuple #[]:=by
 have hop:t.op=op:=by
  obtain⟨o,ar,n,l,m,nm,ks⟩:=t;rw[IsE] at w;obtain⟨_,_,_,e,-⟩:=w
  injection e with e1 _
  injection e1 with _ e2
  exact e2.symm
 rw[hop] at hl ⊢;have c0:=fun h=>aD7 h op
 obtain⟨K,hK⟩:=AE (cX op);rw[<-hK] at c0 hl ⊢;have p1:low<=K->bG (aM t,K) low=aM t:=fun y=>if_pos y
 have p2:¬low<=K->bG (aM t,K) low=[40]++aM t++[41]:=fun y=>if_neg y
 obtain⟨P,hP⟩:=AE (bG (aM t,K) low);rw[<-hP] at p1 p2 hl ⊢;clear hP;refine f1C ok D.q120 rfl ?_;conv=>whnf
 repeat' ((first|(show CN _ _ _ _ _ _;refine CN.quiet rfl (c0 _) ?_)|((first|apply oI.z|apply cI.z))|intro (_:Nat)|refine LdN.o 0 rfl rfl ?_|refine Ld.o 0 rfl rfl ?_|(apply bH<;>intro _<;>try (exfalso;omega)))<;>conv=>whnf)
 .rw[p1 Aa] at hl ⊢;refine CN.all (A:=[_]) rfl (hw _ _ b x _ tb pw w hB Aa) (fun v h' Lp hl hr=>?_)
  obtain⟨hB1,rfl⟩:=hr;conv=>whnf
  repeat' first|(((first|apply oI.z|apply cI.z))<;>(conv=>whnf))
  exact RN.drop0 (RN.done ⟨hB1,rfl⟩)
 .rw[p2 Aa] at hl ⊢;simp only[aY2,aY6,aY9] at hl;refine CN.all (A:=[_]) rfl (WSc _ b x [40] _ hB Ag Ag AD) (fun v h' Lp hl hr=>?_)
  obtain⟨rfl,hB1,n1,e1,rfl⟩:=hr;conv=>whnf
  repeat' ((first|((first|apply oI.z|apply cI.z))|refine LdN.o 0 rfl rfl ?_)<;>conv=>whnf)
  refine CN.all (A:=[_]) rfl (hw _ _ b _ _ tb pw w hB1 Av) (fun v h' Lp hl hr=>?_)
  obtain⟨hB2,rfl⟩:=hr;conv=>whnf
  repeat' first|(((first|apply oI.z|apply cI.z))<;>(conv=>whnf))
  refine CN.all (A:=[_]) rfl (WSc _ b _ [41] _ hB2 Ag Ag Av) (fun v h' Lp hl hr=>?_)
  obtain⟨rfl,hB3,n2,e2,rfl⟩:=hr;conv=>whnf
  repeat' first|(((first|apply oI.z|apply cI.z))<;>(conv=>whnf))
  refine RN.drop0 (RN.done ⟨?_,rfl⟩)
  simpa[aY7] using hB3
theorem aSe{t0 t1:Tr}{ks:List Tr}(hks:ks=[t0,t1])(hw0:bJ t0)(hw1:bJ t1)(h:aA)(arg:Int)(neg:Bool)(a b':Sl)(name:List Nat)(s:Sl)(bb:Nat)(x:List Nat)(L:Own)(low high:Int)(tb:Tb h)(pw:Pw h)
  (hk:IsK h s ks) (hB:Bld bb x L) (hl:x.length+(bG (aM t0,cX t0.op) low).length+3+(bG (aM t1,cX t1.op) high).length<=500000000):
  Vc.Fn T F.q121 [.pointer (some ⟨bb,0,none⟩),.agg #[.int .i64 5,.int .i64 arg,.bool neg,a.val,b'.val,.string (txt name),s.val],.int .i64 low,.int .i64 high] h L
   fun r h' L'=>Bld bb (x++(bG (aM t0,cX t0.op) low++[32,43,32]++bG (aM t1,cX t1.op) high)) L'/\r=.tuple #[]:=by
 have hl2:=hk.len;have hks2:ks.length=2:=by rw[hks];rfl
 have ht0:ks[0]?=some t0:=by rw[hks];rfl
 have ht1:ks[1]?=some t1:=by rw[hks];rfl
 refine f1C ok D.q121 rfl ?_;conv=>whnf
 repeat' ((first|(show Ext _ _ _ _ _ _ _;first|refine Ext.makeMap (fun bm=>?_)|refine Ext.mapNew 0 (.inl rfl) rfl rfl rfl rfl rfl ?_)|(show Idx _ _ _ _ _;refine Idx.kid hk 0 t0 Aa ht0 (fun ad op arg neg a b name s' hE hld=>?_))|refine hld _ _ _ (aA.lr _) ?_|((first|apply oI.z|apply cI.z))|intro (_:Nat)|refine Ld.o 1 rfl rfl ?_)<;>conv=>whnf)
 refine CN.all (A:=[_,_]) rfl (iF hw0 _ _ _ _ _ _ _ _ bb x _ _ tb pw Ab hB Aa) (fun v h1 Lp hl1 hr=>?_)
 obtain⟨hB1,rfl⟩:=hr;conv=>whnf
 repeat' ((first|(show Ext _ _ _ _ _ _ _;refine Ext.mapGet 0 rfl rfl rfl rfl rfl ?_)|((first|apply oI.z|apply cI.z))|refine Ld.o 1 rfl rfl ?_)<;>conv=>whnf)
 refine CN.all (A:=[_,_]) rfl (WSc _ bb _ [32,43,32] _ hB1 Ag Ag Av) (fun v h2 Lp hl2' hr=>?_)
 obtain⟨rfl,hB2,n1,e1,rfl⟩:=hr;have hk2:=hk.mono hl1;conv=>whnf
 repeat' ((first|(show Idx _ _ _ _ _;refine Idx.kid hk2 1 t1 Aa ht1 (fun ad op arg neg a b name s' hE1 hld1=>?_))|refine hld1 _ _ _ (aA.lr _) ?_|((first|apply oI.z|apply cI.z))|refine Ld.o 1 rfl rfl ?_)<;>conv=>whnf)
 refine CN.all (A:=[_,_]) rfl (iF hw1 _ _ _ _ _ _ _ _ bb _ _ _ (tb.mono hl1) (pw.mono hl1) hE1 hB2 Av) (fun v h3 Lp hl3 hr=>?_)
 obtain⟨hB3,rfl⟩:=hr;conv=>whnf
 repeat' first|(((first|apply oI.z|apply cI.z))<;>(conv=>whnf))
 refine RN.drop0 (RN.drop0 (RN.done ⟨?_,rfl⟩));rw[aY7,aY7] at hB3;rw[aY7];exact hB3
theorem aSf{t0 t1:Tr}{ks:List Tr}(hks:ks=[t0,t1])(hw0:bJ t0)(hw1:bJ t1)(h:aA)(arg:Int)(neg:Bool)(a b':Sl)(name:List Nat)(s:Sl)(bb:Nat)(x:List Nat)(L:Own)(low high:Int)(tb:Tb h)(pw:Pw h)
  (hk:IsK h s ks) (hB:Bld bb x L) (hl:x.length+(bG (aM t0,cX t0.op) low).length+3+(bG (aM t1,cX t1.op) high).length<=500000000):
  Vc.Fn T F.q121 [.pointer (some ⟨bb,0,none⟩),.agg #[.int .i64 6,.int .i64 arg,.bool neg,a.val,b'.val,.string (txt name),s.val],.int .i64 low,.int .i64 high] h L
   fun r h' L'=>Bld bb (x++(bG (aM t0,cX t0.op) low++[32,45,32]++bG (aM t1,cX t1.op) high)) L'/\r=.tuple #[]:=by
 have hl2:=hk.len;have hks2:ks.length=2:=by rw[hks];rfl
 have ht0:ks[0]?=some t0:=by rw[hks];rfl
 have ht1:ks[1]?=some t1:=by rw[hks];rfl
 refine f1C ok D.q121 rfl ?_;conv=>whnf
 repeat' ((first|(show Ext _ _ _ _ _ _ _;first|refine Ext.makeMap (fun bm=>?_)|refine Ext.mapNew 0 (.inl rfl) rfl rfl rfl rfl rfl ?_)|(show Idx _ _ _ _ _;refine Idx.kid hk 0 t0 Aa ht0 (fun ad op arg neg a b name s' hE hld=>?_))|refine hld _ _ _ (aA.lr _) ?_|((first|apply oI.z|apply cI.z))|intro (_:Nat)|refine Ld.o 1 rfl rfl ?_)<;>conv=>whnf)
 refine CN.all (A:=[_,_]) rfl (iF hw0 _ _ _ _ _ _ _ _ bb x _ _ tb pw Ab hB Aa) (fun v h1 Lp hl1 hr=>?_)
 obtain⟨hB1,rfl⟩:=hr;conv=>whnf
 repeat' ((first|(show Ext _ _ _ _ _ _ _;refine Ext.mapGet 0 rfl rfl rfl rfl rfl ?_)|((first|apply oI.z|apply cI.z))|refine Ld.o 1 rfl rfl ?_)<;>conv=>whnf)
 refine CN.all (A:=[_,_]) rfl (WSc _ bb _ [32,45,32] _ hB1 Ag Ag Av) (fun v h2 Lp hl2' hr=>?_)
 obtain⟨rfl,hB2,n1,e1,rfl⟩:=hr;have hk2:=hk.mono hl1;conv=>whnf
 repeat' ((first|(show Idx _ _ _ _ _;refine Idx.kid hk2 1 t1 Aa ht1 (fun ad op arg neg a b name s' hE1 hld1=>?_))|refine hld1 _ _ _ (aA.lr _) ?_|((first|apply oI.z|apply cI.z))|refine Ld.o 1 rfl rfl ?_)<;>conv=>whnf)
 refine CN.all (A:=[_,_]) rfl (iF hw1 _ _ _ _ _ _ _ _ bb _ _ _ (tb.mono hl1) (pw.mono hl1) hE1 hB2 Av) (fun v h3 Lp hl3 hr=>?_)
 obtain⟨hB3,rfl⟩:=hr;conv=>whnf
 repeat' first|(((first|apply oI.z|apply cI.z))<;>(conv=>whnf))
 refine RN.drop0 (RN.drop0 (RN.done ⟨?_,rfl⟩));rw[aY7,aY7] at hB3;rw[aY7];exact hB3
theorem aSg{t0 t1:Tr}{ks:List Tr}(hks:ks=[t0,t1])(hw0:bJ t0)(hw1:bJ t1)(h:aA)(arg:Int)(neg:Bool)(a b':Sl)(name:List Nat)(s:Sl)(bb:Nat)(x:List Nat)(L:Own)(low high:Int)(tb:Tb h)(pw:Pw h)
  (hk:IsK h s ks) (hB:Bld bb x L) (hl:x.length+(bG (aM t0,cX t0.op) low).length+3+(bG (aM t1,cX t1.op) high).length<=500000000):
  Vc.Fn T F.q121 [.pointer (some ⟨bb,0,none⟩),.agg #[.int .i64 7,.int .i64 arg,.bool neg,a.val,b'.val,.string (txt name),s.val],.int .i64 low,.int .i64 high] h L
   fun r h' L'=>Bld bb (x++(bG (aM t0,cX t0.op) low++[32,42,32]++bG (aM t1,cX t1.op) high)) L'/\r=.tuple #[]:=by
 have hl2:=hk.len;have hks2:ks.length=2:=by rw[hks];rfl
 have ht0:ks[0]?=some t0:=by rw[hks];rfl
 have ht1:ks[1]?=some t1:=by rw[hks];rfl
 refine f1C ok D.q121 rfl ?_;conv=>whnf
 repeat' ((first|(show Ext _ _ _ _ _ _ _;first|refine Ext.makeMap (fun bm=>?_)|refine Ext.mapNew 0 (.inl rfl) rfl rfl rfl rfl rfl ?_)|(show Idx _ _ _ _ _;refine Idx.kid hk 0 t0 Aa ht0 (fun ad op arg neg a b name s' hE hld=>?_))|refine hld _ _ _ (aA.lr _) ?_|((first|apply oI.z|apply cI.z))|intro (_:Nat)|refine Ld.o 1 rfl rfl ?_)<;>conv=>whnf)
 refine CN.all (A:=[_,_]) rfl (iF hw0 _ _ _ _ _ _ _ _ bb x _ _ tb pw Ab hB Aa) (fun v h1 Lp hl1 hr=>?_)
 obtain⟨hB1,rfl⟩:=hr;conv=>whnf
 repeat' ((first|(show Ext _ _ _ _ _ _ _;refine Ext.mapGet 0 rfl rfl rfl rfl rfl ?_)|((first|apply oI.z|apply cI.z))|refine Ld.o 1 rfl rfl ?_)<;>conv=>whnf)
 refine CN.all (A:=[_,_]) rfl (WSc _ bb _ [32,42,32] _ hB1 Ag Ag Av) (fun v h2 Lp hl2' hr=>?_)
 obtain⟨rfl,hB2,n1,e1,rfl⟩:=hr;have hk2:=hk.mono hl1;conv=>whnf
 repeat' ((first|(show Idx _ _ _ _ _;refine Idx.kid hk2 1 t1 Aa ht1 (fun ad op arg neg a b name s' hE1 hld1=>?_))|refine hld1 _ _ _ (aA.lr _) ?_|((first|apply oI.z|apply cI.z))|refine Ld.o 1 rfl rfl ?_)<;>conv=>whnf)
 refine CN.all (A:=[_,_]) rfl (iF hw1 _ _ _ _ _ _ _ _ bb _ _ _ (tb.mono hl1) (pw.mono hl1) hE1 hB2 Av) (fun v h3 Lp hl3 hr=>?_)
 obtain⟨hB3,rfl⟩:=hr;conv=>whnf
 repeat' first|(((first|apply oI.z|apply cI.z))<;>(conv=>whnf))
 refine RN.drop0 (RN.drop0 (RN.done ⟨?_,rfl⟩));rw[aY7,aY7] at hB3;rw[aY7];exact hB3
theorem aSh{t0 t1:Tr}{ks:List Tr}(hks:ks=[t0,t1])(hw0:bJ t0)(hw1:bJ t1)(h:aA)(arg:Int)(neg:Bool)(a b':Sl)(name:List Nat)(s:Sl)(bb:Nat)(x:List Nat)(L:Own)(low high:Int)(tb:Tb h)(pw:Pw h)
  (hk:IsK h s ks) (hB:Bld bb x L) (hl:x.length+(bG (aM t0,cX t0.op) low).length+3+(bG (aM t1,cX t1.op) high).length<=500000000):
  Vc.Fn T F.q121 [.pointer (some ⟨bb,0,none⟩),.agg #[.int .i64 8,.int .i64 arg,.bool neg,a.val,b'.val,.string (txt name),s.val],.int .i64 low,.int .i64 high] h L
   fun r h' L'=>Bld bb (x++(bG (aM t0,cX t0.op) low++[32,47,32]++bG (aM t1,cX t1.op) high)) L'/\r=.tuple #[]:=by
 have hl2:=hk.len;have hks2:ks.length=2:=by rw[hks];rfl
 have ht0:ks[0]?=some t0:=by rw[hks];rfl
 have ht1:ks[1]?=some t1:=by rw[hks];rfl
 refine f1C ok D.q121 rfl ?_;conv=>whnf
 repeat' ((first|(show Ext _ _ _ _ _ _ _;first|refine Ext.makeMap (fun bm=>?_)|refine Ext.mapNew 0 (.inl rfl) rfl rfl rfl rfl rfl ?_)|(show Idx _ _ _ _ _;refine Idx.kid hk 0 t0 Aa ht0 (fun ad op arg neg a b name s' hE hld=>?_))|refine hld _ _ _ (aA.lr _) ?_|((first|apply oI.z|apply cI.z))|intro (_:Nat)|refine Ld.o 1 rfl rfl ?_)<;>conv=>whnf)
 refine CN.all (A:=[_,_]) rfl (iF hw0 _ _ _ _ _ _ _ _ bb x _ _ tb pw Ab hB Aa) (fun v h1 Lp hl1 hr=>?_)
 obtain⟨hB1,rfl⟩:=hr;conv=>whnf
 repeat' ((first|(show Ext _ _ _ _ _ _ _;refine Ext.mapGet 0 rfl rfl rfl rfl rfl ?_)|((first|apply oI.z|apply cI.z))|refine Ld.o 1 rfl rfl ?_)<;>conv=>whnf)
 refine CN.all (A:=[_,_]) rfl (WSc _ bb _ [32,47,32] _ hB1 Ag Ag Av) (fun v h2 Lp hl2' hr=>?_)
 obtain⟨rfl,hB2,n1,e1,rfl⟩:=hr;have hk2:=hk.mono hl1;conv=>whnf
 repeat' ((first|(show Idx _ _ _ _ _;refine Idx.kid hk2 1 t1 Aa ht1 (fun ad op arg neg a b name s' hE1 hld1=>?_))|refine hld1 _ _ _ (aA.lr _) ?_|((first|apply oI.z|apply cI.z))|refine Ld.o 1 rfl rfl ?_)<;>conv=>whnf)
 refine CN.all (A:=[_,_]) rfl (iF hw1 _ _ _ _ _ _ _ _ bb _ _ _ (tb.mono hl1) (pw.mono hl1) hE1 hB2 Av) (fun v h3 Lp hl3 hr=>?_)
 obtain⟨hB3,rfl⟩:=hr;conv=>whnf
 repeat' first|(((first|apply oI.z|apply cI.z))<;>(conv=>whnf))
 refine RN.drop0 (RN.drop0 (RN.done ⟨?_,rfl⟩));rw[aY7,aY7] at hB3;rw[aY7];exact hB3
end Go.Proofs.Y
/- The text of a tree, written to a builder: words with operands; the whole. -/
namespace Go.Proofs.Y
open Go Go.Vc Go.Dig
theorem aGk(n:Nat):∀y∈bI.getD n [],y<256:=by
 by_cases h:n<8
 .have:∀k,k<8->∀y∈bI.getD k [],y<256:=Ag
  exact this n h
 .rw[aY3,aZ1 (by show bI.length<=n;have:bI.length=8:=rfl;omega)];simp
theorem xI(op arg:Int):∀y∈gA op arg,y<256:=by
 have h1:=xF arg;have h2:=aGk (arg.toNat-1);unfold gA
 (repeat' split)<;>intro y hy
 .simp only[aZl,bAy,or_false] at hy;omega
 .rcases aZb.1 hy with hy|hy
  .rcases aZb.1 hy with hy|hy
   .simp only[aZl,bAy,or_false] at hy;omega
   .exact h1 y hy
  .simp only[aZl,bAy,or_false] at hy;omega
 .rcases aZb.1 hy with hy|hy
  .exact h2 y hy
  .simp only[aZl,bAy,or_false] at hy;omega
 all_goals first
  | (simp only[aZl,bAy,or_false] at hy;omega)
  | (simp at hy)
theorem aN5{op:Int}(arg:Int)(h:10<=op/\op<=15):gA op arg≠[]:=by
 unfold gA
 repeat' split
 all_goals simp
 omega
attribute [local irreducible] Vc.Fn
theorem aKj{ks:List (List Nat × Int)}{j:Nat}{x:List Nat × Int}(h:ks[j]?=some x):mL (ks.take j)+x.1.length<=mL ks:=by
 induction ks generalizing j with
 | nil=>simp at h
 | cons u ks ih=>
  cases j with
  | zero=>simp at h;subst h;simp[mL]
  | succ j=>have:=ih (j:=j) (by simpa using h);simp only[bC4,mL];omega
theorem rK:∀(b:Bool) (l:List (List Nat × Int)) (x:List Nat × Int),cF b (l++[x])=cF b l++(if b=true/\l=[] then [] else [44,32])++x.1
 | true,[],x=>by simp[cF]
 | false,[],x=>by simp[cF]
 | true,y::l,x=>by
  rw[bAk,cF,cF,rK false l x];simp
 | false,y::l,x=>by
  rw[bAk,cF,cF,rK false l x];simp
theorem mM:∀(b:Bool) (j:Nat) (xs:List (List Nat × Int)),(cF b (xs.take j)).length<=(cF b xs).length
 | b,0,xs=>by cases b<;>simp[cF]
 | b,j+1,[]=>by simp
 | true,j+1,x::r=>by have:=mM false j r;simp only[bC4,cF,aY2];omega
 | false,j+1,x::r=>by have:=mM false j r;simp only[bC4,cF,aY2,aY6,aY9];omega
theorem kF:∀(b:Bool) (xs:List (List Nat × Int)),mL xs<=(cF b xs).length
 | true,[]=>by simp[cF,mL]
 | false,[]=>by simp[cF,mL]
 | true,x::r=>by have:=kF false r;simp only[cF,mL,aY2];omega
 | false,x::r=>by have:=kF false r;simp only[cF,mL,aY2,aY6,aY9];omega
theorem aB4{ks:List Tr}{t0 t1:Tr}(hn:ks.length=2)(h0:ks[0]?=some t0)(h1:ks[1]?=some t1):ks=[t0,t1]:=by
 match ks,hn with
 | [a,b],_=>
  simp at h0 h1;rw[h0,h1]
theorem nE{ks:List Tr}(hw:∀t∈ks,bJ t)(hks:ks.length<=3)(h:aA)(op arg:Int)(hop:10<=op/\op<=15)(harg:-100<=arg/\arg<=100)(harg11:op=11->1<=arg/\arg<=8)(neg:Bool)(a b':Sl)(name:List Nat)(s:Sl)(bb:Nat)(x:List Nat)(L:Own)(tb:Tb h)(pw:Pw h)
  (hk:IsK h s ks) (hB:Bld bb x L) (hl:x.length+((gA op arg).length+(cF true (aU ks)).length+1)<=500000000):
  Vc.Fn T F.q123 [.pointer (some ⟨bb,0,none⟩),.agg #[.int .i64 op,.int .i64 arg,.bool neg,a.val,b'.val,.string (txt name),s.val]] h L
   fun r h' L'=>Bld bb (x++(gA op arg++cF true (aU ks)++[41])) L'/\r=.tuple #[]:=by
 have hkl:=hk.len;have c1:=fun h pw=>aH9 h pw arg Aa Aa
 have hil:=vN harg.1 harg.2;have hhl:=aAe (op:=op) harg.1 harg.2;have hhb:=xI op arg;have hhn:=aN5 arg hop;have k1:op=10->arg=2->gA op arg=[115,113,114,116,40]:=fun e f=>by rw[gA,if_pos e,if_pos f]
 have k2:op=10->arg≠2->gA op arg=[114,111,111,116,40]++itT arg++[44,32]:=fun e f=>by rw[gA,if_pos e,if_neg f]
 have k3:op=11->gA op arg=bI.getD (arg.toNat-1) []++[40]:=fun e=>by subst e;rfl
 have k4:op=12->gA op arg=[97,98,115,40]:=fun e=>by subst e;rfl
 have k5:op=13->gA op arg=[109,105,110,40]:=fun e=>by subst e;rfl
 have k6:op=14->gA op arg=[109,97,120,40]:=fun e=>by subst e;rfl
 have k7:op=15->gA op arg=[105,102,40]:=fun e=>by subst e;rfl
 obtain⟨HD,hHD⟩:=AE (gA op arg);rw[<-hHD] at hl hhl hhb hhn k1 k2 k3 k4 k5 k6 k7 ⊢;clear hHD;have c3:op=11->∀h,Fn0 T F.q176 [.int .i64 arg] h fun v h'=>v=.string (txt (bI.getD (arg.toNat-1) [])):=fun e h=>by
  have:=aSd h arg.toNat (by have:=(harg11 e).1;omega) (by have:=(harg11 e).2;omega)
  rw[bBr (by have:=(harg11 e).1;omega)] at this;exact this
 have hfl:=aAd (arg.toNat-1);obtain⟨FN,hFN⟩:=AE (bI.getD (arg.toNat-1) []);rw[<-hFN] at c3 k3 hfl;clear hFN;refine f1C ok D.q123 rfl ?_;conv=>whnf
 repeat' ((first|((first|apply oI.z|apply cI.z))|intro (_:Nat))<;>conv=>whnf)
 rename_i be;refine aO.cut (fun ρ hx Lx=>rd ρ 4=.string (txt HD)/\h.le hx/\Lx=(be,.cells [.int .i64 op,.int .i64 arg,.bool neg,a.val,b'.val,.string (txt name),s.val].toArray Ty.api_Expr (0,0))::L) ?_ ?_
 .conv=>whnf
  repeat' ((first|(show CN _ _ _ _ _ _;first|refine CN.quiet rfl (c1 _ Ab) ?_|(refine CN.f rfl (c3 Aa _) (fun v h' hl2 hr=>?_);subst hr))|(show Cat _ _ _;first|(refine Cat.txt (a:=[114,111,111,116,40]) (b:=itT arg) rfl rfl AD ?_)|(refine Cat.txt (a:=[114,111,111,116,40]++itT arg) (b:=[44,32]) rfl rfl Av ?_)|(refine Cat.txt (a:=FN) (b:=[40]) rfl rfl AD ?_))|((first|apply oI.z|apply cI.z))|refine Ld.o 0 rfl rfl ?_|(apply aD<;>intro _<;>try (exfalso;omega)))<;>conv=>whnf)
  all_goals first
   | exact⟨rfl,by rw[k1 Aa Aa];rfl,aA.lr _,rfl⟩
   | exact⟨rfl,by rw[k2 Aa Aa];rfl,aA.lr _,rfl⟩
   | exact⟨rfl,by rw[k3 Aa];rfl,Ab,rfl⟩
   | exact⟨rfl,by rw[k4 Aa];rfl,aA.lr _,rfl⟩
   | exact⟨rfl,by rw[k5 Aa];rfl,aA.lr _,rfl⟩
   | exact⟨rfl,by rw[k6 Aa];rfl,aA.lr _,rfl⟩
   | exact⟨rfl,by rw[k7 Aa];rfl,aA.lr _,rfl⟩
 conv=>whnf
 repeat intro _
 rename_i h1 L1 hJ;obtain⟨e4,hle1,rfl⟩:=hJ;conv at e4=>lhs;whnf
 subst e4;have tb1:=tb.mono hle1;have pw1:=pw.mono hle1;have hk1:=hk.mono hle1;conv=>whnf
 repeat ((first|apply oI.z|apply cI.z);conv=>whnf)
 skip
 refine CN.all (A:=[_]) rfl (WSc _ bb x HD _ hB hhb hhn Aa) (fun v h2 Lp hl1 hr=>?_)
 obtain⟨rfl,hB1,n1,e1,rfl⟩:=hr;conv=>whnf
 repeat' ((first|((first|apply oI.z|apply cI.z))|refine Ld.o 0 rfl rfl ?_)<;>conv=>whnf)
 have htl:=rJ ks;have hjl:=qN true (aU ks);clear k1 k2 k3 k4 k5 k6 k7 c1 c3;refine LpN.of (fun r ρ hx Lx=>∃(j:Nat) (X LB:Own),r=ks.length-j/\h2.le hx/\j<=ks.length/\rd ρ 39=.int .i64 j/\Lx=X++LB/\Bld bb (x++HD++cF true ((aU ks).take j)) LB) ks.length
  ⟨0,[_],_,rfl,aA.lr _,aZs _,vi rfl,rfl,by rw[bAt];simpa[cF] using hB1⟩ ?_
 conv=>whnf
 repeat intro _
 rename_i r hx Lx hI;obtain⟨j,X,LB,rfl,hle,hj,e39,rfl,hBj⟩:=hI;conv at e39=>lhs;whnf
 subst e39;by_cases hjk:j=ks.length
 .subst hjk;rw[<-htl,aZi] at hBj;conv=>whnf
  repeat' ((first|((first|apply oI.z|apply cI.z))|(apply aB<;>intro _<;>try (exfalso;omega)))<;>conv=>whnf)
  refine CN.all (A:=X) rfl (WSc _ bb _ [41] _ hBj Ag Ag Av) (fun v h3 Lp hl1 hr=>?_)
  obtain⟨rfl,hB2,n2,e2,rfl⟩:=hr;conv=>whnf
  repeat' first|(((first|apply oI.z|apply cI.z))<;>(conv=>whnf))
  refine RN.dropF (RN.done ⟨?_,rfl⟩) _
  simpa[aY7] using hB2
 .obtain⟨t,ht⟩:∃t,ks[j]?=some t:=⟨_,aY4 Aa⟩
  have hwt:=hw t (aY8 ht);have hgt:=eI ht;have hsp:=aKj hgt;have hjj:=mM true (j+1) (aU ks);have htk:(aU ks).take (j+1)=(aU ks).take j++[(aM t,cX t.op)]:=bB hgt;have hjs:cF true ((aU ks).take j++[(aM t,cX t.op)])=cF true ((aU ks).take j)++(if true=true/\(aU ks).take j=[] then [] else [44,32])++aM t:=rK true ((aU ks).take j) (aM t,cX t.op)
  rw[<-htk] at hjs;have hlt:((aU ks).take j).length=j:=by rw[aZn,htl];omega
  have hne:(aU ks).take j=[]↔j=0:=by rw[<-aZ3,hlt]
  simp only at hsp;have hkx:=hk1.mono hle;have tbx:=tb1.mono hle;have pwx:=pw1.mono hle;by_cases hj0:j=0
  .rw[if_pos (show true=true/\(aU ks).take j=[] from ⟨rfl,hne.2 hj0⟩),aZc] at hjs;have hjl2:=congrArg List.length hjs;rw[aY2] at hjl2;conv=>whnf
   repeat' ((first|(apply aO.go)|(show Idx _ _ _ _ _;refine Idx.kid hkx j t Aa ht (fun ad op arg neg a b name s' hE hld=>?_))|refine hld _ _ _ (aA.lr _) ?_|((first|apply oI.z|apply cI.z))|intro (_:Nat)|refine LdN.o 0 rfl rfl ?_|refine Sto.l 0 rfl rfl rfl ?_|(apply aB<;>intro _<;>try (exfalso;omega)))<;>conv=>whnf)
   refine CN.all (A:=_::X) rfl (hwt _ _ bb _ LB tbx pwx Ab hBj Az) (fun v h3 Lp hl1 hr=>?_)
   obtain⟨hB2,rfl⟩:=hr;conv=>whnf
   repeat' ((first|((first|apply oI.z|apply cI.z))|refine WN.i64 Aa Aa ?_)<;>conv=>whnf)
   exact⟨rfl,ks.length-(j+1),Aa,j+1,_::X,Lp,rfl,aA.lt hle hl1,Aa,vi Aa,rfl,by rw[hjs,<-aY7];exact hB2⟩
  .rw[if_neg (fun y=>hj0 (hne.1 y.2))] at hjs
   have hjl2:=congrArg List.length hjs;rw[aY2,aY2] at hjl2;simp only[aY6,aY9] at hjl2;conv=>whnf
   repeat' ((first|(apply aO.go)|(show Idx _ _ _ _ _;refine Idx.kid hkx j t Aa ht (fun ad op arg neg a b name s' hE hld=>?_))|refine hld _ _ _ (aA.lr _) ?_|((first|apply oI.z|apply cI.z))|intro (_:Nat)|refine Sto.l 0 rfl rfl rfl ?_|(apply aB<;>intro _<;>try (exfalso;omega)))<;>conv=>whnf)
   refine CN.all (A:=_::X) rfl (WSc _ bb _ [44,32] _ hBj Ag Ag Av) (fun v h3 Lp hl1 hr=>?_)
   obtain⟨rfl,hB2,n2,e2,rfl⟩:=hr;conv=>whnf
   repeat' ((first|((first|apply oI.z|apply cI.z))|refine LdN.o 0 rfl rfl ?_)<;>conv=>whnf)
   refine CN.all (A:=_::X) rfl (hwt _ _ bb _ _ tbx pwx Ab hB2 Av) (fun v h4 Lp hl2 hr=>?_)
   obtain⟨hB3,rfl⟩:=hr;conv=>whnf
   repeat' ((first|((first|apply oI.z|apply cI.z))|refine WN.i64 Aa Aa ?_)<;>conv=>whnf)
   exact⟨rfl,ks.length-(j+1),Aa,j+1,_::X,Lp,rfl,aA.lt hle hl2,Aa,vi Aa,rfl,by rw[hjs];simpa[aY7] using hB3⟩
end Go.Proofs.Y