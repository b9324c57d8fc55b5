/- The text of a tree, written to a builder. -/
import Derived.Test.YtdccpmlhflpeaaaGreatDoorE23
set_option linter.all false
set_option maxHeartbeats 2000000
set_option maxRecDepth 20000
namespace Go.Proofs.Y
open Go Go.Vc Go.Dig
def eI(t:Tr):Prop:=∀(h:aA) (vs:List Value) (b:Nat) (x:List Nat) (L:Own),Tb h->Pw h->IsE h vs t->Bld b x L->x.length+(aK t).length<=500000000->
 Vc.Fn T F.q66 [.pointer (some ⟨b,0,none⟩),.agg vs.toArray] h L fun r h' L'=>Bld b (x++aK t) L'/\r=.tuple #[]
attribute [local irreducible] Vc.Fn
theorem kY{t:Tr}(hw:eI t)(h:aA)(op arg:Int)(neg:Bool)(a b':Sl)(name:List Nat)(s:Sl)(b:Nat)(x:List Nat)(L:Own)(low:Int)(tb:Tb h)(pw:Pw h)
  (w:IsE h [.int .i64 op,.int .i64 arg,.bool neg,a.val,b'.val,.string (txt name),s.val] t) (hB:Bld b x L) (hl:x.length+(bM (aK t,dB t.op) low).length<=500000000):
  Vc.Fn T F.q121 [.pointer (some ⟨b,0,none⟩),.agg #[.int .i64 op,.int .i64 arg,.bool neg,a.val,b'.val,.string (txt name),s.val],.int .i64 low] h L fun r h' L'=>Bld b (x++bM (aK t,dB t.op) low) L'/\r=.tuple #[]:=by
 have hop:t.op=op:=by
  obtain⟨o,ar,n,l,m,nm,ks⟩:=t;rw[IsE] at w;obtain⟨_,_,_,e,-⟩:=w
  injection e with e1 _
  injection e1 with _ e2
  exact e2.symm
 rw[hop] at hl ⊢;have c0:=fun h=>aQ6 h op
 obtain⟨K,hK⟩:=AB (dB op);rw[<-hK] at c0 hl ⊢;have p1:low<=K->bM (aK t,K) low=aK t:=fun y=>if_pos y
 have p2:¬low<=K->bM (aK t,K) low=[40]++aK t++[41]:=fun y=>if_neg y
 obtain⟨P,hP⟩:=AB (bM (aK t,K) low);rw[<-hP] at p1 p2 hl ⊢;clear hP;refine f1C ok D.q121 rfl ?_;conv=>whnf
 repeat' ((first|(show CN _ _ _ _ _ _;refine CN.quiet rfl (c0 _) ?_)|((first|apply oI.z|apply cI.z))|intro (_:Nat)|refine LdN.o 0 rfl rfl ?_|refine Ld.o 0 rfl rfl ?_|(apply bI<;>intro _<;>try (exfalso;omega)))<;>conv=>whnf)
 .rw[p1 Aa] at hl ⊢;refine CN.all (A:=[_]) rfl (hw _ _ b x _ tb pw w hB Aa) (fun v h' Lp hl hr=>?_)
  obtain⟨hB1,rfl⟩:=hr;conv=>whnf
  repeat' first|(((first|apply oI.z|apply cI.z))<;>(conv=>whnf))
  exact RN.drop0 (RN.done ⟨hB1,rfl⟩)
 .rw[p2 Aa] at hl ⊢;simp only[bC6,bDa,bDd] at hl;refine CN.all (A:=[_]) rfl (WSc _ b x [40] _ hB Ad Ad (by simp only[bDa,bDd];omega)) (fun v h' Lp hl hr=>?_)
  obtain⟨rfl,hB1,n1,e1,rfl⟩:=hr;conv=>whnf
  repeat' ((first|((first|apply oI.z|apply cI.z))|refine LdN.o 0 rfl rfl ?_)<;>conv=>whnf)
  refine CN.all (A:=[_]) rfl (hw _ _ b _ _ tb pw w hB1 Au) (fun v h' Lp hl hr=>?_)
  obtain⟨hB2,rfl⟩:=hr;conv=>whnf
  repeat' first|(((first|apply oI.z|apply cI.z))<;>(conv=>whnf))
  refine CN.all (A:=[_]) rfl (WSc _ b _ [41] _ hB2 Ad Ad Au) (fun v h' Lp hl hr=>?_)
  obtain⟨rfl,hB3,n2,e2,rfl⟩:=hr;conv=>whnf
  repeat' first|(((first|apply oI.z|apply cI.z))<;>(conv=>whnf))
  refine RN.drop0 (RN.done ⟨?_,rfl⟩)
  simpa[bDb] using hB3
theorem aVw{t0 t1:Tr}{ks:List Tr}(hks:ks=[t0,t1])(hw0:eI t0)(hw1:eI t1)(h:aA)(arg:Int)(neg:Bool)(a b':Sl)(name:List Nat)(s:Sl)(bb:Nat)(x:List Nat)(L:Own)(low high:Int)(tb:Tb h)(pw:Pw h)
  (hk:IsK h s ks) (hB:Bld bb x L) (hl:x.length+(bM (aK t0,dB t0.op) low).length+3+(bM (aK t1,dB t1.op) high).length<=500000000):
  Vc.Fn T F.q122 [.pointer (some ⟨bb,0,none⟩),.agg #[.int .i64 5,.int .i64 arg,.bool neg,a.val,b'.val,.string (txt name),s.val],.int .i64 low,.int .i64 high] h L
   fun r h' L'=>Bld bb (x++(bM (aK t0,dB t0.op) low++[32,43,32]++bM (aK t1,dB t1.op) high)) L'/\r=.tuple #[]:=by
 have hl2:=hk.len;have hks2:ks.length=2:=by rw[hks];rfl
 have ht0:ks[0]?=some t0:=by rw[hks];rfl
 have ht1:ks[1]?=some t1:=by rw[hks];rfl
 refine f1C ok D.q122 rfl ?_;conv=>whnf
 repeat' ((first|(show Ext _ _ _ _ _ _ _;first|refine Ext.makeMap (fun bm=>?_)|refine Ext.mapNew 0 (.inl rfl) rfl rfl rfl rfl rfl ?_)|(show Idx _ _ _ _ _;refine Idx.kid hk 0 t0 Aa ht0 (fun ad op arg neg a b name s' hE hld=>?_))|refine hld _ _ _ (aA.lr _) ?_|((first|apply oI.z|apply cI.z))|intro (_:Nat)|refine Ld.o 1 rfl rfl ?_)<;>conv=>whnf)
 refine CN.all (A:=[_,_]) rfl (kY hw0 _ _ _ _ _ _ _ _ bb x _ _ tb pw Ab hB Aa) (fun v h1 Lp hl1 hr=>?_)
 obtain⟨hB1,rfl⟩:=hr;conv=>whnf
 repeat' ((first|(show Ext _ _ _ _ _ _ _;refine Ext.mapGet 0 rfl rfl rfl rfl rfl ?_)|((first|apply oI.z|apply cI.z))|refine Ld.o 1 rfl rfl ?_)<;>conv=>whnf)
 refine CN.all (A:=[_,_]) rfl (WSc _ bb _ [32,43,32] _ hB1 Ad Ad Au) (fun v h2 Lp hl2' hr=>?_)
 obtain⟨rfl,hB2,n1,e1,rfl⟩:=hr;have hk2:=hk.mono hl1;conv=>whnf
 repeat' ((first|(show Idx _ _ _ _ _;refine Idx.kid hk2 1 t1 Aa ht1 (fun ad op arg neg a b name s' hE1 hld1=>?_))|refine hld1 _ _ _ (aA.lr _) ?_|((first|apply oI.z|apply cI.z))|refine Ld.o 1 rfl rfl ?_)<;>conv=>whnf)
 refine CN.all (A:=[_,_]) rfl (kY hw1 _ _ _ _ _ _ _ _ bb _ _ _ (tb.mono hl1) (pw.mono hl1) hE1 hB2 Au) (fun v h3 Lp hl3 hr=>?_)
 obtain⟨hB3,rfl⟩:=hr;conv=>whnf
 repeat' first|(((first|apply oI.z|apply cI.z))<;>(conv=>whnf))
 refine RN.drop0 (RN.drop0 (RN.done ⟨?_,rfl⟩));rw[bDb,bDb] at hB3;rw[bDb];exact hB3
theorem aVx{t0 t1:Tr}{ks:List Tr}(hks:ks=[t0,t1])(hw0:eI t0)(hw1:eI t1)(h:aA)(arg:Int)(neg:Bool)(a b':Sl)(name:List Nat)(s:Sl)(bb:Nat)(x:List Nat)(L:Own)(low high:Int)(tb:Tb h)(pw:Pw h)
  (hk:IsK h s ks) (hB:Bld bb x L) (hl:x.length+(bM (aK t0,dB t0.op) low).length+3+(bM (aK t1,dB t1.op) high).length<=500000000):
  Vc.Fn T F.q122 [.pointer (some ⟨bb,0,none⟩),.agg #[.int .i64 6,.int .i64 arg,.bool neg,a.val,b'.val,.string (txt name),s.val],.int .i64 low,.int .i64 high] h L
   fun r h' L'=>Bld bb (x++(bM (aK t0,dB t0.op) low++[32,45,32]++bM (aK t1,dB t1.op) high)) L'/\r=.tuple #[]:=by
 have hl2:=hk.len;have hks2:ks.length=2:=by rw[hks];rfl
 have ht0:ks[0]?=some t0:=by rw[hks];rfl
 have ht1:ks[1]?=some t1:=by rw[hks];rfl
 refine f1C ok D.q122 rfl ?_;conv=>whnf
 repeat' ((first|(show Ext _ _ _ _ _ _ _;first|refine Ext.makeMap (fun bm=>?_)|refine Ext.mapNew 0 (.inl rfl) rfl rfl rfl rfl rfl ?_)|(show Idx _ _ _ _ _;refine Idx.kid hk 0 t0 Aa ht0 (fun ad op arg neg a b name s' hE hld=>?_))|refine hld _ _ _ (aA.lr _) ?_|((first|apply oI.z|apply cI.z))|intro (_:Nat)|refine Ld.o 1 rfl rfl ?_)<;>conv=>whnf)
 refine CN.all (A:=[_,_]) rfl (kY hw0 _ _ _ _ _ _ _ _ bb x _ _ tb pw Ab hB Aa) (fun v h1 Lp hl1 hr=>?_)
 obtain⟨hB1,rfl⟩:=hr;conv=>whnf
 repeat' ((first|(show Ext _ _ _ _ _ _ _;refine Ext.mapGet 0 rfl rfl rfl rfl rfl ?_)|((first|apply oI.z|apply cI.z))|refine Ld.o 1 rfl rfl ?_)<;>conv=>whnf)
 refine CN.all (A:=[_,_]) rfl (WSc _ bb _ [32,45,32] _ hB1 Ad Ad Au) (fun v h2 Lp hl2' hr=>?_)
 obtain⟨rfl,hB2,n1,e1,rfl⟩:=hr;have hk2:=hk.mono hl1;conv=>whnf
 repeat' ((first|(show Idx _ _ _ _ _;refine Idx.kid hk2 1 t1 Aa ht1 (fun ad op arg neg a b name s' hE1 hld1=>?_))|refine hld1 _ _ _ (aA.lr _) ?_|((first|apply oI.z|apply cI.z))|refine Ld.o 1 rfl rfl ?_)<;>conv=>whnf)
 refine CN.all (A:=[_,_]) rfl (kY hw1 _ _ _ _ _ _ _ _ bb _ _ _ (tb.mono hl1) (pw.mono hl1) hE1 hB2 Au) (fun v h3 Lp hl3 hr=>?_)
 obtain⟨hB3,rfl⟩:=hr;conv=>whnf
 repeat' first|(((first|apply oI.z|apply cI.z))<;>(conv=>whnf))
 refine RN.drop0 (RN.drop0 (RN.done ⟨?_,rfl⟩));rw[bDb,bDb] at hB3;rw[bDb];exact hB3
theorem aVy{t0 t1:Tr}{ks:List Tr}(hks:ks=[t0,t1])(hw0:eI t0)(hw1:eI t1)(h:aA)(arg:Int)(neg:Bool)(a b':Sl)(name:List Nat)(s:Sl)(bb:Nat)(x:List Nat)(L:Own)(low high:Int)(tb:Tb h)(pw:Pw h)
  (hk:IsK h s ks) (hB:Bld bb x L) (hl:x.length+(bM (aK t0,dB t0.op) low).length+3+(bM (aK t1,dB t1.op) high).length<=500000000):
  Vc.Fn T F.q122 [.pointer (some ⟨bb,0,none⟩),.agg #[.int .i64 7,.int .i64 arg,.bool neg,a.val,b'.val,.string (txt name),s.val],.int .i64 low,.int .i64 high] h L
   fun r h' L'=>Bld bb (x++(bM (aK t0,dB t0.op) low++[32,42,32]++bM (aK t1,dB t1.op) high)) L'/\r=.tuple #[]:=by
 have hl2:=hk.len;have hks2:ks.length=2:=by rw[hks];rfl
 have ht0:ks[0]?=some t0:=by rw[hks];rfl
 have ht1:ks[1]?=some t1:=by rw[hks];rfl
 refine f1C ok D.q122 rfl ?_;conv=>whnf
 repeat' ((first|(show Ext _ _ _ _ _ _ _;first|refine Ext.makeMap (fun bm=>?_)|refine Ext.mapNew 0 (.inl rfl) rfl rfl rfl rfl rfl ?_)|(show Idx _ _ _ _ _;refine Idx.kid hk 0 t0 Aa ht0 (fun ad op arg neg a b name s' hE hld=>?_))|refine hld _ _ _ (aA.lr _) ?_|((first|apply oI.z|apply cI.z))|intro (_:Nat)|refine Ld.o 1 rfl rfl ?_)<;>conv=>whnf)
 refine CN.all (A:=[_,_]) rfl (kY hw0 _ _ _ _ _ _ _ _ bb x _ _ tb pw Ab hB Aa) (fun v h1 Lp hl1 hr=>?_)
 obtain⟨hB1,rfl⟩:=hr;conv=>whnf
 repeat' ((first|(show Ext _ _ _ _ _ _ _;refine Ext.mapGet 0 rfl rfl rfl rfl rfl ?_)|((first|apply oI.z|apply cI.z))|refine Ld.o 1 rfl rfl ?_)<;>conv=>whnf)
 refine CN.all (A:=[_,_]) rfl (WSc _ bb _ [32,42,32] _ hB1 Ad Ad Au) (fun v h2 Lp hl2' hr=>?_)
 obtain⟨rfl,hB2,n1,e1,rfl⟩:=hr;have hk2:=hk.mono hl1;conv=>whnf
 repeat' ((first|(show Idx _ _ _ _ _;refine Idx.kid hk2 1 t1 Aa ht1 (fun ad op arg neg a b name s' hE1 hld1=>?_))|refine hld1 _ _ _ (aA.lr _) ?_|((first|apply oI.z|apply cI.z))|refine Ld.o 1 rfl rfl ?_)<;>conv=>whnf)
 refine CN.all (A:=[_,_]) rfl (kY hw1 _ _ _ _ _ _ _ _ bb _ _ _ (tb.mono hl1) (pw.mono hl1) hE1 hB2 Au) (fun v h3 Lp hl3 hr=>?_)
 obtain⟨hB3,rfl⟩:=hr;conv=>whnf
 repeat' first|(((first|apply oI.z|apply cI.z))<;>(conv=>whnf))
 refine RN.drop0 (RN.drop0 (RN.done ⟨?_,rfl⟩));rw[bDb,bDb] at hB3;rw[bDb];exact hB3
end Go.Proofs.Y
/- The text of a tree, written to a builder: words with operands; the whole. -/
namespace Go.Proofs.Y
open Go Go.Vc Go.Dig
attribute [local irreducible] Vc.Fn
theorem aI7{ks:List Tr}{t0 t1:Tr}(hn:ks.length=2)(h0:ks[0]?=some t0)(h1:ks[1]?=some t1):ks=[t0,t1]:=by
 match ks,hn with
 | [a,b],_=>
  simp at h0 h1;rw[h0,h1]
end Go.Proofs.Y