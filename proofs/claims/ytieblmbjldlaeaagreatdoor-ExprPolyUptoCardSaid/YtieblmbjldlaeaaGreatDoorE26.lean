/- The text of a tree, written to a builder: each kind of node; Print. -/
import Derived.Test.YtieblmbjldlaeaaGreatDoorE25
set_option linter.all false
set_option maxHeartbeats 2000000
set_option maxRecDepth 20000
namespace Go.Proofs.Y
open Go Go.Vc Go.Dig
attribute [local irreducible] Vc.Fn
theorem aNs {arg:Int} {neg:Bool} {l m name:List Nat} {ks:List Tr} (hn:cX 1 arg neg l m name ks.length) (hw:∀t∈ks,bK t):bK (.mk 1 arg neg l m name ks):=by
 intro h vs bb x L tb pw w hB hl
 obtain ⟨a,b,s,rfl,ho,ha,hv,hb,hk⟩:=w.isK
 have hkl:=hk.len
 have hok:=hn.2.2.2.2
 rw [if_pos rfl] at hok
 have c1:=fun h tb hv=>aC1 h tb neg a b l m hv
 have e1:pO neg l m=(iW (aR neg l m),0):=if_pos hok.1
 rw [e1] at c1
 have ht:aF (.mk 1 arg neg l m name ks)=iW (aR neg l m):=by rw [aF];rfl
 rw [ht] at hl ⊢
 refine f1C ok D.q99 rfl ?_
 conv=>whnf
 repeat' first|((first|(show LdN _ _ _ _ _;refine LdN.oA 0 rfl rfl ?_)|(show CN _ _ _ _ _ _;(refine CN.f rfl (c1 _ (by assumption) (by assumption)) (fun v h' hl2 hr=>?_);subst hr))|((first|apply oI.z|apply cI.z))|intro (_:Nat)|refine Ld.o 0 rfl rfl ?_) <;> (conv=>whnf))|(apply aE<;>intro _<;>first|(exfalso;omega)|conv=>whnf)
 refine CN.all (A:=[_]) rfl (WSc _ bb x (iW (aR neg l m)) _ hB (wI _) (aEs _) (by omega)) (fun v h2 Lp hl1 hr=>?_)
 obtain ⟨rfl,hB1,n1,e1,rfl⟩:=hr
 conv=>whnf
 repeat' first|(((first|apply oI.z|apply cI.z)) <;> (conv=>whnf))
 exact RN.drop0 (RN.done ⟨hB1,rfl⟩)
theorem aNt {arg:Int} {neg:Bool} {l m name:List Nat} {ks:List Tr} (hn:cX 2 arg neg l m name ks.length) (hw:∀t∈ks,bK t):bK (.mk 2 arg neg l m name ks):=by
 intro h vs bb x L tb pw w hB hl
 obtain ⟨a,b,s,rfl,ho,ha,hv,hb,hk⟩:=w.isK
 have hkl:=hk.len
 have hnm:=hn.2.2.2.1
 rw [if_pos rfl] at hnm
 have ht:aF (.mk 2 arg neg l m name ks)=name:=by rw [aF];rfl
 rw [ht] at hl ⊢
 refine f1C ok D.q99 rfl ?_
 conv=>whnf
 repeat' first|((first|((first|apply oI.z|apply cI.z))|intro (_:Nat)|refine Ld.o 0 rfl rfl ?_) <;> (conv=>whnf))|(apply aE<;>intro _<;>first|(exfalso;omega)|conv=>whnf)
 refine CN.all (A:=[_]) rfl (WSc _ bb x name _ hB hb hnm.2.2.1 (by omega)) (fun v h2 Lp hl1 hr=>?_)
 obtain ⟨rfl,hB1,n1,e1,rfl⟩:=hr
 conv=>whnf
 repeat' first|(((first|apply oI.z|apply cI.z)) <;> (conv=>whnf))
 exact RN.drop0 (RN.done ⟨hB1,rfl⟩)
theorem aNu {arg:Int} {neg:Bool} {l m name:List Nat} {ks:List Tr} (hn:cX 3 arg neg l m name ks.length) (hw:∀t∈ks,bK t):bK (.mk 3 arg neg l m name ks):=by
 intro h vs bb x L tb pw w hB hl
 obtain ⟨a,b,s,rfl,ho,ha,hv,hb,hk⟩:=w.isK
 have hkl:=hk.len
 have ht:aF (.mk 3 arg neg l m name ks)=[112,105]:=by rw [aF];rfl
 rw [ht] at hl ⊢
 refine f1C ok D.q99 rfl ?_
 conv=>whnf
 repeat' first|((first|((first|apply oI.z|apply cI.z))|intro (_:Nat)|refine Ld.o 0 rfl rfl ?_) <;> (conv=>whnf))|(apply aE<;>intro _<;>first|(exfalso;omega)|conv=>whnf)
 refine CN.all (A:=[_]) rfl (WSc _ bb x [112,105] _ hB (by decide) (by decide) (by simp only [aVs,aVv] at hl ⊢;omega)) (fun v h2 Lp hl1 hr=>?_)
 obtain ⟨rfl,hB1,n1,e1,rfl⟩:=hr
 conv=>whnf
 repeat' first|(((first|apply oI.z|apply cI.z)) <;> (conv=>whnf))
 exact RN.drop0 (RN.done ⟨hB1,rfl⟩)
theorem aNv {arg:Int} {neg:Bool} {l m name:List Nat} {ks:List Tr} (hn:cX 4 arg neg l m name ks.length) (hw:∀t∈ks,bK t):bK (.mk 4 arg neg l m name ks):=by
 intro h vs bb x L tb pw w hB hl
 obtain ⟨a,b,s,rfl,ho,ha,hv,hb,hk⟩:=w.isK
 have hkl:=hk.len
 have hkn:ks.length=1:=by have:=hn.1;rw [show cG 4=1 from rfl] at this;omega
 obtain ⟨t0,ht0⟩:∃t,ks[0]?=some t:=⟨_,aVq (by omega)⟩
 have hw0:=hw t0 (aVu ht0)
 have hx0:(aG ks).getD 0 ([],0)=(aF t0,aU t0.op):=by rw [aVp,cV ht0];rfl
 have ht:aF (.mk 4 arg neg l m name ks)=[45]++aN (aF t0,aU t0.op) 3:=by rw [aF,← hx0];rfl
 rw [ht] at hl ⊢
 simp only [aVo,aVs,aVv] at hl
 refine f1C ok D.q99 rfl ?_
 conv=>whnf
 repeat' first|((first|((first|apply oI.z|apply cI.z))|intro (_:Nat)|refine Ld.o 0 rfl rfl ?_) <;> (conv=>whnf))|(apply aE<;>intro _<;>first|(exfalso;omega)|conv=>whnf)
 refine CN.all (A:=[_]) rfl (WSc _ bb x [45] _ hB (by decide) (by decide) (by simp only [aVs,aVv];omega)) (fun v h2 Lp hl1 hr=>?_)
 obtain ⟨rfl,hB1,n1,e1,rfl⟩:=hr
 conv=>whnf
 repeat' first|((first|(show Idx _ _ _ _ _;refine Idx.kid hk 0 t0 (by omega) ht0 (fun ad op2 arg2 neg2 a2 b2 name2 s2 hE hld=>?_))|refine hld _ _ _ (aA.lr _) ?_|((first|apply oI.z|apply cI.z))|refine Ld.o 0 rfl rfl ?_) <;> (conv=>whnf))
 refine CN.all (A:=[_]) rfl (fT hw0 _ _ _ _ _ _ _ _ bb _ _ _ tb pw (by assumption) hB1 (by simp only [aVo,aVs,aVv];omega)) (fun v h1 Lp hl1 hr=>?_)
 obtain ⟨hB2,rfl⟩:=hr
 conv=>whnf
 repeat' first|(((first|apply oI.z|apply cI.z)) <;> (conv=>whnf))
 refine RN.drop0 (RN.done ⟨?_,rfl⟩)
 rw [aVt] at hB2;exact hB2
theorem aNw {arg:Int} {neg:Bool} {l m name:List Nat} {ks:List Tr} (hn:cX 5 arg neg l m name ks.length) (hw:∀t∈ks,bK t):bK (.mk 5 arg neg l m name ks):=by
 intro h vs bb x L tb pw w hB hl
 obtain ⟨a,b,s,rfl,ho,ha,hv,hb,hk⟩:=w.isK
 have hkl:=hk.len
 have hkn:ks.length=2:=by have:=hn.1;rw [show cG 5=2 from rfl] at this;omega
 obtain ⟨t0,ht0⟩:∃t,ks[0]?=some t:=⟨_,aVq (by omega)⟩
 have hw0:=hw t0 (aVu ht0)
 obtain ⟨t1,ht1⟩:∃t,ks[1]?=some t:=⟨_,aVq (by omega)⟩
 have hw1:=hw t1 (aVu ht1)
 have hx0:(aG ks).getD 0 ([],0)=(aF t0,aU t0.op):=by rw [aVp,cV ht0];rfl
 have hx1:(aG ks).getD 1 ([],0)=(aF t1,aU t1.op):=by rw [aVp,cV ht1];rfl
 have hks:ks=[t0,t1]:=yP hkn ht0 ht1
 have ht:aF (.mk 5 arg neg l m name ks)=aN (aF t0,aU t0.op) 1++jN 5++aN (aF t1,aU t1.op) 2:=by rw [aF,← hx0,← hx1];rfl
 rw [ht] at hl ⊢
 have hs3:(jN 5).length=3:=rfl
 simp only [aVo] at hl
 refine f1C ok D.q99 rfl ?_
 conv=>whnf
 repeat' first|((first|(apply aX.go)|((first|apply oI.z|apply cI.z))|intro (_:Nat)|refine LdN.o 0 rfl rfl ?_|refine Ld.o 0 rfl rfl ?_) <;> (conv=>whnf))|(apply aE<;>intro _<;>first|(exfalso;omega)|conv=>whnf)
 refine CN.all (A:=[_]) rfl (aNo hks hw0 hw1 _ _ _ _ _ _ _ bb x _ _ _ tb pw hk hB (by omega)) (fun v h1 Lp hl1 hr=>?_)
 obtain ⟨hB2,rfl⟩:=hr
 conv=>whnf
 repeat' first|(((first|apply oI.z|apply cI.z)) <;> (conv=>whnf))
 exact RN.drop0 (RN.done ⟨hB2,rfl⟩)
theorem aNx {arg:Int} {neg:Bool} {l m name:List Nat} {ks:List Tr} (hn:cX 6 arg neg l m name ks.length) (hw:∀t∈ks,bK t):bK (.mk 6 arg neg l m name ks):=by
 intro h vs bb x L tb pw w hB hl
 obtain ⟨a,b,s,rfl,ho,ha,hv,hb,hk⟩:=w.isK
 have hkl:=hk.len
 have hkn:ks.length=2:=by have:=hn.1;rw [show cG 6=2 from rfl] at this;omega
 obtain ⟨t0,ht0⟩:∃t,ks[0]?=some t:=⟨_,aVq (by omega)⟩
 have hw0:=hw t0 (aVu ht0)
 obtain ⟨t1,ht1⟩:∃t,ks[1]?=some t:=⟨_,aVq (by omega)⟩
 have hw1:=hw t1 (aVu ht1)
 have hx0:(aG ks).getD 0 ([],0)=(aF t0,aU t0.op):=by rw [aVp,cV ht0];rfl
 have hx1:(aG ks).getD 1 ([],0)=(aF t1,aU t1.op):=by rw [aVp,cV ht1];rfl
 have hks:ks=[t0,t1]:=yP hkn ht0 ht1
 have ht:aF (.mk 6 arg neg l m name ks)=aN (aF t0,aU t0.op) 1++jN 6++aN (aF t1,aU t1.op) 2:=by rw [aF,← hx0,← hx1];rfl
 rw [ht] at hl ⊢
 have hs3:(jN 6).length=3:=rfl
 simp only [aVo] at hl
 refine f1C ok D.q99 rfl ?_
 conv=>whnf
 repeat' first|((first|(apply aX.go)|((first|apply oI.z|apply cI.z))|intro (_:Nat)|refine LdN.o 0 rfl rfl ?_|refine Ld.o 0 rfl rfl ?_) <;> (conv=>whnf))|(apply aE<;>intro _<;>first|(exfalso;omega)|conv=>whnf)
 refine CN.all (A:=[_]) rfl (aNp hks hw0 hw1 _ _ _ _ _ _ _ bb x _ _ _ tb pw hk hB (by omega)) (fun v h1 Lp hl1 hr=>?_)
 obtain ⟨hB2,rfl⟩:=hr
 conv=>whnf
 repeat' first|(((first|apply oI.z|apply cI.z)) <;> (conv=>whnf))
 exact RN.drop0 (RN.done ⟨hB2,rfl⟩)
theorem aNy {arg:Int} {neg:Bool} {l m name:List Nat} {ks:List Tr} (hn:cX 7 arg neg l m name ks.length) (hw:∀t∈ks,bK t):bK (.mk 7 arg neg l m name ks):=by
 intro h vs bb x L tb pw w hB hl
 obtain ⟨a,b,s,rfl,ho,ha,hv,hb,hk⟩:=w.isK
 have hkl:=hk.len
 have hkn:ks.length=2:=by have:=hn.1;rw [show cG 7=2 from rfl] at this;omega
 obtain ⟨t0,ht0⟩:∃t,ks[0]?=some t:=⟨_,aVq (by omega)⟩
 have hw0:=hw t0 (aVu ht0)
 obtain ⟨t1,ht1⟩:∃t,ks[1]?=some t:=⟨_,aVq (by omega)⟩
 have hw1:=hw t1 (aVu ht1)
 have hx0:(aG ks).getD 0 ([],0)=(aF t0,aU t0.op):=by rw [aVp,cV ht0];rfl
 have hx1:(aG ks).getD 1 ([],0)=(aF t1,aU t1.op):=by rw [aVp,cV ht1];rfl
 have hks:ks=[t0,t1]:=yP hkn ht0 ht1
 have ht:aF (.mk 7 arg neg l m name ks)=aN (aF t0,aU t0.op) 2++jN 7++aN (aF t1,aU t1.op) 3:=by rw [aF,← hx0,← hx1];rfl
 rw [ht] at hl ⊢
 have hs3:(jN 7).length=3:=rfl
 simp only [aVo] at hl
 refine f1C ok D.q99 rfl ?_
 conv=>whnf
 repeat' first|((first|(apply aX.go)|((first|apply oI.z|apply cI.z))|intro (_:Nat)|refine LdN.o 0 rfl rfl ?_|refine Ld.o 0 rfl rfl ?_) <;> (conv=>whnf))|(apply aE<;>intro _<;>first|(exfalso;omega)|conv=>whnf)
 refine CN.all (A:=[_]) rfl (aNq hks hw0 hw1 _ _ _ _ _ _ _ bb x _ _ _ tb pw hk hB (by omega)) (fun v h1 Lp hl1 hr=>?_)
 obtain ⟨hB2,rfl⟩:=hr
 conv=>whnf
 repeat' first|(((first|apply oI.z|apply cI.z)) <;> (conv=>whnf))
 exact RN.drop0 (RN.done ⟨hB2,rfl⟩)
theorem aNz {arg:Int} {neg:Bool} {l m name:List Nat} {ks:List Tr} (hn:cX 8 arg neg l m name ks.length) (hw:∀t∈ks,bK t):bK (.mk 8 arg neg l m name ks):=by
 intro h vs bb x L tb pw w hB hl
 obtain ⟨a,b,s,rfl,ho,ha,hv,hb,hk⟩:=w.isK
 have hkl:=hk.len
 have hkn:ks.length=2:=by have:=hn.1;rw [show cG 8=2 from rfl] at this;omega
 obtain ⟨t0,ht0⟩:∃t,ks[0]?=some t:=⟨_,aVq (by omega)⟩
 have hw0:=hw t0 (aVu ht0)
 obtain ⟨t1,ht1⟩:∃t,ks[1]?=some t:=⟨_,aVq (by omega)⟩
 have hw1:=hw t1 (aVu ht1)
 have hx0:(aG ks).getD 0 ([],0)=(aF t0,aU t0.op):=by rw [aVp,cV ht0];rfl
 have hx1:(aG ks).getD 1 ([],0)=(aF t1,aU t1.op):=by rw [aVp,cV ht1];rfl
 have hks:ks=[t0,t1]:=yP hkn ht0 ht1
 have ht:aF (.mk 8 arg neg l m name ks)=aN (aF t0,aU t0.op) 2++jN 8++aN (aF t1,aU t1.op) 3:=by rw [aF,← hx0,← hx1];rfl
 rw [ht] at hl ⊢
 have hs3:(jN 8).length=3:=rfl
 simp only [aVo] at hl
 refine f1C ok D.q99 rfl ?_
 conv=>whnf
 repeat' first|((first|(apply aX.go)|((first|apply oI.z|apply cI.z))|intro (_:Nat)|refine LdN.o 0 rfl rfl ?_|refine Ld.o 0 rfl rfl ?_) <;> (conv=>whnf))|(apply aE<;>intro _<;>first|(exfalso;omega)|conv=>whnf)
 refine CN.all (A:=[_]) rfl (aNr hks hw0 hw1 _ _ _ _ _ _ _ bb x _ _ _ tb pw hk hB (by omega)) (fun v h1 Lp hl1 hr=>?_)
 obtain ⟨hB2,rfl⟩:=hr
 conv=>whnf
 repeat' first|(((first|apply oI.z|apply cI.z)) <;> (conv=>whnf))
 exact RN.drop0 (RN.done ⟨hB2,rfl⟩)
theorem aN0 {arg:Int} {neg:Bool} {l m name:List Nat} {ks:List Tr} (hn:cX 9 arg neg l m name ks.length) (hw:∀t∈ks,bK t):bK (.mk 9 arg neg l m name ks):=by
 intro h vs bb x L tb pw w hB hl
 obtain ⟨a,b,s,rfl,ho,ha,hv,hb,hk⟩:=w.isK
 have hkl:=hk.len
 have hkn:ks.length=1:=by have:=hn.1;rw [show cG 9=1 from rfl] at this;omega
 obtain ⟨t0,ht0⟩:∃t,ks[0]?=some t:=⟨_,aVq (by omega)⟩
 have hw0:=hw t0 (aVu ht0)
 have hx0:(aG ks).getD 0 ([],0)=(aF t0,aU t0.op):=by rw [aVp,cV ht0];rfl
 have ht:aF (.mk 9 arg neg l m name ks)=aN (aF t0,aU t0.op) 5++([94]++itT arg):=by rw [aF,← hx0];rfl
 rw [ht] at hl ⊢
 have hil:=nM (n:=arg) (by have:=hn.2.1;rw [show oN 9=-32 from rfl] at this;omega) (by have:=hn.2.2.1;rw [show jL 9=32 from rfl] at this;omega)
 simp only [aVo,aVs,aVv] at hl
 have c1:=fun h pw=>aEr h pw arg (by omega) (by omega)
 refine f1C ok D.q99 rfl ?_
 conv=>whnf
 repeat' first|((first|(apply aX.go)|(show Idx _ _ _ _ _;refine Idx.kid hk 0 t0 (by omega) ht0 (fun ad op2 arg2 neg2 a2 b2 name2 s2 hE hld=>?_))|refine hld _ _ _ (aA.lr _) ?_|((first|apply oI.z|apply cI.z))|intro (_:Nat)|refine Ld.o 0 rfl rfl ?_) <;> (conv=>whnf))|(apply aE<;>intro _<;>first|(exfalso;omega)|conv=>whnf)
 refine CN.all (A:=[_]) rfl (fT hw0 _ _ _ _ _ _ _ _ bb x _ _ tb pw (by assumption) hB (by omega)) (fun v h1 Lp hl1 hr=>?_)
 obtain ⟨hB1,rfl⟩:=hr
 have pw1:=pw.mono hl1
 conv=>whnf
 repeat' first|((first|(show CN _ _ _ _ _ _;refine CN.quiet rfl (c1 _ pw1) ?_)|(show Cat _ _ _;(refine Cat.txt (a:=[94]) (b:=itT arg) rfl rfl (by simp only [aVs,aVv];omega) ?_))|((first|apply oI.z|apply cI.z))|refine Ld.o 0 rfl rfl ?_) <;> (conv=>whnf))
 refine CN.all (A:=[_]) rfl (WSc _ bb _ ([94]++itT arg) _ hB1 (fun y hy=>by
   rcases aVx.1 hy with hy|hy
   ·simp only [aV7,List.not_mem_nil,or_false] at hy;omega
   ·exact tW _ y hy) (by simp) (by simp only [aVo,aVs,aVv];omega)) (fun v h2 Lp hl2 hr=>?_)
 obtain ⟨rfl,hB2,n1,e1,rfl⟩:=hr
 conv=>whnf
 repeat' first|(((first|apply oI.z|apply cI.z)) <;> (conv=>whnf))
 refine RN.drop0 (RN.done ⟨?_,rfl⟩)
 rw [aVt] at hB2;exact hB2
theorem aJs {arg:Int} {neg:Bool} {l m name:List Nat} {ks:List Tr} (hn:cX 10 arg neg l m name ks.length) (hw:∀t∈ks,bK t):bK (.mk 10 arg neg l m name ks):=by
 intro h vs bb x L tb pw w hB hl
 obtain ⟨a,b,s,rfl,ho,ha,hv,hb,hk⟩:=w.isK
 have hkl:=hk.len
 have hks:ks.length≤3:=by have h1:=hn.1;have h2:=fD 10;omega
 have ht:aF (.mk 10 arg neg l m name ks)=cH 10 arg++bM true (aG ks)++[41]:=by rw [aF];rfl
 rw [ht] at hl ⊢
 have hlo:=hn.2.1
 have hhi:=hn.2.2.1
 have hlh:=lZ 10
 have hjg:=iN true (aG ks)
 simp only [aVo,aVs,aVv] at hl
 refine f1C ok D.q99 rfl ?_
 conv=>whnf
 repeat' first|((first|(apply aX.go)|((first|apply oI.z|apply cI.z))|intro (_:Nat)|refine LdN.o 0 rfl rfl ?_|refine Ld.o 0 rfl rfl ?_) <;> (conv=>whnf))|(apply aE<;>intro _<;>first|(exfalso;omega)|conv=>whnf)
 refine CN.all (A:=[_]) rfl (lE hw hks _ 10 arg (by decide) (by omega) (by intro e;exact absurd e (by decide)) _ _ _ _ _ bb x _ tb pw hk hB (by omega)) (fun v h1 Lp hl1 hr=>?_)
 obtain ⟨hB2,rfl⟩:=hr
 conv=>whnf
 repeat' first|(((first|apply oI.z|apply cI.z)) <;> (conv=>whnf))
 exact RN.drop0 (RN.done ⟨hB2,rfl⟩)
theorem aJt {arg:Int} {neg:Bool} {l m name:List Nat} {ks:List Tr} (hn:cX 11 arg neg l m name ks.length) (hw:∀t∈ks,bK t):bK (.mk 11 arg neg l m name ks):=by
 intro h vs bb x L tb pw w hB hl
 obtain ⟨a,b,s,rfl,ho,ha,hv,hb,hk⟩:=w.isK
 have hkl:=hk.len
 have hks:ks.length≤3:=by have h1:=hn.1;have h2:=fD 11;omega
 have ht:aF (.mk 11 arg neg l m name ks)=cH 11 arg++bM true (aG ks)++[41]:=by rw [aF];rfl
 rw [ht] at hl ⊢
 have hlo:=hn.2.1
 have hhi:=hn.2.2.1
 have hlh:=lZ 11
 have hjg:=iN true (aG ks)
 simp only [aVo,aVs,aVv] at hl
 refine f1C ok D.q99 rfl ?_
 conv=>whnf
 repeat' first|((first|(apply aX.go)|((first|apply oI.z|apply cI.z))|intro (_:Nat)|refine LdN.o 0 rfl rfl ?_|refine Ld.o 0 rfl rfl ?_) <;> (conv=>whnf))|(apply aE<;>intro _<;>first|(exfalso;omega)|conv=>whnf)
 refine CN.all (A:=[_]) rfl (lE hw hks _ 11 arg (by decide) (by omega) (by intro _;rw [show oN 11=1 from rfl] at hlo;rw [show jL 11=8 from rfl] at hhi;omega) _ _ _ _ _ bb x _ tb pw hk hB (by omega)) (fun v h1 Lp hl1 hr=>?_)
 obtain ⟨hB2,rfl⟩:=hr
 conv=>whnf
 repeat' first|(((first|apply oI.z|apply cI.z)) <;> (conv=>whnf))
 exact RN.drop0 (RN.done ⟨hB2,rfl⟩)
theorem aJu {arg:Int} {neg:Bool} {l m name:List Nat} {ks:List Tr} (hn:cX 12 arg neg l m name ks.length) (hw:∀t∈ks,bK t):bK (.mk 12 arg neg l m name ks):=by
 intro h vs bb x L tb pw w hB hl
 obtain ⟨a,b,s,rfl,ho,ha,hv,hb,hk⟩:=w.isK
 have hkl:=hk.len
 have hks:ks.length≤3:=by have h1:=hn.1;have h2:=fD 12;omega
 have ht:aF (.mk 12 arg neg l m name ks)=cH 12 arg++bM true (aG ks)++[41]:=by rw [aF];rfl
 rw [ht] at hl ⊢
 have hlo:=hn.2.1
 have hhi:=hn.2.2.1
 have hlh:=lZ 12
 have hjg:=iN true (aG ks)
 simp only [aVo,aVs,aVv] at hl
 refine f1C ok D.q99 rfl ?_
 conv=>whnf
 repeat' first|((first|(apply aX.go)|((first|apply oI.z|apply cI.z))|intro (_:Nat)|refine LdN.o 0 rfl rfl ?_|refine Ld.o 0 rfl rfl ?_) <;> (conv=>whnf))|(apply aE<;>intro _<;>first|(exfalso;omega)|conv=>whnf)
 refine CN.all (A:=[_]) rfl (lE hw hks _ 12 arg (by decide) (by omega) (by intro e;exact absurd e (by decide)) _ _ _ _ _ bb x _ tb pw hk hB (by omega)) (fun v h1 Lp hl1 hr=>?_)
 obtain ⟨hB2,rfl⟩:=hr
 conv=>whnf
 repeat' first|(((first|apply oI.z|apply cI.z)) <;> (conv=>whnf))
 exact RN.drop0 (RN.done ⟨hB2,rfl⟩)
theorem aJv {arg:Int} {neg:Bool} {l m name:List Nat} {ks:List Tr} (hn:cX 13 arg neg l m name ks.length) (hw:∀t∈ks,bK t):bK (.mk 13 arg neg l m name ks):=by
 intro h vs bb x L tb pw w hB hl
 obtain ⟨a,b,s,rfl,ho,ha,hv,hb,hk⟩:=w.isK
 have hkl:=hk.len
 have hks:ks.length≤3:=by have h1:=hn.1;have h2:=fD 13;omega
 have ht:aF (.mk 13 arg neg l m name ks)=cH 13 arg++bM true (aG ks)++[41]:=by rw [aF];rfl
 rw [ht] at hl ⊢
 have hlo:=hn.2.1
 have hhi:=hn.2.2.1
 have hlh:=lZ 13
 have hjg:=iN true (aG ks)
 simp only [aVo,aVs,aVv] at hl
 refine f1C ok D.q99 rfl ?_
 conv=>whnf
 repeat' first|((first|(apply aX.go)|((first|apply oI.z|apply cI.z))|intro (_:Nat)|refine LdN.o 0 rfl rfl ?_|refine Ld.o 0 rfl rfl ?_) <;> (conv=>whnf))|(apply aE<;>intro _<;>first|(exfalso;omega)|conv=>whnf)
 refine CN.all (A:=[_]) rfl (lE hw hks _ 13 arg (by decide) (by omega) (by intro e;exact absurd e (by decide)) _ _ _ _ _ bb x _ tb pw hk hB (by omega)) (fun v h1 Lp hl1 hr=>?_)
 obtain ⟨hB2,rfl⟩:=hr
 conv=>whnf
 repeat' first|(((first|apply oI.z|apply cI.z)) <;> (conv=>whnf))
 exact RN.drop0 (RN.done ⟨hB2,rfl⟩)
theorem aJw {arg:Int} {neg:Bool} {l m name:List Nat} {ks:List Tr} (hn:cX 14 arg neg l m name ks.length) (hw:∀t∈ks,bK t):bK (.mk 14 arg neg l m name ks):=by
 intro h vs bb x L tb pw w hB hl
 obtain ⟨a,b,s,rfl,ho,ha,hv,hb,hk⟩:=w.isK
 have hkl:=hk.len
 have hks:ks.length≤3:=by have h1:=hn.1;have h2:=fD 14;omega
 have ht:aF (.mk 14 arg neg l m name ks)=cH 14 arg++bM true (aG ks)++[41]:=by rw [aF];rfl
 rw [ht] at hl ⊢
 have hlo:=hn.2.1
 have hhi:=hn.2.2.1
 have hlh:=lZ 14
 have hjg:=iN true (aG ks)
 simp only [aVo,aVs,aVv] at hl
 refine f1C ok D.q99 rfl ?_
 conv=>whnf
 repeat' first|((first|(apply aX.go)|((first|apply oI.z|apply cI.z))|intro (_:Nat)|refine LdN.o 0 rfl rfl ?_|refine Ld.o 0 rfl rfl ?_) <;> (conv=>whnf))|(apply aE<;>intro _<;>first|(exfalso;omega)|conv=>whnf)
 refine CN.all (A:=[_]) rfl (lE hw hks _ 14 arg (by decide) (by omega) (by intro e;exact absurd e (by decide)) _ _ _ _ _ bb x _ tb pw hk hB (by omega)) (fun v h1 Lp hl1 hr=>?_)
 obtain ⟨hB2,rfl⟩:=hr
 conv=>whnf
 repeat' first|(((first|apply oI.z|apply cI.z)) <;> (conv=>whnf))
 exact RN.drop0 (RN.done ⟨hB2,rfl⟩)
theorem aJx {arg:Int} {neg:Bool} {l m name:List Nat} {ks:List Tr} (hn:cX 15 arg neg l m name ks.length) (hw:∀t∈ks,bK t):bK (.mk 15 arg neg l m name ks):=by
 intro h vs bb x L tb pw w hB hl
 obtain ⟨a,b,s,rfl,ho,ha,hv,hb,hk⟩:=w.isK
 have hkl:=hk.len
 have hks:ks.length≤3:=by have h1:=hn.1;have h2:=fD 15;omega
 have ht:aF (.mk 15 arg neg l m name ks)=cH 15 arg++bM true (aG ks)++[41]:=by rw [aF];rfl
 rw [ht] at hl ⊢
 have hlo:=hn.2.1
 have hhi:=hn.2.2.1
 have hlh:=lZ 15
 have hjg:=iN true (aG ks)
 simp only [aVo,aVs,aVv] at hl
 refine f1C ok D.q99 rfl ?_
 conv=>whnf
 repeat' first|((first|(apply aX.go)|((first|apply oI.z|apply cI.z))|intro (_:Nat)|refine LdN.o 0 rfl rfl ?_|refine Ld.o 0 rfl rfl ?_) <;> (conv=>whnf))|(apply aE<;>intro _<;>first|(exfalso;omega)|conv=>whnf)
 refine CN.all (A:=[_]) rfl (lE hw hks _ 15 arg (by decide) (by omega) (by intro e;exact absurd e (by decide)) _ _ _ _ _ bb x _ tb pw hk hB (by omega)) (fun v h1 Lp hl1 hr=>?_)
 obtain ⟨hB2,rfl⟩:=hr
 conv=>whnf
 repeat' first|(((first|apply oI.z|apply cI.z)) <;> (conv=>whnf))
 exact RN.drop0 (RN.done ⟨hB2,rfl⟩)
theorem aJy:∀(t:Tr) (d:Nat),okT d t→bK t:=by
 refine iM fun t ih=>?_
 intro d hok
 obtain ⟨op,arg,neg,l,m,name,ks⟩:=t
 rw [okT] at hok
 obtain ⟨-,hn,hks⟩:=hok
 have hw:∀t∈ks,bK t:=fun t ht=>by
  obtain ⟨j,hj⟩:=List.mem_iff_getElem?.1 ht
  exact ih t (dB hj) (d+1) (cZ hks ht)
 have hop:1≤op∧op≤15:=by
  have h1:=hn.1
  have h2:cG op≠-1→1≤op∧op≤15:=fun x=>by
   unfold cG at x
   repeat' split at x
   all_goals omega
  exact h2 (by omega)
 have:op=1∨op=2∨op=3∨op=4∨op=5∨op=6∨op=7∨op=8∨op=9∨op=10∨op=11∨op=12∨op=13∨op=14∨op=15:=by omega
 rcases this with rfl|rfl|rfl|rfl|rfl|rfl|rfl|rfl|rfl|rfl|rfl|rfl|rfl|rfl|rfl
 ·exact aNs hn hw
 ·exact aNt hn hw
 ·exact aNu hn hw
 ·exact aNv hn hw
 ·exact aNw hn hw
 ·exact aNx hn hw
 ·exact aNy hn hw
 ·exact aNz hn hw
 ·exact aN0 hn hw
 ·exact aJs hn hw
 ·exact aJt hn hw
 ·exact aJu hn hw
 ·exact aJv hn hw
 ·exact aJw hn hw
 ·exact aJx hn hw
end Go.Proofs.Y