/- The text of a tree, written to a builder: each kind of node; Print. -/
import Derived.Test.YtiohcpiloenmoaaGreatDoorE25
set_option linter.all false
set_option maxHeartbeats 2000000
set_option maxRecDepth 20000
namespace Go.Proofs.Y
open Go Go.Vc Go.Dig
attribute [local irreducible] Vc.Fn
theorem aSi{arg:Int}{neg:Bool}{l m name:List Nat}{ks:List Tr}(hn:dW 1 arg neg l m name ks.length)(hw:∀t∈ks,bJ t):bJ (.mk 1 arg neg l m name ks):=by
 intro h vs bb x L tb pw w hB hl;obtain⟨a,b,s,rfl,ho,ha,hv,hb,hk⟩:=w.isK;have hkl:=hk.len;have hok:=hn.2.2.2.2;rw[if_pos rfl] at hok;have c1:=fun h tb hv=>aGe h tb neg a b l m hv
 have e1:sA neg l m=(rH (aK neg l m),0):=if_pos hok.1;rw[e1] at c1;have ht:aM (.mk 1 arg neg l m name ks)=rH (aK neg l m):=by rw[aM];rfl
 rw[ht] at hl ⊢;refine f1C ok D.q66 rfl ?_;conv=>whnf
 repeat' ((first|(show LdN _ _ _ _ _;refine LdN.oA 0 rfl rfl ?_)|(show CN _ _ _ _ _ _;(refine CN.f rfl (c1 _ Ab Ab) (fun v h' hl2 hr=>?_);subst hr))|((first|apply oI.z|apply cI.z))|intro (_:Nat)|refine Ld.o 0 rfl rfl ?_|(apply aD<;>intro _<;>try (exfalso;omega)))<;>conv=>whnf)
 refine CN.all (A:=[_]) rfl (WSc _ bb x (rH (aK neg l m)) _ hB (aAc _) (aIa _) Aa) (fun v h2 Lp hl1 hr=>?_)
 obtain⟨rfl,hB1,n1,e1,rfl⟩:=hr;conv=>whnf
 repeat' first|(((first|apply oI.z|apply cI.z))<;>(conv=>whnf))
 exact RN.drop0 (RN.done ⟨hB1,rfl⟩)
theorem aSj{arg:Int}{neg:Bool}{l m name:List Nat}{ks:List Tr}(hn:dW 2 arg neg l m name ks.length)(hw:∀t∈ks,bJ t):bJ (.mk 2 arg neg l m name ks):=by
 intro h vs bb x L tb pw w hB hl;obtain⟨a,b,s,rfl,ho,ha,hv,hb,hk⟩:=w.isK;have hkl:=hk.len;have hnm:=hn.2.2.2.1;rw[if_pos rfl] at hnm;have ht:aM (.mk 2 arg neg l m name ks)=name:=by rw[aM];rfl
 rw[ht] at hl ⊢;refine f1C ok D.q66 rfl ?_;conv=>whnf
 repeat' ((first|((first|apply oI.z|apply cI.z))|intro (_:Nat)|refine Ld.o 0 rfl rfl ?_|(apply aD<;>intro _<;>try (exfalso;omega)))<;>conv=>whnf)
 refine CN.all (A:=[_]) rfl (WSc _ bb x name _ hB hb hnm.2.2.1 Aa) (fun v h2 Lp hl1 hr=>?_)
 obtain⟨rfl,hB1,n1,e1,rfl⟩:=hr;conv=>whnf
 repeat' first|(((first|apply oI.z|apply cI.z))<;>(conv=>whnf))
 exact RN.drop0 (RN.done ⟨hB1,rfl⟩)
theorem aSk{arg:Int}{neg:Bool}{l m name:List Nat}{ks:List Tr}(hn:dW 3 arg neg l m name ks.length)(hw:∀t∈ks,bJ t):bJ (.mk 3 arg neg l m name ks):=by
 intro h vs bb x L tb pw w hB hl;obtain⟨a,b,s,rfl,ho,ha,hv,hb,hk⟩:=w.isK;have hkl:=hk.len;have ht:aM (.mk 3 arg neg l m name ks)=[112,105]:=by rw[aM];rfl
 rw[ht] at hl ⊢;refine f1C ok D.q66 rfl ?_;conv=>whnf
 repeat' ((first|((first|apply oI.z|apply cI.z))|intro (_:Nat)|refine Ld.o 0 rfl rfl ?_|(apply aD<;>intro _<;>try (exfalso;omega)))<;>conv=>whnf)
 refine CN.all (A:=[_]) rfl (WSc _ bb x [112,105] _ hB Ag Ag (by simp only[aY6,aY9] at hl ⊢;omega)) (fun v h2 Lp hl1 hr=>?_)
 obtain⟨rfl,hB1,n1,e1,rfl⟩:=hr;conv=>whnf
 repeat' first|(((first|apply oI.z|apply cI.z))<;>(conv=>whnf))
 exact RN.drop0 (RN.done ⟨hB1,rfl⟩)
theorem aSl{arg:Int}{neg:Bool}{l m name:List Nat}{ks:List Tr}(hn:dW 4 arg neg l m name ks.length)(hw:∀t∈ks,bJ t):bJ (.mk 4 arg neg l m name ks):=by
 intro h vs bb x L tb pw w hB hl;obtain⟨a,b,s,rfl,ho,ha,hv,hb,hk⟩:=w.isK;have hkl:=hk.len;have hkn:ks.length=1:=by have:=hn.1;rw[show aV 4=1 from rfl] at this;omega
 obtain⟨t0,ht0⟩:∃t,ks[0]?=some t:=⟨_,aY4 Aa⟩
 have hw0:=hw t0 (aY8 ht0);have hx0:(aU ks).getD 0 ([],0)=(aM t0,cX t0.op):=by rw[aY3,eI ht0];rfl
 have ht:aM (.mk 4 arg neg l m name ks)=[45]++bG (aM t0,cX t0.op) 3:=by rw[aM,<-hx0];rfl
 rw[ht] at hl ⊢;simp only[aY2,aY6,aY9] at hl;refine f1C ok D.q66 rfl ?_;conv=>whnf
 repeat' ((first|((first|apply oI.z|apply cI.z))|intro (_:Nat)|refine Ld.o 0 rfl rfl ?_|(apply aD<;>intro _<;>try (exfalso;omega)))<;>conv=>whnf)
 refine CN.all (A:=[_]) rfl (WSc _ bb x [45] _ hB Ag Ag AD) (fun v h2 Lp hl1 hr=>?_)
 obtain⟨rfl,hB1,n1,e1,rfl⟩:=hr;conv=>whnf
 repeat' ((first|(show Idx _ _ _ _ _;refine Idx.kid hk 0 t0 Aa ht0 (fun ad op2 arg2 neg2 a2 b2 name2 s2 hE hld=>?_))|refine hld _ _ _ (aA.lr _) ?_|((first|apply oI.z|apply cI.z))|refine Ld.o 0 rfl rfl ?_)<;>conv=>whnf)
 refine CN.all (A:=[_]) rfl (iF hw0 _ _ _ _ _ _ _ _ bb _ _ _ tb pw Ab hB1 Av) (fun v h1 Lp hl1 hr=>?_)
 obtain⟨hB2,rfl⟩:=hr;conv=>whnf
 repeat' first|(((first|apply oI.z|apply cI.z))<;>(conv=>whnf))
 refine RN.drop0 (RN.done ⟨?_,rfl⟩);rw[aY7] at hB2;exact hB2
theorem aSm{arg:Int}{neg:Bool}{l m name:List Nat}{ks:List Tr}(hn:dW 5 arg neg l m name ks.length)(hw:∀t∈ks,bJ t):bJ (.mk 5 arg neg l m name ks):=by
 intro h vs bb x L tb pw w hB hl;obtain⟨a,b,s,rfl,ho,ha,hv,hb,hk⟩:=w.isK;have hkl:=hk.len;have hkn:ks.length=2:=by have:=hn.1;rw[show aV 5=2 from rfl] at this;omega
 obtain⟨t0,ht0⟩:∃t,ks[0]?=some t:=⟨_,aY4 Aa⟩
 have hw0:=hw t0 (aY8 ht0);obtain⟨t1,ht1⟩:∃t,ks[1]?=some t:=⟨_,aY4 Aa⟩
 have hw1:=hw t1 (aY8 ht1);have hx0:(aU ks).getD 0 ([],0)=(aM t0,cX t0.op):=by rw[aY3,eI ht0];rfl
 have hx1:(aU ks).getD 1 ([],0)=(aM t1,cX t1.op):=by rw[aY3,eI ht1];rfl
 have hks:ks=[t0,t1]:=aB4 hkn ht0 ht1;have ht:aM (.mk 5 arg neg l m name ks)=bG (aM t0,cX t0.op) 1++lH 5++bG (aM t1,cX t1.op) 2:=by rw[aM,<-hx0,<-hx1];rfl
 rw[ht] at hl ⊢;have hs3:(lH 5).length=3:=rfl;simp only[aY2] at hl;refine f1C ok D.q66 rfl ?_;conv=>whnf
 repeat' ((first|(apply aO.go)|((first|apply oI.z|apply cI.z))|intro (_:Nat)|refine LdN.o 0 rfl rfl ?_|refine Ld.o 0 rfl rfl ?_|(apply aD<;>intro _<;>try (exfalso;omega)))<;>conv=>whnf)
 refine CN.all (A:=[_]) rfl (aSe hks hw0 hw1 _ _ _ _ _ _ _ bb x _ _ _ tb pw hk hB Aa) (fun v h1 Lp hl1 hr=>?_)
 obtain⟨hB2,rfl⟩:=hr;conv=>whnf
 repeat' first|(((first|apply oI.z|apply cI.z))<;>(conv=>whnf))
 exact RN.drop0 (RN.done ⟨hB2,rfl⟩)
theorem aSn{arg:Int}{neg:Bool}{l m name:List Nat}{ks:List Tr}(hn:dW 6 arg neg l m name ks.length)(hw:∀t∈ks,bJ t):bJ (.mk 6 arg neg l m name ks):=by
 intro h vs bb x L tb pw w hB hl;obtain⟨a,b,s,rfl,ho,ha,hv,hb,hk⟩:=w.isK;have hkl:=hk.len;have hkn:ks.length=2:=by have:=hn.1;rw[show aV 6=2 from rfl] at this;omega
 obtain⟨t0,ht0⟩:∃t,ks[0]?=some t:=⟨_,aY4 Aa⟩
 have hw0:=hw t0 (aY8 ht0);obtain⟨t1,ht1⟩:∃t,ks[1]?=some t:=⟨_,aY4 Aa⟩
 have hw1:=hw t1 (aY8 ht1);have hx0:(aU ks).getD 0 ([],0)=(aM t0,cX t0.op):=by rw[aY3,eI ht0];rfl
 have hx1:(aU ks).getD 1 ([],0)=(aM t1,cX t1.op):=by rw[aY3,eI ht1];rfl
 have hks:ks=[t0,t1]:=aB4 hkn ht0 ht1;have ht:aM (.mk 6 arg neg l m name ks)=bG (aM t0,cX t0.op) 1++lH 6++bG (aM t1,cX t1.op) 2:=by rw[aM,<-hx0,<-hx1];rfl
 rw[ht] at hl ⊢;have hs3:(lH 6).length=3:=rfl;simp only[aY2] at hl;refine f1C ok D.q66 rfl ?_;conv=>whnf
 repeat' ((first|(apply aO.go)|((first|apply oI.z|apply cI.z))|intro (_:Nat)|refine LdN.o 0 rfl rfl ?_|refine Ld.o 0 rfl rfl ?_|(apply aD<;>intro _<;>try (exfalso;omega)))<;>conv=>whnf)
 refine CN.all (A:=[_]) rfl (aSf hks hw0 hw1 _ _ _ _ _ _ _ bb x _ _ _ tb pw hk hB Aa) (fun v h1 Lp hl1 hr=>?_)
 obtain⟨hB2,rfl⟩:=hr;conv=>whnf
 repeat' first|(((first|apply oI.z|apply cI.z))<;>(conv=>whnf))
 exact RN.drop0 (RN.done ⟨hB2,rfl⟩)
theorem aSo{arg:Int}{neg:Bool}{l m name:List Nat}{ks:List Tr}(hn:dW 7 arg neg l m name ks.length)(hw:∀t∈ks,bJ t):bJ (.mk 7 arg neg l m name ks):=by
 intro h vs bb x L tb pw w hB hl;obtain⟨a,b,s,rfl,ho,ha,hv,hb,hk⟩:=w.isK;have hkl:=hk.len;have hkn:ks.length=2:=by have:=hn.1;rw[show aV 7=2 from rfl] at this;omega
 obtain⟨t0,ht0⟩:∃t,ks[0]?=some t:=⟨_,aY4 Aa⟩
 have hw0:=hw t0 (aY8 ht0);obtain⟨t1,ht1⟩:∃t,ks[1]?=some t:=⟨_,aY4 Aa⟩
 have hw1:=hw t1 (aY8 ht1);have hx0:(aU ks).getD 0 ([],0)=(aM t0,cX t0.op):=by rw[aY3,eI ht0];rfl
 have hx1:(aU ks).getD 1 ([],0)=(aM t1,cX t1.op):=by rw[aY3,eI ht1];rfl
 have hks:ks=[t0,t1]:=aB4 hkn ht0 ht1;have ht:aM (.mk 7 arg neg l m name ks)=bG (aM t0,cX t0.op) 2++lH 7++bG (aM t1,cX t1.op) 3:=by rw[aM,<-hx0,<-hx1];rfl
 rw[ht] at hl ⊢;have hs3:(lH 7).length=3:=rfl;simp only[aY2] at hl;refine f1C ok D.q66 rfl ?_;conv=>whnf
 repeat' ((first|(apply aO.go)|((first|apply oI.z|apply cI.z))|intro (_:Nat)|refine LdN.o 0 rfl rfl ?_|refine Ld.o 0 rfl rfl ?_|(apply aD<;>intro _<;>try (exfalso;omega)))<;>conv=>whnf)
 refine CN.all (A:=[_]) rfl (aSg hks hw0 hw1 _ _ _ _ _ _ _ bb x _ _ _ tb pw hk hB Aa) (fun v h1 Lp hl1 hr=>?_)
 obtain⟨hB2,rfl⟩:=hr;conv=>whnf
 repeat' first|(((first|apply oI.z|apply cI.z))<;>(conv=>whnf))
 exact RN.drop0 (RN.done ⟨hB2,rfl⟩)
theorem aSp{arg:Int}{neg:Bool}{l m name:List Nat}{ks:List Tr}(hn:dW 8 arg neg l m name ks.length)(hw:∀t∈ks,bJ t):bJ (.mk 8 arg neg l m name ks):=by
 intro h vs bb x L tb pw w hB hl;obtain⟨a,b,s,rfl,ho,ha,hv,hb,hk⟩:=w.isK;have hkl:=hk.len;have hkn:ks.length=2:=by have:=hn.1;rw[show aV 8=2 from rfl] at this;omega
 obtain⟨t0,ht0⟩:∃t,ks[0]?=some t:=⟨_,aY4 Aa⟩
 have hw0:=hw t0 (aY8 ht0);obtain⟨t1,ht1⟩:∃t,ks[1]?=some t:=⟨_,aY4 Aa⟩
 have hw1:=hw t1 (aY8 ht1);have hx0:(aU ks).getD 0 ([],0)=(aM t0,cX t0.op):=by rw[aY3,eI ht0];rfl
 have hx1:(aU ks).getD 1 ([],0)=(aM t1,cX t1.op):=by rw[aY3,eI ht1];rfl
 have hks:ks=[t0,t1]:=aB4 hkn ht0 ht1;have ht:aM (.mk 8 arg neg l m name ks)=bG (aM t0,cX t0.op) 2++lH 8++bG (aM t1,cX t1.op) 3:=by rw[aM,<-hx0,<-hx1];rfl
 rw[ht] at hl ⊢;have hs3:(lH 8).length=3:=rfl;simp only[aY2] at hl;refine f1C ok D.q66 rfl ?_;conv=>whnf
 repeat' ((first|(apply aO.go)|((first|apply oI.z|apply cI.z))|intro (_:Nat)|refine LdN.o 0 rfl rfl ?_|refine Ld.o 0 rfl rfl ?_|(apply aD<;>intro _<;>try (exfalso;omega)))<;>conv=>whnf)
 refine CN.all (A:=[_]) rfl (aSh hks hw0 hw1 _ _ _ _ _ _ _ bb x _ _ _ tb pw hk hB Aa) (fun v h1 Lp hl1 hr=>?_)
 obtain⟨hB2,rfl⟩:=hr;conv=>whnf
 repeat' first|(((first|apply oI.z|apply cI.z))<;>(conv=>whnf))
 exact RN.drop0 (RN.done ⟨hB2,rfl⟩)
theorem aSq{arg:Int}{neg:Bool}{l m name:List Nat}{ks:List Tr}(hn:dW 9 arg neg l m name ks.length)(hw:∀t∈ks,bJ t):bJ (.mk 9 arg neg l m name ks):=by
 intro h vs bb x L tb pw w hB hl;obtain⟨a,b,s,rfl,ho,ha,hv,hb,hk⟩:=w.isK;have hkl:=hk.len;have hkn:ks.length=1:=by have:=hn.1;rw[show aV 9=1 from rfl] at this;omega
 obtain⟨t0,ht0⟩:∃t,ks[0]?=some t:=⟨_,aY4 Aa⟩
 have hw0:=hw t0 (aY8 ht0);have hx0:(aU ks).getD 0 ([],0)=(aM t0,cX t0.op):=by rw[aY3,eI ht0];rfl
 have ht:aM (.mk 9 arg neg l m name ks)=bG (aM t0,cX t0.op) 5++([94]++itT arg):=by rw[aM,<-hx0];rfl
 rw[ht] at hl ⊢;have hil:=vN (n:=arg) (by have:=hn.2.1;rw[show jO 9=-32 from rfl] at this;omega) (by have:=hn.2.2.1;rw[show fJ 9=32 from rfl] at this;omega);simp only[aY2,aY6,aY9] at hl;have c1:=fun h pw=>aH9 h pw arg Aa Aa
 refine f1C ok D.q66 rfl ?_;conv=>whnf
 repeat' ((first|(apply aO.go)|(show Idx _ _ _ _ _;refine Idx.kid hk 0 t0 Aa ht0 (fun ad op2 arg2 neg2 a2 b2 name2 s2 hE hld=>?_))|refine hld _ _ _ (aA.lr _) ?_|((first|apply oI.z|apply cI.z))|intro (_:Nat)|refine Ld.o 0 rfl rfl ?_|(apply aD<;>intro _<;>try (exfalso;omega)))<;>conv=>whnf)
 refine CN.all (A:=[_]) rfl (iF hw0 _ _ _ _ _ _ _ _ bb x _ _ tb pw Ab hB Aa) (fun v h1 Lp hl1 hr=>?_)
 obtain⟨hB1,rfl⟩:=hr;have pw1:=pw.mono hl1;conv=>whnf
 repeat' ((first|(show CN _ _ _ _ _ _;refine CN.quiet rfl (c1 _ pw1) ?_)|(show Cat _ _ _;(refine Cat.txt (a:=[94]) (b:=itT arg) rfl rfl AD ?_))|((first|apply oI.z|apply cI.z))|refine Ld.o 0 rfl rfl ?_)<;>conv=>whnf)
 refine CN.all (A:=[_]) rfl (WSc _ bb _ ([94]++itT arg) _ hB1 (fun y hy=>by
   rcases aZb.1 hy with hy|hy
   .simp only[aZl,bAy,or_false] at hy;omega
   .exact xF _ y hy) Ar Av) (fun v h2 Lp hl2 hr=>?_)
 obtain⟨rfl,hB2,n1,e1,rfl⟩:=hr;conv=>whnf
 repeat' first|(((first|apply oI.z|apply cI.z))<;>(conv=>whnf))
 refine RN.drop0 (RN.done ⟨?_,rfl⟩);rw[aY7] at hB2;exact hB2
theorem aN6{arg:Int}{neg:Bool}{l m name:List Nat}{ks:List Tr}(hn:dW 10 arg neg l m name ks.length)(hw:∀t∈ks,bJ t):bJ (.mk 10 arg neg l m name ks):=by
 intro h vs bb x L tb pw w hB hl;obtain⟨a,b,s,rfl,ho,ha,hv,hb,hk⟩:=w.isK;have hkl:=hk.len;have hks:ks.length<=3:=by have h1:=hn.1;have h2:=cR 10;omega
 have ht:aM (.mk 10 arg neg l m name ks)=gA 10 arg++cF true (aU ks)++[41]:=by rw[aM];rfl
 rw[ht] at hl ⊢;have hlo:=hn.2.1;have hhi:=hn.2.2.1;have hlh:=oD 10;have hjg:=kF true (aU ks);simp only[aY2,aY6,aY9] at hl;refine f1C ok D.q66 rfl ?_;conv=>whnf
 repeat' ((first|(apply aO.go)|((first|apply oI.z|apply cI.z))|intro (_:Nat)|refine LdN.o 0 rfl rfl ?_|refine Ld.o 0 rfl rfl ?_|(apply aD<;>intro _<;>try (exfalso;omega)))<;>conv=>whnf)
 refine CN.all (A:=[_]) rfl (nE hw hks _ 10 arg Ag Aa (by intro e;exact absurd e Ag) _ _ _ _ _ bb x _ tb pw hk hB Aa) (fun v h1 Lp hl1 hr=>?_)
 obtain⟨hB2,rfl⟩:=hr;conv=>whnf
 repeat' first|(((first|apply oI.z|apply cI.z))<;>(conv=>whnf))
 exact RN.drop0 (RN.done ⟨hB2,rfl⟩)
theorem aN7{arg:Int}{neg:Bool}{l m name:List Nat}{ks:List Tr}(hn:dW 11 arg neg l m name ks.length)(hw:∀t∈ks,bJ t):bJ (.mk 11 arg neg l m name ks):=by
 intro h vs bb x L tb pw w hB hl;obtain⟨a,b,s,rfl,ho,ha,hv,hb,hk⟩:=w.isK;have hkl:=hk.len;have hks:ks.length<=3:=by have h1:=hn.1;have h2:=cR 11;omega
 have ht:aM (.mk 11 arg neg l m name ks)=gA 11 arg++cF true (aU ks)++[41]:=by rw[aM];rfl
 rw[ht] at hl ⊢;have hlo:=hn.2.1;have hhi:=hn.2.2.1;have hlh:=oD 11;have hjg:=kF true (aU ks);simp only[aY2,aY6,aY9] at hl;refine f1C ok D.q66 rfl ?_;conv=>whnf
 repeat' ((first|(apply aO.go)|((first|apply oI.z|apply cI.z))|intro (_:Nat)|refine LdN.o 0 rfl rfl ?_|refine Ld.o 0 rfl rfl ?_|(apply aD<;>intro _<;>try (exfalso;omega)))<;>conv=>whnf)
 refine CN.all (A:=[_]) rfl (nE hw hks _ 11 arg Ag Aa (by intro _;rw[show jO 11=1 from rfl] at hlo;rw[show fJ 11=8 from rfl] at hhi;omega) _ _ _ _ _ bb x _ tb pw hk hB Aa) (fun v h1 Lp hl1 hr=>?_)
 obtain⟨hB2,rfl⟩:=hr;conv=>whnf
 repeat' first|(((first|apply oI.z|apply cI.z))<;>(conv=>whnf))
 exact RN.drop0 (RN.done ⟨hB2,rfl⟩)
theorem aN8{arg:Int}{neg:Bool}{l m name:List Nat}{ks:List Tr}(hn:dW 12 arg neg l m name ks.length)(hw:∀t∈ks,bJ t):bJ (.mk 12 arg neg l m name ks):=by
 intro h vs bb x L tb pw w hB hl;obtain⟨a,b,s,rfl,ho,ha,hv,hb,hk⟩:=w.isK;have hkl:=hk.len;have hks:ks.length<=3:=by have h1:=hn.1;have h2:=cR 12;omega
 have ht:aM (.mk 12 arg neg l m name ks)=gA 12 arg++cF true (aU ks)++[41]:=by rw[aM];rfl
 rw[ht] at hl ⊢;have hlo:=hn.2.1;have hhi:=hn.2.2.1;have hlh:=oD 12;have hjg:=kF true (aU ks);simp only[aY2,aY6,aY9] at hl;refine f1C ok D.q66 rfl ?_;conv=>whnf
 repeat' ((first|(apply aO.go)|((first|apply oI.z|apply cI.z))|intro (_:Nat)|refine LdN.o 0 rfl rfl ?_|refine Ld.o 0 rfl rfl ?_|(apply aD<;>intro _<;>try (exfalso;omega)))<;>conv=>whnf)
 refine CN.all (A:=[_]) rfl (nE hw hks _ 12 arg Ag Aa (by intro e;exact absurd e Ag) _ _ _ _ _ bb x _ tb pw hk hB Aa) (fun v h1 Lp hl1 hr=>?_)
 obtain⟨hB2,rfl⟩:=hr;conv=>whnf
 repeat' first|(((first|apply oI.z|apply cI.z))<;>(conv=>whnf))
 exact RN.drop0 (RN.done ⟨hB2,rfl⟩)
theorem aN9{arg:Int}{neg:Bool}{l m name:List Nat}{ks:List Tr}(hn:dW 13 arg neg l m name ks.length)(hw:∀t∈ks,bJ t):bJ (.mk 13 arg neg l m name ks):=by
 intro h vs bb x L tb pw w hB hl;obtain⟨a,b,s,rfl,ho,ha,hv,hb,hk⟩:=w.isK;have hkl:=hk.len;have hks:ks.length<=3:=by have h1:=hn.1;have h2:=cR 13;omega
 have ht:aM (.mk 13 arg neg l m name ks)=gA 13 arg++cF true (aU ks)++[41]:=by rw[aM];rfl
 rw[ht] at hl ⊢;have hlo:=hn.2.1;have hhi:=hn.2.2.1;have hlh:=oD 13;have hjg:=kF true (aU ks);simp only[aY2,aY6,aY9] at hl;refine f1C ok D.q66 rfl ?_;conv=>whnf
 repeat' ((first|(apply aO.go)|((first|apply oI.z|apply cI.z))|intro (_:Nat)|refine LdN.o 0 rfl rfl ?_|refine Ld.o 0 rfl rfl ?_|(apply aD<;>intro _<;>try (exfalso;omega)))<;>conv=>whnf)
 refine CN.all (A:=[_]) rfl (nE hw hks _ 13 arg Ag Aa (by intro e;exact absurd e Ag) _ _ _ _ _ bb x _ tb pw hk hB Aa) (fun v h1 Lp hl1 hr=>?_)
 obtain⟨hB2,rfl⟩:=hr;conv=>whnf
 repeat' first|(((first|apply oI.z|apply cI.z))<;>(conv=>whnf))
 exact RN.drop0 (RN.done ⟨hB2,rfl⟩)
theorem aOa{arg:Int}{neg:Bool}{l m name:List Nat}{ks:List Tr}(hn:dW 14 arg neg l m name ks.length)(hw:∀t∈ks,bJ t):bJ (.mk 14 arg neg l m name ks):=by
 intro h vs bb x L tb pw w hB hl;obtain⟨a,b,s,rfl,ho,ha,hv,hb,hk⟩:=w.isK;have hkl:=hk.len;have hks:ks.length<=3:=by have h1:=hn.1;have h2:=cR 14;omega
 have ht:aM (.mk 14 arg neg l m name ks)=gA 14 arg++cF true (aU ks)++[41]:=by rw[aM];rfl
 rw[ht] at hl ⊢;have hlo:=hn.2.1;have hhi:=hn.2.2.1;have hlh:=oD 14;have hjg:=kF true (aU ks);simp only[aY2,aY6,aY9] at hl;refine f1C ok D.q66 rfl ?_;conv=>whnf
 repeat' ((first|(apply aO.go)|((first|apply oI.z|apply cI.z))|intro (_:Nat)|refine LdN.o 0 rfl rfl ?_|refine Ld.o 0 rfl rfl ?_|(apply aD<;>intro _<;>try (exfalso;omega)))<;>conv=>whnf)
 refine CN.all (A:=[_]) rfl (nE hw hks _ 14 arg Ag Aa (by intro e;exact absurd e Ag) _ _ _ _ _ bb x _ tb pw hk hB Aa) (fun v h1 Lp hl1 hr=>?_)
 obtain⟨hB2,rfl⟩:=hr;conv=>whnf
 repeat' first|(((first|apply oI.z|apply cI.z))<;>(conv=>whnf))
 exact RN.drop0 (RN.done ⟨hB2,rfl⟩)
theorem aOb{arg:Int}{neg:Bool}{l m name:List Nat}{ks:List Tr}(hn:dW 15 arg neg l m name ks.length)(hw:∀t∈ks,bJ t):bJ (.mk 15 arg neg l m name ks):=by
 intro h vs bb x L tb pw w hB hl;obtain⟨a,b,s,rfl,ho,ha,hv,hb,hk⟩:=w.isK;have hkl:=hk.len;have hks:ks.length<=3:=by have h1:=hn.1;have h2:=cR 15;omega
 have ht:aM (.mk 15 arg neg l m name ks)=gA 15 arg++cF true (aU ks)++[41]:=by rw[aM];rfl
 rw[ht] at hl ⊢;have hlo:=hn.2.1;have hhi:=hn.2.2.1;have hlh:=oD 15;have hjg:=kF true (aU ks);simp only[aY2,aY6,aY9] at hl;refine f1C ok D.q66 rfl ?_;conv=>whnf
 repeat' ((first|(apply aO.go)|((first|apply oI.z|apply cI.z))|intro (_:Nat)|refine LdN.o 0 rfl rfl ?_|refine Ld.o 0 rfl rfl ?_|(apply aD<;>intro _<;>try (exfalso;omega)))<;>conv=>whnf)
 refine CN.all (A:=[_]) rfl (nE hw hks _ 15 arg Ag Aa (by intro e;exact absurd e Ag) _ _ _ _ _ bb x _ tb pw hk hB Aa) (fun v h1 Lp hl1 hr=>?_)
 obtain⟨hB2,rfl⟩:=hr;conv=>whnf
 repeat' first|(((first|apply oI.z|apply cI.z))<;>(conv=>whnf))
 exact RN.drop0 (RN.done ⟨hB2,rfl⟩)
theorem aOc:∀(t:Tr) (d:Nat),okT d t->bJ t:=by
 refine dX fun t ih=>?_
 intro d hok;obtain⟨op,arg,neg,l,m,name,ks⟩:=t;rw[okT] at hok;obtain⟨-,hn,hks⟩:=hok;have hw:∀t∈ks,bJ t:=fun t ht=>by
  obtain⟨j,hj⟩:=List.mem_iff_getElem?.1 ht;exact ih t (bM hj) (d+1) (dY hks ht)
 have hop:1<=op/\op<=15:=by
  have h1:=hn.1;have h2:aV op≠-1->1<=op/\op<=15:=fun x=>by
   unfold aV at x
   repeat' split at x
   all_goals omega
  exact h2 Aa
 have:op=1\/op=2\/op=3\/op=4\/op=5\/op=6\/op=7\/op=8\/op=9\/op=10\/op=11\/op=12\/op=13\/op=14\/op=15:=Aa;rcases this with rfl|rfl|rfl|rfl|rfl|rfl|rfl|rfl|rfl|rfl|rfl|rfl|rfl|rfl|rfl
 .exact aSi hn hw
 .exact aSj hn hw
 .exact aSk hn hw
 .exact aSl hn hw
 .exact aSm hn hw
 .exact aSn hn hw
 .exact aSo hn hw
 .exact aSp hn hw
 .exact aSq hn hw
 .exact aN6 hn hw
 .exact aN7 hn hw
 .exact aN8 hn hw
 .exact aN9 hn hw
 .exact aOa hn hw
 .exact aOb hn hw
end Go.Proofs.Y