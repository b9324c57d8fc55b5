/- The text of a tree, written to a builder: each kind of node; Print. -/
import Derived.Test.YtdccpmlhflpeaaaGreatDoorE25
set_option linter.all false
set_option maxHeartbeats 2000000
set_option maxRecDepth 20000
namespace Go.Proofs.Y
open Go Go.Vc Go.Dig
attribute [local irreducible] Vc.Fn
theorem aVz{arg:Int}{neg:Bool}{l m name:List Nat}{ks:List Tr}(hn:fQ 1 arg neg l m name ks.length)(hw:∀t∈ks,eI t):eI (.mk 1 arg neg l m name ks):=by
 intro h vs bb x L tb pw w hB hl;obtain⟨a,b,s,rfl,ho,ha,hv,hb,hk⟩:=w.isK;have hkl:=hk.len;have hok:=hn.2.2.2.2;rw[if_pos rfl] at hok;have c1:=fun h tb hv=>aIy h tb neg a b l m hv
 have e1:uF neg l m=(kA (aN neg l m),0):=if_pos hok.1;rw[e1] at c1;have ht:aK (.mk 1 arg neg l m name ks)=kA (aN neg l m):=by rw[aK];rfl
 rw[ht] at hl ⊢;refine f1C ok D.q66 rfl ?_;conv=>whnf
 repeat' ((first|(show LdN _ _ _ _ _;refine LdN.oA 0 rfl rfl ?_)|(show CN _ _ _ _ _ _;(refine CN.f rfl (c1 _ Ab Ab) (fun v h' hl2 hr=>?_);subst hr))|((first|apply oI.z|apply cI.z))|intro (_:Nat)|refine Ld.o 0 rfl rfl ?_|(apply aD<;>intro _<;>try (exfalso;omega)))<;>conv=>whnf)
 refine CN.all (A:=[_]) rfl (WSc _ bb x (kA (aN neg l m)) _ hB (aB7 _) (aK6 _) Aa) (fun v h2 Lp hl1 hr=>?_)
 obtain⟨rfl,hB1,n1,e1,rfl⟩:=hr;conv=>whnf
 repeat' first|(((first|apply oI.z|apply cI.z))<;>(conv=>whnf))
 exact RN.drop0 (RN.done ⟨hB1,rfl⟩)
theorem aV0{arg:Int}{neg:Bool}{l m name:List Nat}{ks:List Tr}(hn:fQ 2 arg neg l m name ks.length)(hw:∀t∈ks,eI t):eI (.mk 2 arg neg l m name ks):=by
 intro h vs bb x L tb pw w hB hl;obtain⟨a,b,s,rfl,ho,ha,hv,hb,hk⟩:=w.isK;have hkl:=hk.len;have hnm:=hn.2.2.2.1;rw[if_pos rfl] at hnm;have ht:aK (.mk 2 arg neg l m name ks)=name:=by rw[aK];rfl
 rw[ht] at hl ⊢;refine f1C ok D.q66 rfl ?_;conv=>whnf
 repeat' ((first|((first|apply oI.z|apply cI.z))|intro (_:Nat)|refine Ld.o 0 rfl rfl ?_|(apply aD<;>intro _<;>try (exfalso;omega)))<;>conv=>whnf)
 refine CN.all (A:=[_]) rfl (WSc _ bb x name _ hB hb hnm.2.2.1 Aa) (fun v h2 Lp hl1 hr=>?_)
 obtain⟨rfl,hB1,n1,e1,rfl⟩:=hr;conv=>whnf
 repeat' first|(((first|apply oI.z|apply cI.z))<;>(conv=>whnf))
 exact RN.drop0 (RN.done ⟨hB1,rfl⟩)
theorem aV1{arg:Int}{neg:Bool}{l m name:List Nat}{ks:List Tr}(hn:fQ 4 arg neg l m name ks.length)(hw:∀t∈ks,eI t):eI (.mk 4 arg neg l m name ks):=by
 intro h vs bb x L tb pw w hB hl;obtain⟨a,b,s,rfl,ho,ha,hv,hb,hk⟩:=w.isK;have hkl:=hk.len;have hkn:ks.length=1:=by have:=hn.1;rw[show aR 4=1 from rfl] at this;omega
 obtain⟨t0,ht0⟩:∃t,ks[0]?=some t:=⟨_,bC8 Aa⟩
 have hw0:=hw t0 (bDc ht0);have hx0:(dC ks).getD 0 ([],0)=(aK t0,dB t0.op):=by rw[bC7,gW ht0];rfl
 have ht:aK (.mk 4 arg neg l m name ks)=[45]++bM (aK t0,dB t0.op) 3:=by rw[aK,<-hx0];rfl
 rw[ht] at hl ⊢;simp only[bC6,bDa,bDd] at hl;refine f1C ok D.q66 rfl ?_;conv=>whnf
 repeat' ((first|((first|apply oI.z|apply cI.z))|intro (_:Nat)|refine Ld.o 0 rfl rfl ?_|(apply aD<;>intro _<;>try (exfalso;omega)))<;>conv=>whnf)
 refine CN.all (A:=[_]) rfl (WSc _ bb x [45] _ hB Ad Ad (by simp only[bDa,bDd];omega)) (fun v h2 Lp hl1 hr=>?_)
 obtain⟨rfl,hB1,n1,e1,rfl⟩:=hr;conv=>whnf
 repeat' ((first|(show Idx _ _ _ _ _;refine Idx.kid hk 0 t0 Aa ht0 (fun ad op2 arg2 neg2 a2 b2 name2 s2 hE hld=>?_))|refine hld _ _ _ (aA.lr _) ?_|((first|apply oI.z|apply cI.z))|refine Ld.o 0 rfl rfl ?_)<;>conv=>whnf)
 refine CN.all (A:=[_]) rfl (kY hw0 _ _ _ _ _ _ _ _ bb _ _ _ tb pw Ab hB1 Au) (fun v h1 Lp hl1 hr=>?_)
 obtain⟨hB2,rfl⟩:=hr;conv=>whnf
 repeat' first|(((first|apply oI.z|apply cI.z))<;>(conv=>whnf))
 refine RN.drop0 (RN.done ⟨?_,rfl⟩);rw[bDb] at hB2;exact hB2
theorem aV2{arg:Int}{neg:Bool}{l m name:List Nat}{ks:List Tr}(hn:fQ 5 arg neg l m name ks.length)(hw:∀t∈ks,eI t):eI (.mk 5 arg neg l m name ks):=by
 intro h vs bb x L tb pw w hB hl;obtain⟨a,b,s,rfl,ho,ha,hv,hb,hk⟩:=w.isK;have hkl:=hk.len;have hkn:ks.length=2:=by have:=hn.1;rw[show aR 5=2 from rfl] at this;omega
 obtain⟨t0,ht0⟩:∃t,ks[0]?=some t:=⟨_,bC8 Aa⟩
 have hw0:=hw t0 (bDc ht0);obtain⟨t1,ht1⟩:∃t,ks[1]?=some t:=⟨_,bC8 Aa⟩
 have hw1:=hw t1 (bDc ht1);have hx0:(dC ks).getD 0 ([],0)=(aK t0,dB t0.op):=by rw[bC7,gW ht0];rfl
 have hx1:(dC ks).getD 1 ([],0)=(aK t1,dB t1.op):=by rw[bC7,gW ht1];rfl
 have hks:ks=[t0,t1]:=aI7 hkn ht0 ht1;have ht:aK (.mk 5 arg neg l m name ks)=bM (aK t0,dB t0.op) 1++jU 5++bM (aK t1,dB t1.op) 2:=by rw[aK,<-hx0,<-hx1];rfl
 rw[ht] at hl ⊢;have hs3:(jU 5).length=3:=rfl;simp only[bC6] at hl;refine f1C ok D.q66 rfl ?_;conv=>whnf
 repeat' ((first|(apply aQ.go)|((first|apply oI.z|apply cI.z))|intro (_:Nat)|refine LdN.o 0 rfl rfl ?_|refine Ld.o 0 rfl rfl ?_|(apply aD<;>intro _<;>try (exfalso;omega)))<;>conv=>whnf)
 refine CN.all (A:=[_]) rfl (aVw hks hw0 hw1 _ _ _ _ _ _ _ bb x _ _ _ tb pw hk hB Aa) (fun v h1 Lp hl1 hr=>?_)
 obtain⟨hB2,rfl⟩:=hr;conv=>whnf
 repeat' first|(((first|apply oI.z|apply cI.z))<;>(conv=>whnf))
 exact RN.drop0 (RN.done ⟨hB2,rfl⟩)
theorem aV3{arg:Int}{neg:Bool}{l m name:List Nat}{ks:List Tr}(hn:fQ 6 arg neg l m name ks.length)(hw:∀t∈ks,eI t):eI (.mk 6 arg neg l m name ks):=by
 intro h vs bb x L tb pw w hB hl;obtain⟨a,b,s,rfl,ho,ha,hv,hb,hk⟩:=w.isK;have hkl:=hk.len;have hkn:ks.length=2:=by have:=hn.1;rw[show aR 6=2 from rfl] at this;omega
 obtain⟨t0,ht0⟩:∃t,ks[0]?=some t:=⟨_,bC8 Aa⟩
 have hw0:=hw t0 (bDc ht0);obtain⟨t1,ht1⟩:∃t,ks[1]?=some t:=⟨_,bC8 Aa⟩
 have hw1:=hw t1 (bDc ht1);have hx0:(dC ks).getD 0 ([],0)=(aK t0,dB t0.op):=by rw[bC7,gW ht0];rfl
 have hx1:(dC ks).getD 1 ([],0)=(aK t1,dB t1.op):=by rw[bC7,gW ht1];rfl
 have hks:ks=[t0,t1]:=aI7 hkn ht0 ht1;have ht:aK (.mk 6 arg neg l m name ks)=bM (aK t0,dB t0.op) 1++jU 6++bM (aK t1,dB t1.op) 2:=by rw[aK,<-hx0,<-hx1];rfl
 rw[ht] at hl ⊢;have hs3:(jU 6).length=3:=rfl;simp only[bC6] at hl;refine f1C ok D.q66 rfl ?_;conv=>whnf
 repeat' ((first|(apply aQ.go)|((first|apply oI.z|apply cI.z))|intro (_:Nat)|refine LdN.o 0 rfl rfl ?_|refine Ld.o 0 rfl rfl ?_|(apply aD<;>intro _<;>try (exfalso;omega)))<;>conv=>whnf)
 refine CN.all (A:=[_]) rfl (aVx hks hw0 hw1 _ _ _ _ _ _ _ bb x _ _ _ tb pw hk hB Aa) (fun v h1 Lp hl1 hr=>?_)
 obtain⟨hB2,rfl⟩:=hr;conv=>whnf
 repeat' first|(((first|apply oI.z|apply cI.z))<;>(conv=>whnf))
 exact RN.drop0 (RN.done ⟨hB2,rfl⟩)
theorem aV4{arg:Int}{neg:Bool}{l m name:List Nat}{ks:List Tr}(hn:fQ 7 arg neg l m name ks.length)(hw:∀t∈ks,eI t):eI (.mk 7 arg neg l m name ks):=by
 intro h vs bb x L tb pw w hB hl;obtain⟨a,b,s,rfl,ho,ha,hv,hb,hk⟩:=w.isK;have hkl:=hk.len;have hkn:ks.length=2:=by have:=hn.1;rw[show aR 7=2 from rfl] at this;omega
 obtain⟨t0,ht0⟩:∃t,ks[0]?=some t:=⟨_,bC8 Aa⟩
 have hw0:=hw t0 (bDc ht0);obtain⟨t1,ht1⟩:∃t,ks[1]?=some t:=⟨_,bC8 Aa⟩
 have hw1:=hw t1 (bDc ht1);have hx0:(dC ks).getD 0 ([],0)=(aK t0,dB t0.op):=by rw[bC7,gW ht0];rfl
 have hx1:(dC ks).getD 1 ([],0)=(aK t1,dB t1.op):=by rw[bC7,gW ht1];rfl
 have hks:ks=[t0,t1]:=aI7 hkn ht0 ht1;have ht:aK (.mk 7 arg neg l m name ks)=bM (aK t0,dB t0.op) 2++jU 7++bM (aK t1,dB t1.op) 3:=by rw[aK,<-hx0,<-hx1];rfl
 rw[ht] at hl ⊢;have hs3:(jU 7).length=3:=rfl;simp only[bC6] at hl;refine f1C ok D.q66 rfl ?_;conv=>whnf
 repeat' ((first|(apply aQ.go)|((first|apply oI.z|apply cI.z))|intro (_:Nat)|refine LdN.o 0 rfl rfl ?_|refine Ld.o 0 rfl rfl ?_|(apply aD<;>intro _<;>try (exfalso;omega)))<;>conv=>whnf)
 refine CN.all (A:=[_]) rfl (aVy hks hw0 hw1 _ _ _ _ _ _ _ bb x _ _ _ tb pw hk hB Aa) (fun v h1 Lp hl1 hr=>?_)
 obtain⟨hB2,rfl⟩:=hr;conv=>whnf
 repeat' first|(((first|apply oI.z|apply cI.z))<;>(conv=>whnf))
 exact RN.drop0 (RN.done ⟨hB2,rfl⟩)
theorem aV5{arg:Int}{neg:Bool}{l m name:List Nat}{ks:List Tr}(hn:fQ 9 arg neg l m name ks.length)(hw:∀t∈ks,eI t):eI (.mk 9 arg neg l m name ks):=by
 intro h vs bb x L tb pw w hB hl;obtain⟨a,b,s,rfl,ho,ha,hv,hb,hk⟩:=w.isK;have hkl:=hk.len;have hkn:ks.length=1:=by have:=hn.1;rw[show aR 9=1 from rfl] at this;omega
 obtain⟨t0,ht0⟩:∃t,ks[0]?=some t:=⟨_,bC8 Aa⟩
 have hw0:=hw t0 (bDc ht0);have hx0:(dC ks).getD 0 ([],0)=(aK t0,dB t0.op):=by rw[bC7,gW ht0];rfl
 have ht:aK (.mk 9 arg neg l m name ks)=bM (aK t0,dB t0.op) 5++([94]++itT arg):=by rw[aK,<-hx0];rfl
 rw[ht] at hl ⊢;have hil:=aK7 (n:=arg) (by have:=hn.2.1;rw[show jP 9=-32 from rfl] at this;omega) (by have:=hn.2.2.1;rw[show eO 9=32 from rfl] at this;omega);simp only[bC6,bDa,bDd] at hl;have c1:=fun h pw=>aVu h pw arg Aa Aa
 refine f1C ok D.q66 rfl ?_;conv=>whnf
 repeat' ((first|(apply aQ.go)|(show Idx _ _ _ _ _;refine Idx.kid hk 0 t0 Aa ht0 (fun ad op2 arg2 neg2 a2 b2 name2 s2 hE hld=>?_))|refine hld _ _ _ (aA.lr _) ?_|((first|apply oI.z|apply cI.z))|intro (_:Nat)|refine Ld.o 0 rfl rfl ?_|(apply aD<;>intro _<;>try (exfalso;omega)))<;>conv=>whnf)
 refine CN.all (A:=[_]) rfl (kY hw0 _ _ _ _ _ _ _ _ bb x _ _ tb pw Ab hB Aa) (fun v h1 Lp hl1 hr=>?_)
 obtain⟨hB1,rfl⟩:=hr;have pw1:=pw.mono hl1;conv=>whnf
 repeat' ((first|(show CN _ _ _ _ _ _;refine CN.quiet rfl (c1 _ pw1) ?_)|(show Cat _ _ _;(refine Cat.txt (a:=[94]) (b:=itT arg) rfl rfl (by simp only[bDa,bDd];omega) ?_))|((first|apply oI.z|apply cI.z))|refine Ld.o 0 rfl rfl ?_)<;>conv=>whnf)
 refine CN.all (A:=[_]) rfl (WSc _ bb _ ([94]++itT arg) _ hB1 (fun y hy=>by
   rcases bDf.1 hy with hy|hy
   .simp only[bDp,bFy,or_false] at hy;omega
   .exact aGd _ y hy) Ao Au) (fun v h2 Lp hl2 hr=>?_)
 obtain⟨rfl,hB2,n1,e1,rfl⟩:=hr;conv=>whnf
 repeat' first|(((first|apply oI.z|apply cI.z))<;>(conv=>whnf))
 refine RN.drop0 (RN.done ⟨?_,rfl⟩);rw[bDb] at hB2;exact hB2
theorem aQ9:∀(t:Tr) (d:Nat),okT d t->aZ t->eI t:=by
 refine bN fun t ih=>?_
 intro d hok hp;obtain⟨op,arg,neg,l,m,name,ks⟩:=t;rw[okT] at hok;rw[aZ] at hp;obtain⟨-,hn,hks⟩:=hok;obtain⟨hpo,hpk⟩:=hp;have hw:∀t∈ks,eI t:=fun t ht=>by
  obtain⟨j,hj⟩:=List.mem_iff_getElem?.1 ht;exact ih t (aP hj) (d+1) (fC hks ht) (iE hpk ht)
 have:op=1\/op=2\/op=4\/op=5\/op=6\/op=7\/op=9:=Aa;rcases this with rfl|rfl|rfl|rfl|rfl|rfl|rfl
 .exact aVz hn hw
 .exact aV0 hn hw
 .exact aV1 hn hw
 .exact aV2 hn hw
 .exact aV3 hn hw
 .exact aV4 hn hw
 .exact aV5 hn hw
end Go.Proofs.Y