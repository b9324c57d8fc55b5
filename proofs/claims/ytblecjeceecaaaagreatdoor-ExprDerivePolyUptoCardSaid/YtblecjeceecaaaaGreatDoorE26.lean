/- The text of a tree, written to a builder: each kind of node; Print. -/
import Derived.Test.YtblecjeceecaaaaGreatDoorE25
set_option linter.all false
set_option maxHeartbeats 2000000
set_option maxRecDepth 20000
namespace Go.Proofs.Y
open Go Go.Vc Go.Dig
attribute [local irreducible] Vc.Fn
theorem aZ6{arg:Int}{neg:Bool}{l m name:List Nat}{ks:List Tr}(hn:fC 1 arg neg l m name ks.length)(hw:∀t∈ks,cB t):cB (.mk 1 arg neg l m name ks):=by
 intro h vs bb x L tb pw w hB hl;obtain⟨a,b,s,rfl,ho,ha,hv,hb,hk⟩:=w.isK;have hkl:=hk.len;have hok:=hn.2.2.2.2;rw[if_pos rfl] at hok;have c1:=fun h tb hv=>aL8 h tb neg a b l m hv
 have e1:wS neg l m=(jB (aK neg l m),0):=if_pos hok.1;rw[e1] at c1;have ht:aE (.mk 1 arg neg l m name ks)=jB (aK neg l m):=by rw[aE];rfl
 rw[ht] at hl ⊢;refine f1C ok D.q126 rfl ?_;conv=>whnf
 repeat' ((first|(show LdN _ _ _ _ _;refine LdN.oA 0 rfl rfl ?_)|(show CN _ _ _ _ _ _;(refine CN.f rfl (c1 _ Ab Ab) (fun v h' hl2 hr=>?_);subst hr))|((first|apply oI.z|apply cI.z))|intro (_:Nat)|refine Ld.o 0 rfl rfl ?_|(apply aD<;>intro _<;>try (exfalso;omega)))<;>conv=>whnf)
 refine CN.all (A:=[_]) rfl (WSc _ bb x (jB (aK neg l m)) _ hB (aEe _) (aOk _) Aa) (fun v h2 Lp hl1 hr=>?_)
 obtain⟨rfl,hB1,n1,e1,rfl⟩:=hr;conv=>whnf
 repeat' first|(((first|apply oI.z|apply cI.z))<;>(conv=>whnf))
 exact RN.drop0 (RN.done ⟨hB1,rfl⟩)
theorem aZ7{arg:Int}{neg:Bool}{l m name:List Nat}{ks:List Tr}(hn:fC 2 arg neg l m name ks.length)(hw:∀t∈ks,cB t):cB (.mk 2 arg neg l m name ks):=by
 intro h vs bb x L tb pw w hB hl;obtain⟨a,b,s,rfl,ho,ha,hv,hb,hk⟩:=w.isK;have hkl:=hk.len;have hnm:=hn.2.2.2.1;rw[if_pos rfl] at hnm;have ht:aE (.mk 2 arg neg l m name ks)=name:=by rw[aE];rfl
 rw[ht] at hl ⊢;refine f1C ok D.q126 rfl ?_;conv=>whnf
 repeat' ((first|((first|apply oI.z|apply cI.z))|intro (_:Nat)|refine Ld.o 0 rfl rfl ?_|(apply aD<;>intro _<;>try (exfalso;omega)))<;>conv=>whnf)
 refine CN.all (A:=[_]) rfl (WSc _ bb x name _ hB hb hnm.2.2.1 Aa) (fun v h2 Lp hl1 hr=>?_)
 obtain⟨rfl,hB1,n1,e1,rfl⟩:=hr;conv=>whnf
 repeat' first|(((first|apply oI.z|apply cI.z))<;>(conv=>whnf))
 exact RN.drop0 (RN.done ⟨hB1,rfl⟩)
theorem aZ8{arg:Int}{neg:Bool}{l m name:List Nat}{ks:List Tr}(hn:fC 3 arg neg l m name ks.length)(hw:∀t∈ks,cB t):cB (.mk 3 arg neg l m name ks):=by
 intro h vs bb x L tb pw w hB hl;obtain⟨a,b,s,rfl,ho,ha,hv,hb,hk⟩:=w.isK;have hkl:=hk.len;have ht:aE (.mk 3 arg neg l m name ks)=[112,105]:=by rw[aE];rfl
 rw[ht] at hl ⊢;refine f1C ok D.q126 rfl ?_;conv=>whnf
 repeat' ((first|((first|apply oI.z|apply cI.z))|intro (_:Nat)|refine Ld.o 0 rfl rfl ?_|(apply aD<;>intro _<;>try (exfalso;omega)))<;>conv=>whnf)
 refine CN.all (A:=[_]) rfl (WSc _ bb x [112,105] _ hB Ae Ae (by simp only[bIs,bIv] at hl ⊢;omega)) (fun v h2 Lp hl1 hr=>?_)
 obtain⟨rfl,hB1,n1,e1,rfl⟩:=hr;conv=>whnf
 repeat' first|(((first|apply oI.z|apply cI.z))<;>(conv=>whnf))
 exact RN.drop0 (RN.done ⟨hB1,rfl⟩)
theorem aZ9{arg:Int}{neg:Bool}{l m name:List Nat}{ks:List Tr}(hn:fC 4 arg neg l m name ks.length)(hw:∀t∈ks,cB t):cB (.mk 4 arg neg l m name ks):=by
 intro h vs bb x L tb pw w hB hl;obtain⟨a,b,s,rfl,ho,ha,hv,hb,hk⟩:=w.isK;have hkl:=hk.len;have hkn:ks.length=1:=by have:=hn.1;rw[show bM 4=1 from rfl] at this;omega
 obtain⟨t0,ht0⟩:∃t,ks[0]?=some t:=⟨_,bIq Aa⟩
 have hw0:=hw t0 (bIu ht0);have hx0:(aL ks).getD 0 ([],0)=(aE t0,aT t0.op):=by rw[bIp,fH ht0];rfl
 have ht:aE (.mk 4 arg neg l m name ks)=[45]++aN (aE t0,aT t0.op) 3:=by rw[aE,<-hx0];rfl
 rw[ht] at hl ⊢;simp only[bIo,bIs,bIv] at hl;refine f1C ok D.q126 rfl ?_;conv=>whnf
 repeat' ((first|((first|apply oI.z|apply cI.z))|intro (_:Nat)|refine Ld.o 0 rfl rfl ?_|(apply aD<;>intro _<;>try (exfalso;omega)))<;>conv=>whnf)
 refine CN.all (A:=[_]) rfl (WSc _ bb x [45] _ hB Ae Ae AG) (fun v h2 Lp hl1 hr=>?_)
 obtain⟨rfl,hB1,n1,e1,rfl⟩:=hr;conv=>whnf
 repeat' ((first|(show Idx _ _ _ _ _;refine Idx.kid hk 0 t0 Aa ht0 (fun ad op2 arg2 neg2 a2 b2 name2 s2 hE hld=>?_))|refine hld _ _ _ (aA.lr _) ?_|((first|apply oI.z|apply cI.z))|refine Ld.o 0 rfl rfl ?_)<;>conv=>whnf)
 refine CN.all (A:=[_]) rfl (jQ hw0 _ _ _ _ _ _ _ _ bb _ _ _ tb pw Ab hB1 Aw) (fun v h1 Lp hl1 hr=>?_)
 obtain⟨hB2,rfl⟩:=hr;conv=>whnf
 repeat' first|(((first|apply oI.z|apply cI.z))<;>(conv=>whnf))
 refine RN.drop0 (RN.done ⟨?_,rfl⟩);rw[bIt] at hB2;exact hB2
theorem bAa{arg:Int}{neg:Bool}{l m name:List Nat}{ks:List Tr}(hn:fC 5 arg neg l m name ks.length)(hw:∀t∈ks,cB t):cB (.mk 5 arg neg l m name ks):=by
 intro h vs bb x L tb pw w hB hl;obtain⟨a,b,s,rfl,ho,ha,hv,hb,hk⟩:=w.isK;have hkl:=hk.len;have hkn:ks.length=2:=by have:=hn.1;rw[show bM 5=2 from rfl] at this;omega
 obtain⟨t0,ht0⟩:∃t,ks[0]?=some t:=⟨_,bIq Aa⟩
 have hw0:=hw t0 (bIu ht0);obtain⟨t1,ht1⟩:∃t,ks[1]?=some t:=⟨_,bIq Aa⟩
 have hw1:=hw t1 (bIu ht1);have hx0:(aL ks).getD 0 ([],0)=(aE t0,aT t0.op):=by rw[bIp,fH ht0];rfl
 have hx1:(aL ks).getD 1 ([],0)=(aE t1,aT t1.op):=by rw[bIp,fH ht1];rfl
 have hks:ks=[t0,t1]:=aGo hkn ht0 ht1;have ht:aE (.mk 5 arg neg l m name ks)=aN (aE t0,aT t0.op) 1++kJ 5++aN (aE t1,aT t1.op) 2:=by rw[aE,<-hx0,<-hx1];rfl
 rw[ht] at hl ⊢;have hs3:(kJ 5).length=3:=rfl;simp only[bIo] at hl;refine f1C ok D.q126 rfl ?_;conv=>whnf
 repeat' ((first|(apply bJ.go)|((first|apply oI.z|apply cI.z))|intro (_:Nat)|refine LdN.o 0 rfl rfl ?_|refine Ld.o 0 rfl rfl ?_|(apply aD<;>intro _<;>try (exfalso;omega)))<;>conv=>whnf)
 refine CN.all (A:=[_]) rfl (aZ2 hks hw0 hw1 _ _ _ _ _ _ _ bb x _ _ _ tb pw hk hB Aa) (fun v h1 Lp hl1 hr=>?_)
 obtain⟨hB2,rfl⟩:=hr;conv=>whnf
 repeat' first|(((first|apply oI.z|apply cI.z))<;>(conv=>whnf))
 exact RN.drop0 (RN.done ⟨hB2,rfl⟩)
theorem bAb{arg:Int}{neg:Bool}{l m name:List Nat}{ks:List Tr}(hn:fC 6 arg neg l m name ks.length)(hw:∀t∈ks,cB t):cB (.mk 6 arg neg l m name ks):=by
 intro h vs bb x L tb pw w hB hl;obtain⟨a,b,s,rfl,ho,ha,hv,hb,hk⟩:=w.isK;have hkl:=hk.len;have hkn:ks.length=2:=by have:=hn.1;rw[show bM 6=2 from rfl] at this;omega
 obtain⟨t0,ht0⟩:∃t,ks[0]?=some t:=⟨_,bIq Aa⟩
 have hw0:=hw t0 (bIu ht0);obtain⟨t1,ht1⟩:∃t,ks[1]?=some t:=⟨_,bIq Aa⟩
 have hw1:=hw t1 (bIu ht1);have hx0:(aL ks).getD 0 ([],0)=(aE t0,aT t0.op):=by rw[bIp,fH ht0];rfl
 have hx1:(aL ks).getD 1 ([],0)=(aE t1,aT t1.op):=by rw[bIp,fH ht1];rfl
 have hks:ks=[t0,t1]:=aGo hkn ht0 ht1;have ht:aE (.mk 6 arg neg l m name ks)=aN (aE t0,aT t0.op) 1++kJ 6++aN (aE t1,aT t1.op) 2:=by rw[aE,<-hx0,<-hx1];rfl
 rw[ht] at hl ⊢;have hs3:(kJ 6).length=3:=rfl;simp only[bIo] at hl;refine f1C ok D.q126 rfl ?_;conv=>whnf
 repeat' ((first|(apply bJ.go)|((first|apply oI.z|apply cI.z))|intro (_:Nat)|refine LdN.o 0 rfl rfl ?_|refine Ld.o 0 rfl rfl ?_|(apply aD<;>intro _<;>try (exfalso;omega)))<;>conv=>whnf)
 refine CN.all (A:=[_]) rfl (aZ3 hks hw0 hw1 _ _ _ _ _ _ _ bb x _ _ _ tb pw hk hB Aa) (fun v h1 Lp hl1 hr=>?_)
 obtain⟨hB2,rfl⟩:=hr;conv=>whnf
 repeat' first|(((first|apply oI.z|apply cI.z))<;>(conv=>whnf))
 exact RN.drop0 (RN.done ⟨hB2,rfl⟩)
theorem bAc{arg:Int}{neg:Bool}{l m name:List Nat}{ks:List Tr}(hn:fC 7 arg neg l m name ks.length)(hw:∀t∈ks,cB t):cB (.mk 7 arg neg l m name ks):=by
 intro h vs bb x L tb pw w hB hl;obtain⟨a,b,s,rfl,ho,ha,hv,hb,hk⟩:=w.isK;have hkl:=hk.len;have hkn:ks.length=2:=by have:=hn.1;rw[show bM 7=2 from rfl] at this;omega
 obtain⟨t0,ht0⟩:∃t,ks[0]?=some t:=⟨_,bIq Aa⟩
 have hw0:=hw t0 (bIu ht0);obtain⟨t1,ht1⟩:∃t,ks[1]?=some t:=⟨_,bIq Aa⟩
 have hw1:=hw t1 (bIu ht1);have hx0:(aL ks).getD 0 ([],0)=(aE t0,aT t0.op):=by rw[bIp,fH ht0];rfl
 have hx1:(aL ks).getD 1 ([],0)=(aE t1,aT t1.op):=by rw[bIp,fH ht1];rfl
 have hks:ks=[t0,t1]:=aGo hkn ht0 ht1;have ht:aE (.mk 7 arg neg l m name ks)=aN (aE t0,aT t0.op) 2++kJ 7++aN (aE t1,aT t1.op) 3:=by rw[aE,<-hx0,<-hx1];rfl
 rw[ht] at hl ⊢;have hs3:(kJ 7).length=3:=rfl;simp only[bIo] at hl;refine f1C ok D.q126 rfl ?_;conv=>whnf
 repeat' ((first|(apply bJ.go)|((first|apply oI.z|apply cI.z))|intro (_:Nat)|refine LdN.o 0 rfl rfl ?_|refine Ld.o 0 rfl rfl ?_|(apply aD<;>intro _<;>try (exfalso;omega)))<;>conv=>whnf)
 refine CN.all (A:=[_]) rfl (aZ4 hks hw0 hw1 _ _ _ _ _ _ _ bb x _ _ _ tb pw hk hB Aa) (fun v h1 Lp hl1 hr=>?_)
 obtain⟨hB2,rfl⟩:=hr;conv=>whnf
 repeat' first|(((first|apply oI.z|apply cI.z))<;>(conv=>whnf))
 exact RN.drop0 (RN.done ⟨hB2,rfl⟩)
theorem bAd{arg:Int}{neg:Bool}{l m name:List Nat}{ks:List Tr}(hn:fC 8 arg neg l m name ks.length)(hw:∀t∈ks,cB t):cB (.mk 8 arg neg l m name ks):=by
 intro h vs bb x L tb pw w hB hl;obtain⟨a,b,s,rfl,ho,ha,hv,hb,hk⟩:=w.isK;have hkl:=hk.len;have hkn:ks.length=2:=by have:=hn.1;rw[show bM 8=2 from rfl] at this;omega
 obtain⟨t0,ht0⟩:∃t,ks[0]?=some t:=⟨_,bIq Aa⟩
 have hw0:=hw t0 (bIu ht0);obtain⟨t1,ht1⟩:∃t,ks[1]?=some t:=⟨_,bIq Aa⟩
 have hw1:=hw t1 (bIu ht1);have hx0:(aL ks).getD 0 ([],0)=(aE t0,aT t0.op):=by rw[bIp,fH ht0];rfl
 have hx1:(aL ks).getD 1 ([],0)=(aE t1,aT t1.op):=by rw[bIp,fH ht1];rfl
 have hks:ks=[t0,t1]:=aGo hkn ht0 ht1;have ht:aE (.mk 8 arg neg l m name ks)=aN (aE t0,aT t0.op) 2++kJ 8++aN (aE t1,aT t1.op) 3:=by rw[aE,<-hx0,<-hx1];rfl
 rw[ht] at hl ⊢;have hs3:(kJ 8).length=3:=rfl;simp only[bIo] at hl;refine f1C ok D.q126 rfl ?_;conv=>whnf
 repeat' ((first|(apply bJ.go)|((first|apply oI.z|apply cI.z))|intro (_:Nat)|refine LdN.o 0 rfl rfl ?_|refine Ld.o 0 rfl rfl ?_|(apply aD<;>intro _<;>try (exfalso;omega)))<;>conv=>whnf)
 refine CN.all (A:=[_]) rfl (aZ5 hks hw0 hw1 _ _ _ _ _ _ _ bb x _ _ _ tb pw hk hB Aa) (fun v h1 Lp hl1 hr=>?_)
 obtain⟨hB2,rfl⟩:=hr;conv=>whnf
 repeat' first|(((first|apply oI.z|apply cI.z))<;>(conv=>whnf))
 exact RN.drop0 (RN.done ⟨hB2,rfl⟩)
theorem bAe{arg:Int}{neg:Bool}{l m name:List Nat}{ks:List Tr}(hn:fC 9 arg neg l m name ks.length)(hw:∀t∈ks,cB t):cB (.mk 9 arg neg l m name ks):=by
 intro h vs bb x L tb pw w hB hl;obtain⟨a,b,s,rfl,ho,ha,hv,hb,hk⟩:=w.isK;have hkl:=hk.len;have hkn:ks.length=1:=by have:=hn.1;rw[show bM 9=1 from rfl] at this;omega
 obtain⟨t0,ht0⟩:∃t,ks[0]?=some t:=⟨_,bIq Aa⟩
 have hw0:=hw t0 (bIu ht0);have hx0:(aL ks).getD 0 ([],0)=(aE t0,aT t0.op):=by rw[bIp,fH ht0];rfl
 have ht:aE (.mk 9 arg neg l m name ks)=aN (aE t0,aT t0.op) 5++([94]++itT arg):=by rw[aE,<-hx0];rfl
 rw[ht] at hl ⊢;have hil:=tZ (n:=arg) (by have:=hn.2.1;rw[show jC 9=-32 from rfl] at this;omega) (by have:=hn.2.2.1;rw[show eZ 9=32 from rfl] at this;omega);simp only[bIo,bIs,bIv] at hl;have c1:=fun h pw=>aOj h pw arg Aa Aa
 refine f1C ok D.q126 rfl ?_;conv=>whnf
 repeat' ((first|(apply bJ.go)|(show Idx _ _ _ _ _;refine Idx.kid hk 0 t0 Aa ht0 (fun ad op2 arg2 neg2 a2 b2 name2 s2 hE hld=>?_))|refine hld _ _ _ (aA.lr _) ?_|((first|apply oI.z|apply cI.z))|intro (_:Nat)|refine Ld.o 0 rfl rfl ?_|(apply aD<;>intro _<;>try (exfalso;omega)))<;>conv=>whnf)
 refine CN.all (A:=[_]) rfl (jQ hw0 _ _ _ _ _ _ _ _ bb x _ _ tb pw Ab hB Aa) (fun v h1 Lp hl1 hr=>?_)
 obtain⟨hB1,rfl⟩:=hr;have pw1:=pw.mono hl1;conv=>whnf
 repeat' ((first|(show CN _ _ _ _ _ _;refine CN.quiet rfl (c1 _ pw1) ?_)|(show Cat _ _ _;(refine Cat.txt (a:=[94]) (b:=itT arg) rfl rfl AG ?_))|((first|apply oI.z|apply cI.z))|refine Ld.o 0 rfl rfl ?_)<;>conv=>whnf)
 refine CN.all (A:=[_]) rfl (WSc _ bb _ ([94]++itT arg) _ hB1 (fun y hy=>by
   rcases bIx.1 hy with hy|hy
   .simp only[bI7,bKt,or_false] at hy;omega
   .exact aBv _ y hy) Aq Aw) (fun v h2 Lp hl2 hr=>?_)
 obtain⟨rfl,hB2,n1,e1,rfl⟩:=hr;conv=>whnf
 repeat' first|(((first|apply oI.z|apply cI.z))<;>(conv=>whnf))
 refine RN.drop0 (RN.done ⟨?_,rfl⟩);rw[bIt] at hB2;exact hB2
theorem aUi{arg:Int}{neg:Bool}{l m name:List Nat}{ks:List Tr}(hn:fC 10 arg neg l m name ks.length)(hw:∀t∈ks,cB t):cB (.mk 10 arg neg l m name ks):=by
 intro h vs bb x L tb pw w hB hl;obtain⟨a,b,s,rfl,ho,ha,hv,hb,hk⟩:=w.isK;have hkl:=hk.len;have hks:ks.length<=3:=by have h1:=hn.1;have h2:=fS 10;omega
 have ht:aE (.mk 10 arg neg l m name ks)=dR 10 arg++bR true (aL ks)++[41]:=by rw[aE];rfl
 rw[ht] at hl ⊢;have hlo:=hn.2.1;have hhi:=hn.2.2.1;have hlh:=rG 10;have hjg:=mG true (aL ks);simp only[bIo,bIs,bIv] at hl;refine f1C ok D.q126 rfl ?_;conv=>whnf
 repeat' ((first|(apply bJ.go)|((first|apply oI.z|apply cI.z))|intro (_:Nat)|refine LdN.o 0 rfl rfl ?_|refine Ld.o 0 rfl rfl ?_|(apply aD<;>intro _<;>try (exfalso;omega)))<;>conv=>whnf)
 refine CN.all (A:=[_]) rfl (pW hw hks _ 10 arg Ae Aa (by intro e;exact absurd e Ae) _ _ _ _ _ bb x _ tb pw hk hB Aa) (fun v h1 Lp hl1 hr=>?_)
 obtain⟨hB2,rfl⟩:=hr;conv=>whnf
 repeat' first|(((first|apply oI.z|apply cI.z))<;>(conv=>whnf))
 exact RN.drop0 (RN.done ⟨hB2,rfl⟩)
theorem aUj{arg:Int}{neg:Bool}{l m name:List Nat}{ks:List Tr}(hn:fC 11 arg neg l m name ks.length)(hw:∀t∈ks,cB t):cB (.mk 11 arg neg l m name ks):=by
 intro h vs bb x L tb pw w hB hl;obtain⟨a,b,s,rfl,ho,ha,hv,hb,hk⟩:=w.isK;have hkl:=hk.len;have hks:ks.length<=3:=by have h1:=hn.1;have h2:=fS 11;omega
 have ht:aE (.mk 11 arg neg l m name ks)=dR 11 arg++bR true (aL ks)++[41]:=by rw[aE];rfl
 rw[ht] at hl ⊢;have hlo:=hn.2.1;have hhi:=hn.2.2.1;have hlh:=rG 11;have hjg:=mG true (aL ks);simp only[bIo,bIs,bIv] at hl;refine f1C ok D.q126 rfl ?_;conv=>whnf
 repeat' ((first|(apply bJ.go)|((first|apply oI.z|apply cI.z))|intro (_:Nat)|refine LdN.o 0 rfl rfl ?_|refine Ld.o 0 rfl rfl ?_|(apply aD<;>intro _<;>try (exfalso;omega)))<;>conv=>whnf)
 refine CN.all (A:=[_]) rfl (pW hw hks _ 11 arg Ae Aa (by intro _;rw[show jC 11=1 from rfl] at hlo;rw[show eZ 11=8 from rfl] at hhi;omega) _ _ _ _ _ bb x _ tb pw hk hB Aa) (fun v h1 Lp hl1 hr=>?_)
 obtain⟨hB2,rfl⟩:=hr;conv=>whnf
 repeat' first|(((first|apply oI.z|apply cI.z))<;>(conv=>whnf))
 exact RN.drop0 (RN.done ⟨hB2,rfl⟩)
theorem aUk{arg:Int}{neg:Bool}{l m name:List Nat}{ks:List Tr}(hn:fC 12 arg neg l m name ks.length)(hw:∀t∈ks,cB t):cB (.mk 12 arg neg l m name ks):=by
 intro h vs bb x L tb pw w hB hl;obtain⟨a,b,s,rfl,ho,ha,hv,hb,hk⟩:=w.isK;have hkl:=hk.len;have hks:ks.length<=3:=by have h1:=hn.1;have h2:=fS 12;omega
 have ht:aE (.mk 12 arg neg l m name ks)=dR 12 arg++bR true (aL ks)++[41]:=by rw[aE];rfl
 rw[ht] at hl ⊢;have hlo:=hn.2.1;have hhi:=hn.2.2.1;have hlh:=rG 12;have hjg:=mG true (aL ks);simp only[bIo,bIs,bIv] at hl;refine f1C ok D.q126 rfl ?_;conv=>whnf
 repeat' ((first|(apply bJ.go)|((first|apply oI.z|apply cI.z))|intro (_:Nat)|refine LdN.o 0 rfl rfl ?_|refine Ld.o 0 rfl rfl ?_|(apply aD<;>intro _<;>try (exfalso;omega)))<;>conv=>whnf)
 refine CN.all (A:=[_]) rfl (pW hw hks _ 12 arg Ae Aa (by intro e;exact absurd e Ae) _ _ _ _ _ bb x _ tb pw hk hB Aa) (fun v h1 Lp hl1 hr=>?_)
 obtain⟨hB2,rfl⟩:=hr;conv=>whnf
 repeat' first|(((first|apply oI.z|apply cI.z))<;>(conv=>whnf))
 exact RN.drop0 (RN.done ⟨hB2,rfl⟩)
theorem aUl{arg:Int}{neg:Bool}{l m name:List Nat}{ks:List Tr}(hn:fC 13 arg neg l m name ks.length)(hw:∀t∈ks,cB t):cB (.mk 13 arg neg l m name ks):=by
 intro h vs bb x L tb pw w hB hl;obtain⟨a,b,s,rfl,ho,ha,hv,hb,hk⟩:=w.isK;have hkl:=hk.len;have hks:ks.length<=3:=by have h1:=hn.1;have h2:=fS 13;omega
 have ht:aE (.mk 13 arg neg l m name ks)=dR 13 arg++bR true (aL ks)++[41]:=by rw[aE];rfl
 rw[ht] at hl ⊢;have hlo:=hn.2.1;have hhi:=hn.2.2.1;have hlh:=rG 13;have hjg:=mG true (aL ks);simp only[bIo,bIs,bIv] at hl;refine f1C ok D.q126 rfl ?_;conv=>whnf
 repeat' ((first|(apply bJ.go)|((first|apply oI.z|apply cI.z))|intro (_:Nat)|refine LdN.o 0 rfl rfl ?_|refine Ld.o 0 rfl rfl ?_|(apply aD<;>intro _<;>try (exfalso;omega)))<;>conv=>whnf)
 refine CN.all (A:=[_]) rfl (pW hw hks _ 13 arg Ae Aa (by intro e;exact absurd e Ae) _ _ _ _ _ bb x _ tb pw hk hB Aa) (fun v h1 Lp hl1 hr=>?_)
 obtain⟨hB2,rfl⟩:=hr;conv=>whnf
 repeat' first|(((first|apply oI.z|apply cI.z))<;>(conv=>whnf))
 exact RN.drop0 (RN.done ⟨hB2,rfl⟩)
theorem aUm{arg:Int}{neg:Bool}{l m name:List Nat}{ks:List Tr}(hn:fC 14 arg neg l m name ks.length)(hw:∀t∈ks,cB t):cB (.mk 14 arg neg l m name ks):=by
 intro h vs bb x L tb pw w hB hl;obtain⟨a,b,s,rfl,ho,ha,hv,hb,hk⟩:=w.isK;have hkl:=hk.len;have hks:ks.length<=3:=by have h1:=hn.1;have h2:=fS 14;omega
 have ht:aE (.mk 14 arg neg l m name ks)=dR 14 arg++bR true (aL ks)++[41]:=by rw[aE];rfl
 rw[ht] at hl ⊢;have hlo:=hn.2.1;have hhi:=hn.2.2.1;have hlh:=rG 14;have hjg:=mG true (aL ks);simp only[bIo,bIs,bIv] at hl;refine f1C ok D.q126 rfl ?_;conv=>whnf
 repeat' ((first|(apply bJ.go)|((first|apply oI.z|apply cI.z))|intro (_:Nat)|refine LdN.o 0 rfl rfl ?_|refine Ld.o 0 rfl rfl ?_|(apply aD<;>intro _<;>try (exfalso;omega)))<;>conv=>whnf)
 refine CN.all (A:=[_]) rfl (pW hw hks _ 14 arg Ae Aa (by intro e;exact absurd e Ae) _ _ _ _ _ bb x _ tb pw hk hB Aa) (fun v h1 Lp hl1 hr=>?_)
 obtain⟨hB2,rfl⟩:=hr;conv=>whnf
 repeat' first|(((first|apply oI.z|apply cI.z))<;>(conv=>whnf))
 exact RN.drop0 (RN.done ⟨hB2,rfl⟩)
theorem aUn{arg:Int}{neg:Bool}{l m name:List Nat}{ks:List Tr}(hn:fC 15 arg neg l m name ks.length)(hw:∀t∈ks,cB t):cB (.mk 15 arg neg l m name ks):=by
 intro h vs bb x L tb pw w hB hl;obtain⟨a,b,s,rfl,ho,ha,hv,hb,hk⟩:=w.isK;have hkl:=hk.len;have hks:ks.length<=3:=by have h1:=hn.1;have h2:=fS 15;omega
 have ht:aE (.mk 15 arg neg l m name ks)=dR 15 arg++bR true (aL ks)++[41]:=by rw[aE];rfl
 rw[ht] at hl ⊢;have hlo:=hn.2.1;have hhi:=hn.2.2.1;have hlh:=rG 15;have hjg:=mG true (aL ks);simp only[bIo,bIs,bIv] at hl;refine f1C ok D.q126 rfl ?_;conv=>whnf
 repeat' ((first|(apply bJ.go)|((first|apply oI.z|apply cI.z))|intro (_:Nat)|refine LdN.o 0 rfl rfl ?_|refine Ld.o 0 rfl rfl ?_|(apply aD<;>intro _<;>try (exfalso;omega)))<;>conv=>whnf)
 refine CN.all (A:=[_]) rfl (pW hw hks _ 15 arg Ae Aa (by intro e;exact absurd e Ae) _ _ _ _ _ bb x _ tb pw hk hB Aa) (fun v h1 Lp hl1 hr=>?_)
 obtain⟨hB2,rfl⟩:=hr;conv=>whnf
 repeat' first|(((first|apply oI.z|apply cI.z))<;>(conv=>whnf))
 exact RN.drop0 (RN.done ⟨hB2,rfl⟩)
theorem aUo:∀(t:Tr) (d:Nat),okT d t->cB t:=by
 refine eE fun t ih=>?_
 intro d hok;obtain⟨op,arg,neg,l,m,name,ks⟩:=t;rw[okT] at hok;obtain⟨-,hn,hks⟩:=hok;have hw:∀t∈ks,cB t:=fun t ht=>by
  obtain⟨j,hj⟩:=List.mem_iff_getElem?.1 ht;exact ih t (bD hj) (d+1) (eF hks ht)
 have hop:1<=op/\op<=15:=by
  have h1:=hn.1;have h2:bM op≠-1->1<=op/\op<=15:=fun x=>by
   unfold bM at x
   repeat' split at x
   all_goals omega
  exact h2 Aa
 have:op=1\/op=2\/op=3\/op=4\/op=5\/op=6\/op=7\/op=8\/op=9\/op=10\/op=11\/op=12\/op=13\/op=14\/op=15:=Aa;rcases this with rfl|rfl|rfl|rfl|rfl|rfl|rfl|rfl|rfl|rfl|rfl|rfl|rfl|rfl|rfl
 .exact aZ6 hn hw
 .exact aZ7 hn hw
 .exact aZ8 hn hw
 .exact aZ9 hn hw
 .exact bAa hn hw
 .exact bAb hn hw
 .exact bAc hn hw
 .exact bAd hn hw
 .exact bAe hn hw
 .exact aUi hn hw
 .exact aUj hn hw
 .exact aUk hn hw
 .exact aUl hn hw
 .exact aUm hn hw
 .exact aUn hn hw
end Go.Proofs.Y