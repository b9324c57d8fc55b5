/- The parser's functions, by steps: sums and products. -/
import Derived.Test.YtdccpmlhflpeaaaGreatDoorE8
set_option linter.all false
set_option maxHeartbeats 2000000
set_option maxRecDepth 20000
namespace Go.Proofs.Y
open Go Go.Vc Go.Dig
def PQ(ts:List Tk)(bp:Nat)(s:Sl)(e:Nat)(val:aA->Value->Tr->Prop)(r:Pr Tr)(a:Value)(h':aA)(L':Own):Prop:=
 ∃tr i' cs' v' G',r=.ok tr i' cs'/\i'<=ts.length/\cs'.length<=i'/\L'=Pst bp s i' e v'::G'/\aE Ty.syntax_count 4 v' cs'.length (cnc cs') G'/\val h' a tr
def PS{α:Type}(ts:List Tk)(e:Nat)(r:Pr α)(c:List PanicEntry):Prop:=∃j,r=.bad j/\c=flt (iX ts e j)
def PC(f:FuncId)(extra:List Value)(md:Md)(val:aA->Value->Tr->Prop)(n:Nat):Prop:=
 ∀(ts:List Tk) (bp:Nat) (s:Sl) (e:Nat) (h:aA) (i:Nat) (cs:List Cn) (v:Value) (G:Own) (r:Pr Tr),Tb h->dU h s ts->i<=ts.length->cs.length<=i->aE Ty.syntax_count 4 v cs.length (cnc cs) G->pp ts prs n md i cs=some r->
  FnP T f (.pointer (some ⟨bp,0,none⟩)::extra) h (Pst bp s i e v::G) (PQ ts bp s e val r) fun c _ _=>PS ts e r c
attribute [local irreducible] Vc.Fn FnP
theorem PS.bnd{α β:Type}{ts:List Tk}{e:Nat}{r1:Pr α}{r:Pr β}{f:α->Nat->List Cn->Option (Pr β)}{c:List PanicEntry}(hp:Pr.bnd (some r1) f=some r)(hs:PS ts e r1 c):PS ts e r c:=by
 obtain⟨j,rfl,hc⟩:=hs;cases hp;exact⟨j,rfl,hc⟩
theorem mM(h:aA)(op arg:Int)(a:Option Addr)(l c:Nat):Fn0 T F.q76 [.int .i64 op,.int .i64 arg,.slice a l c] h fun v h'=>h'=h/\v=.agg #[.int .i64 op,.int .i64 arg,.bool false,.slice none 0 0,.slice none 0 0,.string (txt []),.slice a l c]:=aVm h op arg ⟨a,l,c⟩
theorem bBj(n:Nat)(ih:∀m,m<n->PC F.q74 [] .term VE m):PC F.q36 [] .sum VE n:=by
 intro ts bp s e h i cs v G r tb w hi hc g hp;cases n with
 | zero=>rw[pp] at hp;cases hp
 | succ n=>
  rw[pp] at hp;cases h1:pp ts prs n .term i cs with
  | none=>rw[h1] at hp;cases hp
  | some r1=>
   rw[h1] at hp;have c1:=fun h tb w=>ih n Aa ts bp s e h i cs v G r1 tb w hi hc g h1
   refine fPC ok _ D.q36 rfl ?_;conv=>whnf
   repeat' ((first|(show CN _ _ _ _ _ _;(refine CN.par (A:=[_]) rfl (FnP.withPan (c1 _ Ab Ab)) (fun v h' Lp hl hr=>?_) (fun c h' Lp hl hs=>PS.bnd hp hs);obtain⟨tr,i1,cs1,v1,G1,rfl,hi1,hc1,rfl,g1,hv1⟩:=hr;obtain⟨op,ar,ng,nn,dd,nm,ss,rfl,hE⟩:=hv1))|((first|apply oI.z|apply cI.z))|intro (_:Nat)|refine Sto.l 0 rfl rfl rfl ?_)<;>conv=>whnf)
   rename_i b2 b3;replace hp:pp ts prs n (.sumL tr) i1 cs1=some r:=hp;refine LpN.of (fun q ρ hx L=>∃(m:Nat) (tr:Tr) (i:Nat) (cs:List Cn) (v:Value) (G:Own) (op ar:Int) (ng:Bool) (nn dd:Sl) (nm:List Nat) (ss:Sl),q=m/\m<=n/\h'.le hx/\
     L=(b3,.cells [.int .i64 op,.int .i64 ar,.bool ng,nn.val,dd.val,.string (txt nm),ss.val].toArray Ty.api_Expr (0,0))::(b2,.cells [.int .i64 0,.int .i64 0,.bool false,.slice none 0 0,.slice none 0 0,.string (txt []),.slice none 0 0].toArray Ty.api_Expr (0,0))::Pst bp s i e v::G/\
     IsE hx [.int .i64 op,.int .i64 ar,.bool ng,nn.val,dd.val,.string (txt nm),ss.val] tr/\i<=ts.length/\cs.length<=i/\aE Ty.syntax_count 4 v cs.length (cnc cs) G/\Hq (pp ts prs m (.sumL tr) i cs=some r)) n
    ⟨n,tr,i1,cs1,v1,G1,op,ar,ng,nn,dd,nm,ss,rfl,bDx _,aA.lr _,rfl,hE,hi1,hc1,g1,⟨hp⟩⟩ ?_
   clear hp h1 c1 hE g1 g;conv=>whnf
   repeat intro _
   rename_i q h3 L3 hI;obtain⟨m,tr,i1,cs1,v1,G1,op,ar,ng,nn,dd,nm,ss,rfl,hm,hl3,rfl,hE,hi1,hc1,g1,⟨hp⟩⟩:=hI;cases q with
   | zero=>rw[pp] at hp;cases hp
   | succ m=>
    rw[pp] at hp;by_cases hA:bO ts [43] i1=true
    .rw[if_pos hA] at hp;have hi2:=lQ hA;have a1:=fun h w=>kW h bp s ts i1 e v1 [43] w Ad hA
     cases h1:pp ts prs m .term (i1+1) cs1 with
     | none=>rw[h1] at hp;cases hp
     | some r1=>
      rw[h1] at hp;have c1:=fun h tb w=>ih m Aa ts bp s e h (i1+1) cs1 v1 G1 r1 tb w Aa Aa g1 h1
      conv=>whnf
      repeat' first|((first|(show DrN _ _ _ _ _ _;refine DrN.each Al ?_)|(show CN _ _ _ _ _ _;first|(refine CN.own 2 rfl rfl (Fn.wP (a1 _ Aj)) (fun v h' La hl hr=>?_);obtain⟨rfl,rfl,rfl⟩:=hr;clear hl;refine⟨_,rfl,?_⟩)|(refine CN.par (A:=[_,_]) rfl (FnP.withPan (c1 _ Ae Aj)) (fun v h' Lp hl hr=>?_) (fun c h' Lp hl hs=>PS.bnd hp hs);obtain⟨tr2,i2,cs2,v2,G2,rfl,hi2,hc2,rfl,g2,hv2⟩:=hr;obtain⟨op2,ar2,ng2,nn2,dd2,nm2,ss2,rfl,hE2⟩:=hv2;have hE1:=hE.mono hl)|(refine CN.keep 0 rfl rfl fun hle=>?_;refine CN.quiet rfl (Fn0.wP (mM _ _ _ _ _ _)) ?_))|((first|apply oI.z|apply cI.z))|refine⟨fun _=>aH.o (aA.lr _),?_⟩|refine⟨fun _=>aH.cons _,?_⟩|refine⟨fun hst=>(by cases (show true=false from hst)),?_⟩|intro (_:Nat)|refine LdN.o 0 rfl rfl ?_|refine Sto.l 0 rfl rfl rfl ?_)<;>conv=>whnf)|(refine sS.mk ?_ ?_<;>(conv=>whnf))
      all_goals exact⟨rfl,m,Aa,m,aF 5 0 [tr,tr2],i2,cs2,v2,G2,5,0,false,⟨none,0,0⟩,⟨none,0,0⟩,[],⟨some ⟨_,0,none⟩,2,2⟩,rfl,Aa,Ac,rfl,IsE.node Ad Ad (IsK.two hE1 hE2 rfl rfl hle),hi2,hc2,g2,⟨hp⟩⟩
    .rw[if_neg hA] at hp;have hA':bO ts [43] i1=false:=by simpa using hA
     have a1:=fun h w=>bS h bp s ts i1 e v1 [43] w hi1 Ad hA'
     by_cases hB:bO ts [45] i1=true
     .rw[if_pos hB] at hp;have hi2:=lQ hB;have a2:=fun h w=>kW h bp s ts i1 e v1 [45] w Ad hB
      cases h1:pp ts prs m .term (i1+1) cs1 with
      | none=>rw[h1] at hp;cases hp
      | some r1=>
       rw[h1] at hp;have c1:=fun h tb w=>ih m Aa ts bp s e h (i1+1) cs1 v1 G1 r1 tb w Aa Aa g1 h1
       conv=>whnf
       repeat' first|((first|(show DrN _ _ _ _ _ _;refine DrN.each Al ?_)|(show CN _ _ _ _ _ _;first|(refine CN.own 2 rfl rfl (Fn.wP (a1 _ Aj)) (fun v h' La hl hr=>?_);obtain⟨rfl,rfl,rfl⟩:=hr;clear hl;refine⟨_,rfl,?_⟩)|(refine CN.own 2 rfl rfl (Fn.wP (a2 _ Aj)) (fun v h' La hl hr=>?_);obtain⟨rfl,rfl,rfl⟩:=hr;clear hl;refine⟨_,rfl,?_⟩)|(refine CN.par (A:=[_,_]) rfl (FnP.withPan (c1 _ Ae Aj)) (fun v h' Lp hl hr=>?_) (fun c h' Lp hl hs=>PS.bnd hp hs);obtain⟨tr2,i2,cs2,v2,G2,rfl,hi2,hc2,rfl,g2,hv2⟩:=hr;obtain⟨op2,ar2,ng2,nn2,dd2,nm2,ss2,rfl,hE2⟩:=hv2;have hE1:=hE.mono hl)|(refine CN.keep 0 rfl rfl fun hle=>?_;refine CN.quiet rfl (Fn0.wP (mM _ _ _ _ _ _)) ?_))|((first|apply oI.z|apply cI.z))|refine⟨fun _=>aH.o (aA.lr _),?_⟩|refine⟨fun _=>aH.cons _,?_⟩|refine⟨fun hst=>(by cases (show true=false from hst)),?_⟩|intro (_:Nat)|refine LdN.o 0 rfl rfl ?_|refine Sto.l 0 rfl rfl rfl ?_)<;>conv=>whnf)|(refine sS.mk ?_ ?_<;>(conv=>whnf))
       all_goals exact⟨rfl,m,Aa,m,aF 6 0 [tr,tr2],i2,cs2,v2,G2,6,0,false,⟨none,0,0⟩,⟨none,0,0⟩,[],⟨some ⟨_,0,none⟩,2,2⟩,rfl,Aa,Ac,rfl,IsE.node Ad Ad (IsK.two hE1 hE2 rfl rfl hle),hi2,hc2,g2,⟨hp⟩⟩
     .rw[if_neg hB] at hp;cases hp;have hB':bO ts [45] i1=false:=by simpa using hB
      have a2:=fun h w=>bS h bp s ts i1 e v1 [45] w hi1 Ad hB'
      conv=>whnf
      repeat' ((first|(show CN _ _ _ _ _ _;first|(refine CN.own 2 rfl rfl (Fn.wP (a1 _ Aj)) (fun v h' La hl hr=>?_);obtain⟨rfl,rfl,rfl⟩:=hr;clear hl;refine⟨_,rfl,?_⟩)|(refine CN.own 2 rfl rfl (Fn.wP (a2 _ Aj)) (fun v h' La hl hr=>?_);obtain⟨rfl,rfl,rfl⟩:=hr;clear hl;refine⟨_,rfl,?_⟩))|((first|apply oI.z|apply cI.z))|(show LdN _ _ _ _ _;first|refine LdN.o 0 rfl rfl ?_|refine LdN.o 1 rfl rfl ?_)|refine Sto.l 1 rfl rfl rfl ?_)<;>conv=>whnf)
      all_goals exact RN.drop0 (RN.drop0 (RN.done ⟨tr,i1,cs1,v1,G1,rfl,hi1,hc1,rfl,g1,op,ar,ng,nn,dd,nm,ss,rfl,hE⟩))
theorem bBk(n:Nat)(ih:∀m,m<n->PC F.q130 [] .fac VE m):PC F.q74 [] .term VE n:=by
 intro ts bp s e h i cs v G r tb w hi hc g hp;cases n with
 | zero=>rw[pp] at hp;cases hp
 | succ n=>
  rw[pp] at hp;cases h1:pp ts prs n .fac i cs with
  | none=>rw[h1] at hp;cases hp
  | some r1=>
   rw[h1] at hp;have c1:=fun h tb w=>ih n Aa ts bp s e h i cs v G r1 tb w hi hc g h1
   refine fPC ok _ D.q74 rfl ?_;conv=>whnf
   repeat' ((first|(show CN _ _ _ _ _ _;(refine CN.par (A:=[_]) rfl (FnP.withPan (c1 _ Ab Ab)) (fun v h' Lp hl hr=>?_) (fun c h' Lp hl hs=>PS.bnd hp hs);obtain⟨tr,i1,cs1,v1,G1,rfl,hi1,hc1,rfl,g1,hv1⟩:=hr;obtain⟨op,ar,ng,nn,dd,nm,ss,rfl,hE⟩:=hv1))|((first|apply oI.z|apply cI.z))|intro (_:Nat)|refine Sto.l 0 rfl rfl rfl ?_)<;>conv=>whnf)
   rename_i b2 b3;replace hp:pp ts prs n (.termL tr) i1 cs1=some r:=hp;refine LpN.of (fun q ρ hx L=>∃(m:Nat) (tr:Tr) (i:Nat) (cs:List Cn) (v:Value) (G:Own) (op ar:Int) (ng:Bool) (nn dd:Sl) (nm:List Nat) (ss:Sl),q=m/\m<=n/\h'.le hx/\
     L=(b3,.cells [.int .i64 op,.int .i64 ar,.bool ng,nn.val,dd.val,.string (txt nm),ss.val].toArray Ty.api_Expr (0,0))::(b2,.cells [.int .i64 0,.int .i64 0,.bool false,.slice none 0 0,.slice none 0 0,.string (txt []),.slice none 0 0].toArray Ty.api_Expr (0,0))::Pst bp s i e v::G/\
     IsE hx [.int .i64 op,.int .i64 ar,.bool ng,nn.val,dd.val,.string (txt nm),ss.val] tr/\i<=ts.length/\cs.length<=i/\aE Ty.syntax_count 4 v cs.length (cnc cs) G/\Hq (pp ts prs m (.termL tr) i cs=some r)) n
    ⟨n,tr,i1,cs1,v1,G1,op,ar,ng,nn,dd,nm,ss,rfl,bDx _,aA.lr _,rfl,hE,hi1,hc1,g1,⟨hp⟩⟩ ?_
   clear hp h1 c1 hE g1 g;conv=>whnf
   repeat intro _
   rename_i q h3 L3 hI;obtain⟨m,tr,i1,cs1,v1,G1,op,ar,ng,nn,dd,nm,ss,rfl,hm,hl3,rfl,hE,hi1,hc1,g1,⟨hp⟩⟩:=hI;cases q with
   | zero=>rw[pp] at hp;cases hp
   | succ m=>
    rw[pp] at hp;by_cases hA:bO ts [42] i1=true
    .rw[if_pos hA] at hp;have hi2:=lQ hA;have a1:=fun h w=>kW h bp s ts i1 e v1 [42] w Ad hA
     cases h1:pp ts prs m .fac (i1+1) cs1 with
     | none=>rw[h1] at hp;cases hp
     | some r1=>
      rw[h1] at hp;have c1:=fun h tb w=>ih m Aa ts bp s e h (i1+1) cs1 v1 G1 r1 tb w Aa Aa g1 h1
      conv=>whnf
      repeat' first|((first|(show DrN _ _ _ _ _ _;refine DrN.each Al ?_)|(show CN _ _ _ _ _ _;first|(refine CN.own 2 rfl rfl (Fn.wP (a1 _ Aj)) (fun v h' La hl hr=>?_);obtain⟨rfl,rfl,rfl⟩:=hr;clear hl;refine⟨_,rfl,?_⟩)|(refine CN.par (A:=[_,_]) rfl (FnP.withPan (c1 _ Ae Aj)) (fun v h' Lp hl hr=>?_) (fun c h' Lp hl hs=>PS.bnd hp hs);obtain⟨tr2,i2,cs2,v2,G2,rfl,hi2,hc2,rfl,g2,hv2⟩:=hr;obtain⟨op2,ar2,ng2,nn2,dd2,nm2,ss2,rfl,hE2⟩:=hv2;have hE1:=hE.mono hl)|(refine CN.keep 0 rfl rfl fun hle=>?_;refine CN.quiet rfl (Fn0.wP (mM _ _ _ _ _ _)) ?_))|((first|apply oI.z|apply cI.z))|refine⟨fun _=>aH.o (aA.lr _),?_⟩|refine⟨fun _=>aH.cons _,?_⟩|refine⟨fun hst=>(by cases (show true=false from hst)),?_⟩|intro (_:Nat)|refine LdN.o 0 rfl rfl ?_|refine Sto.l 0 rfl rfl rfl ?_)<;>conv=>whnf)|(refine sS.mk ?_ ?_<;>(conv=>whnf))
      all_goals exact⟨rfl,m,Aa,m,aF 7 0 [tr,tr2],i2,cs2,v2,G2,7,0,false,⟨none,0,0⟩,⟨none,0,0⟩,[],⟨some ⟨_,0,none⟩,2,2⟩,rfl,Aa,Ac,rfl,IsE.node Ad Ad (IsK.two hE1 hE2 rfl rfl hle),hi2,hc2,g2,⟨hp⟩⟩
    .rw[if_neg hA] at hp;have hA':bO ts [42] i1=false:=by simpa using hA
     have a1:=fun h w=>bS h bp s ts i1 e v1 [42] w hi1 Ad hA'
     by_cases hB:bO ts [47] i1=true
     .rw[if_pos hB] at hp;have hi2:=lQ hB;have a2:=fun h w=>kW h bp s ts i1 e v1 [47] w Ad hB
      cases h1:pp ts prs m .fac (i1+1) cs1 with
      | none=>rw[h1] at hp;cases hp
      | some r1=>
       rw[h1] at hp;have c1:=fun h tb w=>ih m Aa ts bp s e h (i1+1) cs1 v1 G1 r1 tb w Aa Aa g1 h1
       conv=>whnf
       repeat' first|((first|(show DrN _ _ _ _ _ _;refine DrN.each Al ?_)|(show CN _ _ _ _ _ _;first|(refine CN.own 2 rfl rfl (Fn.wP (a1 _ Aj)) (fun v h' La hl hr=>?_);obtain⟨rfl,rfl,rfl⟩:=hr;clear hl;refine⟨_,rfl,?_⟩)|(refine CN.own 2 rfl rfl (Fn.wP (a2 _ Aj)) (fun v h' La hl hr=>?_);obtain⟨rfl,rfl,rfl⟩:=hr;clear hl;refine⟨_,rfl,?_⟩)|(refine CN.par (A:=[_,_]) rfl (FnP.withPan (c1 _ Ae Aj)) (fun v h' Lp hl hr=>?_) (fun c h' Lp hl hs=>PS.bnd hp hs);obtain⟨tr2,i2,cs2,v2,G2,rfl,hi2,hc2,rfl,g2,hv2⟩:=hr;obtain⟨op2,ar2,ng2,nn2,dd2,nm2,ss2,rfl,hE2⟩:=hv2;have hE1:=hE.mono hl)|(refine CN.keep 0 rfl rfl fun hle=>?_;refine CN.quiet rfl (Fn0.wP (mM _ _ _ _ _ _)) ?_))|((first|apply oI.z|apply cI.z))|refine⟨fun _=>aH.o (aA.lr _),?_⟩|refine⟨fun _=>aH.cons _,?_⟩|refine⟨fun hst=>(by cases (show true=false from hst)),?_⟩|intro (_:Nat)|refine LdN.o 0 rfl rfl ?_|refine Sto.l 0 rfl rfl rfl ?_)<;>conv=>whnf)|(refine sS.mk ?_ ?_<;>(conv=>whnf))
       all_goals exact⟨rfl,m,Aa,m,aF 8 0 [tr,tr2],i2,cs2,v2,G2,8,0,false,⟨none,0,0⟩,⟨none,0,0⟩,[],⟨some ⟨_,0,none⟩,2,2⟩,rfl,Aa,Ac,rfl,IsE.node Ad Ad (IsK.two hE1 hE2 rfl rfl hle),hi2,hc2,g2,⟨hp⟩⟩
     .rw[if_neg hB] at hp;cases hp;have hB':bO ts [47] i1=false:=by simpa using hB
      have a2:=fun h w=>bS h bp s ts i1 e v1 [47] w hi1 Ad hB'
      conv=>whnf
      repeat' ((first|(show CN _ _ _ _ _ _;first|(refine CN.own 2 rfl rfl (Fn.wP (a1 _ Aj)) (fun v h' La hl hr=>?_);obtain⟨rfl,rfl,rfl⟩:=hr;clear hl;refine⟨_,rfl,?_⟩)|(refine CN.own 2 rfl rfl (Fn.wP (a2 _ Aj)) (fun v h' La hl hr=>?_);obtain⟨rfl,rfl,rfl⟩:=hr;clear hl;refine⟨_,rfl,?_⟩))|((first|apply oI.z|apply cI.z))|(show LdN _ _ _ _ _;first|refine LdN.o 0 rfl rfl ?_|refine LdN.o 1 rfl rfl ?_)|refine Sto.l 1 rfl rfl rfl ?_)<;>conv=>whnf)
      all_goals exact RN.drop0 (RN.drop0 (RN.done ⟨tr,i1,cs1,v1,G1,rfl,hi1,hc1,rfl,g1,op,ar,ng,nn,dd,nm,ss,rfl,hE⟩))
end Go.Proofs.Y
/- The parser's functions, by steps: factors. -/
namespace Go.Proofs.Y
open Go Go.Vc Go.Dig
attribute [local irreducible] Vc.Fn FnP
theorem aVn(n:Nat)(ihf:∀m,m<n->PC F.q130 [] .fac VE m)(iha:∀m,m<n->PC F.q183 [] .atom VE m):PC F.q130 [] .fac VE n:=by
 intro ts bp s e h i cs v G r tb w hi hc g hp;cases n with
 | zero=>rw[pp] at hp;cases hp
 | succ n=>
  rw[pp] at hp;by_cases hA:bO ts [45] i=true
  .rw[if_pos hA] at hp;have hj2:=lQ hA;have a1:=fun h w=>kW h bp s ts i e v [45] w Ad hA
   cases h1:pp ts prs n .fac (i+1) cs with
   | none=>rw[h1] at hp;cases hp
   | some r1=>
    rw[h1] at hp;have c1:=fun h tb w=>ihf n Aa ts bp s e h (i+1) cs v G r1 tb w Aa Aa g h1
    refine fPC ok _ D.q130 rfl ?_;conv=>whnf
    repeat' ((first|(show CN _ _ _ _ _ _;first|(refine CN.own 1 rfl rfl (Fn.wP (a1 _ Ab)) (fun v h' La hl hr=>?_);obtain⟨rfl,rfl,rfl⟩:=hr;clear hl;refine⟨_,rfl,?_⟩)|(refine CN.par (A:=[_]) rfl (FnP.withPan (c1 _ Ab Ab)) (fun v h' Lp hl hr=>?_) (fun c h' Lp hl hs=>PS.bnd hp hs);obtain⟨tr2,i2,cs2,v2,G2,rfl,hi2,hc2,rfl,g2,hv2⟩:=hr;obtain⟨op2,ar2,ng2,nn2,dd2,nm2,ss2,rfl,hE2⟩:=hv2)|(refine CN.keep 0 rfl rfl fun hle=>?_;refine CN.quiet rfl (Fn0.wP (mM _ _ _ _ _ _)) ?_))|((first|apply oI.z|apply cI.z))|intro (_:Nat)|refine LdN.o 0 rfl rfl ?_|refine Sto.l 0 rfl rfl rfl ?_)<;>conv=>whnf)
    all_goals exact RN.drop0 (RN.done ⟨aF 4 0 [tr2],i2,cs2,v2,G2,(Option.some.inj hp).symm,hi2,hc2,rfl,g2,VE.node Ad Ad (IsK.one hE2 rfl hle)⟩)
  .rw[if_neg hA] at hp;have hA':bO ts [45] i=false:=by simpa using hA
   have a1:=fun h w=>bS h bp s ts i e v [45] w hi Ad hA'
   cases h1:pp ts prs n .atom i cs with
   | none=>rw[h1] at hp;cases hp
   | some r1=>
    rw[h1] at hp;have c1:=fun h tb w=>iha n Aa ts bp s e h i cs v G r1 tb w Aa Aa g h1
    refine fPC ok _ D.q130 rfl ?_;conv=>whnf
    repeat' ((first|(show CN _ _ _ _ _ _;first|(refine CN.own 1 rfl rfl (Fn.wP (a1 _ Ab)) (fun v h' La hl hr=>?_);obtain⟨rfl,rfl,rfl⟩:=hr;clear hl;refine⟨_,rfl,?_⟩)|(refine CN.par (A:=[_]) rfl (FnP.withPan (c1 _ Ab Ab)) (fun v h' Lp hl hr=>?_) (fun c h' Lp hl hs=>PS.bnd hp hs);obtain⟨tr2,i2,cs2,v2,G2,rfl,hi2,hc2,rfl,g2,hv2⟩:=hr;obtain⟨op2,ar2,ng2,nn2,dd2,nm2,ss2,rfl,hE2⟩:=hv2))|((first|apply oI.z|apply cI.z))|intro (_:Nat)|refine Sto.l 0 rfl rfl rfl ?_)<;>conv=>whnf)
    clear a1 c1;dsimp only[Pr.bnd] at hp;by_cases hB:bO ts [94] i2=true
    .rw[if_pos hB] at hp;have hj2:=lQ hB;have a2:=fun h w=>kW h bp s ts i2 e v2 [94] w Ad hB
     by_cases hD:bO ts [45] (i2+1)=true
     .rw[if_pos hD] at hp;have hj3:=lQ hD;have a3:=fun h w=>kW h bp s ts (i2+1) e v2 [45] w Ad hD
      have c2:=fun h w=>aF9 h bp s ts (i2+2) e v2 cs2 G2 0 32 w Aa g2 Aa Aa
      repeat' ((first|(apply aQ.go)|(show CN _ _ _ _ _ _;first|(refine CN.own 2 rfl rfl (Fn.wP (a2 _ Aj)) (fun v h' La hl hr=>?_);obtain⟨rfl,rfl,rfl⟩:=hr;clear hl;refine⟨_,rfl,?_⟩)|(refine CN.own 2 rfl rfl (Fn.wP (a3 _ Aj)) (fun v h' La hl hr=>?_);obtain⟨rfl,rfl,rfl⟩:=hr;clear hl;refine⟨_,rfl,?_⟩)|(refine CN.par (A:=[_,_]) rfl (FnP.withPan (c2 _ Aj)) (fun v h' Lp hl hr=>?_) (fun c h' Lp hl hs=>PS.bnd hp ⟨_,hs⟩);obtain⟨rfl,k,cs3,v3,G3,e3,hi3,hl3,rfl,g3,rfl,hk⟩:=hr;clear hl)|(refine CN.keep 0 rfl rfl fun hle=>?_;refine CN.quiet rfl (Fn0.wP (mM _ _ _ _ _ _)) ?_))|((first|apply oI.z|apply cI.z))|intro (_:Nat)|refine WN.i64 Aa Aa ?_|(show LdN _ _ _ _ _;first|refine LdN.o 0 rfl rfl ?_|refine LdN.o 1 rfl rfl ?_)|refine Sto.l 1 rfl rfl rfl ?_)<;>conv=>whnf)
      all_goals
       rw[e3] at hp;exact RN.drop0 (RN.drop0 (RN.done ⟨aF 9 (-(k:Int)) [tr2],i2+3,cs3,v3,G3,(Option.some.inj hp).symm,Aa,Aa,rfl,g3,by rw[Int.zero_sub];exact VE.node (op:=9) (arg:=-(k:Int)) Ad Aa (IsK.one hE2 rfl hle)⟩))
     .rw[if_neg hD] at hp;have hD':bO ts [45] (i2+1)=false:=by simpa using hD
      have a3:=fun h w=>bS h bp s ts (i2+1) e v2 [45] w Aa Ad hD'
      have c2:=fun h w=>aF9 h bp s ts (i2+1) e v2 cs2 G2 0 32 w Aa g2 Aa Aa
      repeat' ((first|(apply aQ.go)|(show CN _ _ _ _ _ _;first|(refine CN.own 2 rfl rfl (Fn.wP (a2 _ Aj)) (fun v h' La hl hr=>?_);obtain⟨rfl,rfl,rfl⟩:=hr;clear hl;refine⟨_,rfl,?_⟩)|(refine CN.own 2 rfl rfl (Fn.wP (a3 _ Aj)) (fun v h' La hl hr=>?_);obtain⟨rfl,rfl,rfl⟩:=hr;clear hl;refine⟨_,rfl,?_⟩)|(refine CN.par (A:=[_,_]) rfl (FnP.withPan (c2 _ Aj)) (fun v h' Lp hl hr=>?_) (fun c h' Lp hl hs=>PS.bnd hp ⟨_,hs⟩);obtain⟨rfl,k,cs3,v3,G3,e3,hi3,hl3,rfl,g3,rfl,hk⟩:=hr;clear hl)|(refine CN.keep 0 rfl rfl fun hle=>?_;refine CN.quiet rfl (Fn0.wP (mM _ _ _ _ _ _)) ?_))|((first|apply oI.z|apply cI.z))|intro (_:Nat)|(show LdN _ _ _ _ _;first|refine LdN.o 0 rfl rfl ?_|refine LdN.o 1 rfl rfl ?_)|refine Sto.l 1 rfl rfl rfl ?_)<;>conv=>whnf)
      all_goals
       rw[e3] at hp;exact RN.drop0 (RN.drop0 (RN.done ⟨aF 9 k [tr2],i2+2,cs3,v3,G3,(Option.some.inj hp).symm,Aa,Aa,rfl,g3,VE.node Ad Aa (IsK.one hE2 rfl hle)⟩))
    .rw[if_neg hB] at hp;cases hp;have hB':bO ts [94] i2=false:=by simpa using hB
     have a2:=fun h w=>bS h bp s ts i2 e v2 [94] w Aa Ad hB'
     repeat' ((first|(show CN _ _ _ _ _ _;(refine CN.own 2 rfl rfl (Fn.wP (a2 _ Aj)) (fun v h' La hl hr=>?_);obtain⟨rfl,rfl,rfl⟩:=hr;clear hl;refine⟨_,rfl,?_⟩))|((first|apply oI.z|apply cI.z))|(show LdN _ _ _ _ _;first|refine LdN.o 0 rfl rfl ?_|refine LdN.o 1 rfl rfl ?_)|refine Sto.l 1 rfl rfl rfl ?_)<;>conv=>whnf)
     all_goals exact RN.drop0 (RN.drop0 (RN.done ⟨tr2,i2,cs2,v2,G2,rfl,hi2,hc2,rfl,g2,op2,ar2,ng2,nn2,dd2,nm2,ss2,rfl,hE2⟩))
end Go.Proofs.Y
/- The parser's functions, by steps: rows in brackets. -/
namespace Go.Vc
open Go Go.Dig
theorem Has.front{h:aA}{b:Nat}{l:List Value}{T:TypeId}{fz:Nat × Nat}(L:Own)(j:Nat)(hj:j<l.length):Has h ((b,.cells l.toArray T fz)::L) ((⟨b,0,none⟩:Addr).add j) (l.getD j undef):=by
 rw[bB];refine⟨rfl,_,_,_,.inr (bDe),?_⟩;show l.toArray[0+j]?=_;rw[bDu,bD1,bC8 hj,bC7,bC8 hj]
 rfl
end Go.Vc
namespace Go.Proofs.Y
open Go Go.Vc Go.Dig
theorem PS.want{β:Type}{ts:List Tk}{e i:Nat}{x:List Nat}{cs:List Cn}{r:Pr β}{f:Unit->Nat->List Cn->Option (Pr β)}{c:List PanicEntry}(hp:Pr.bnd (jT ts x i cs) f=some r)(hs:bO ts x i=false/\c=flt (iX ts e i)):PS ts e r c:=by
 unfold jT at hp;rw[hs.1] at hp;cases hp;exact⟨i,rfl,hs.2⟩
theorem aYx{β:Type}{ts:List Tk}{i:Nat}{x:List Nat}{cs:List Cn}{r:Pr β}{f:Unit->Nat->List Cn->Option (Pr β)}(hq:bO ts x i=true)(hp:Pr.bnd (jT ts x i cs) f=some r):f () (i+1) cs=some r:=by
 unfold jT at hp;rw[hq] at hp;exact hp
attribute [local irreducible] Vc.Fn FnP
end Go.Proofs.Y