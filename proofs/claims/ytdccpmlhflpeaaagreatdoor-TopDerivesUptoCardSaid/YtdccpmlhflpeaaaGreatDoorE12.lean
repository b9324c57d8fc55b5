/- The parser's functions, by steps: atoms. -/
import Derived.Test.YtdccpmlhflpeaaaGreatDoorE11
set_option linter.all false
set_option maxHeartbeats 2000000
set_option maxRecDepth 20000
namespace Go.Proofs.Y
open Go Go.Vc Go.Dig
theorem wC(h:aA)(bp:Nat)(s:Sl)(ts:List Tk)(i e:Nat)(v:Value)(kd:Nat)(w:dU h s ts)(hi:i<=ts.length)(hN:lJ ts kd i=none):Vc.Fn T F.q209 [.pointer (some ⟨bp,0,none⟩),.int .i64 kd] h [Pst bp s i e v] fun r h' L'=>L'=[Pst bp s i e v]/\h'=h/\r=.tuple #[.agg #[.int .i64 0,.string (txt []),.int .i64 0],.bool false]:=by
 have:=uK h bp s ts i e v kd w hi;rw[hN] at this;exact this
theorem aYy(h:aA)(bp:Nat)(s:Sl)(ts:List Tk)(i e:Nat)(v:Value)(kd:Nat)(t:Tk)(w:dU h s ts)(hi:i<=ts.length)(hN:lJ ts kd i=some t):Vc.Fn T F.q209 [.pointer (some ⟨bp,0,none⟩),.int .i64 kd] h [Pst bp s i e v] fun r h' L'=>L'=[Pst bp s (i+1) e v]/\h'=h/\r=.tuple #[.agg #[.int .i64 t.kind,.string (txt t.text),.int .i64 t.pos],.bool true]:=by
 have:=uK h bp s ts i e v kd w hi;rw[hN] at this;exact this
theorem bBl{ts:List Tk}{i kd:Nat}{t:Tk}(ht:ts[i]?=some t)(hk:t.kind=kd):lJ ts kd i=some t:=by
 unfold lJ;rw[ht];simp[hk]
theorem zJ{ts:List Tk}{i kd:Nat}{t:Tk}(ht:ts[i]?=some t)(hk:t.kind≠kd):lJ ts kd i=none:=by
 unfold lJ;rw[ht];simp[hk]
theorem aQw{ts:List Tk}{i kd:Nat}(ht:ts[i]?=none):lJ ts kd i=none:=by
 unfold lJ;rw[ht]
theorem aYz{ts:List Tk}{i:Nat}{t:Tk}{x:List Nat}(ht:ts[i]?=some t)(hk:t.kind=0)(hx:t.text=x):bO ts x i=true:=by
 unfold bO;rw[ht];simp[hk,hx]
theorem aI2{ts:List Tk}{i:Nat}{t:Tk}{x:List Nat}(ht:ts[i]?=some t)(hx:¬(t.kind=0/\t.text=x)):bO ts x i=false:=by
 unfold bO;rw[ht];simp only[decide_eq_false_iff_not];exact hx
theorem aY0{ts:List Tk}{i:Nat}{x:List Nat}(ht:ts[i]?=none):bO ts x i=false:=by
 unfold bO;rw[ht]
attribute [local irreducible] Vc.Fn FnP
theorem aB5(ts:List Tk)(bp:Nat)(s:Sl)(e:Nat)(h:aA)(i n:Nat)(cs:List Cn)(v:Value)(G:Own)(r:Pr Tr)(tb:Tb h)(w:dU h s ts)(hi:i<=ts.length)(hc:cs.length<=i)(g:aE Ty.syntax_count 4 v cs.length (cnc cs) G)(y2:lJ ts 2 i=none)(y3:lJ ts 3 i=none)(y1:lJ ts 1 i=none)(hF:∀x∈[[112,105],[40],[97,98,115],[115,113,114,116],[109,105,110],[109,97,120],[105,102],[114,111,111,116]],bO ts x i=false)(hp:some (Pr.bad i)=some r):
  FnP T F.q183 [.pointer (some ⟨bp,0,none⟩)] h (Pst bp s i e v::G) (PQ ts bp s e VE r) fun c _ _=>PS ts e r c:=by
 cases hp
 have n2:=fun h w=>wC h bp s ts i e v 2 w hi y2
 have n3:=fun h w=>wC h bp s ts i e v 3 w hi y3
 have a0:=fun h w=>bS h bp s ts i e v [112,105] w hi Ad (hF _ Ad)
 have a1:=fun h w=>bS h bp s ts i e v [40] w hi Ad (hF _ Ad)
 have a2:=fun h w=>bS h bp s ts i e v [97,98,115] w hi Ad (hF _ Ad)
 have a3:=fun h w=>bS h bp s ts i e v [115,113,114,116] w hi Ad (hF _ Ad)
 have a4:=fun h w=>bS h bp s ts i e v [109,105,110] w hi Ad (hF _ Ad)
 have a5:=fun h w=>bS h bp s ts i e v [109,97,120] w hi Ad (hF _ Ad)
 have a6:=fun h w=>bS h bp s ts i e v [105,102] w hi Ad (hF _ Ad)
 have a7:=fun h w=>bS h bp s ts i e v [114,111,111,116] w hi Ad (hF _ Ad)
 refine fPC ok _ D.q183 rfl ?_;conv=>whnf
 repeat' ((first|(show CN _ _ _ _ _ _;first|(refine CN.own 1 rfl rfl (Fn.wP (n2 _ Ab)) (fun v h' La hl hr=>?_);obtain⟨rfl,rfl,rfl⟩:=hr;clear hl;refine⟨_,rfl,?_⟩)|(refine CN.own 2 rfl rfl (Fn.wP (n3 _ Ab)) (fun v h' La hl hr=>?_);obtain⟨rfl,rfl,rfl⟩:=hr;clear hl;refine⟨_,rfl,?_⟩)|(refine CN.own 3 rfl rfl (Fn.wP (a0 _ Ab)) (fun v h' La hl hr=>?_);obtain⟨rfl,rfl,rfl⟩:=hr;clear hl;refine⟨_,rfl,?_⟩)|(refine CN.own 3 rfl rfl (Fn.wP (a1 _ Ab)) (fun v h' La hl hr=>?_);obtain⟨rfl,rfl,rfl⟩:=hr;clear hl;refine⟨_,rfl,?_⟩)|(refine CN.own 3 rfl rfl (Fn.wP (a2 _ Ab)) (fun v h' La hl hr=>?_);obtain⟨rfl,rfl,rfl⟩:=hr;clear hl;refine⟨_,rfl,?_⟩)|(refine CN.own 3 rfl rfl (Fn.wP (a3 _ Ab)) (fun v h' La hl hr=>?_);obtain⟨rfl,rfl,rfl⟩:=hr;clear hl;refine⟨_,rfl,?_⟩)|(refine CN.own 3 rfl rfl (Fn.wP (a4 _ Ab)) (fun v h' La hl hr=>?_);obtain⟨rfl,rfl,rfl⟩:=hr;clear hl;refine⟨_,rfl,?_⟩)|(refine CN.own 3 rfl rfl (Fn.wP (a5 _ Ab)) (fun v h' La hl hr=>?_);obtain⟨rfl,rfl,rfl⟩:=hr;clear hl;refine⟨_,rfl,?_⟩)|(refine CN.own 3 rfl rfl (Fn.wP (a6 _ Ab)) (fun v h' La hl hr=>?_);obtain⟨rfl,rfl,rfl⟩:=hr;clear hl;refine⟨_,rfl,?_⟩)|(refine CN.own 3 rfl rfl (Fn.wP (a7 _ Ab)) (fun v h' La hl hr=>?_);obtain⟨rfl,rfl,rfl⟩:=hr;clear hl;refine⟨_,rfl,?_⟩))|((first|apply oI.z|apply cI.z))|intro (_:Nat)|refine Sto.l 0 rfl rfl rfl ?_)<;>conv=>whnf)
 all_goals exact CN.par2 (A:=[_,_,_]) (B:=G) rfl (FnP.withPan (aQv _ _ _ ts i _ _ Ab hi y1)) (fun v h' Lp hl hr=>hr.elim) (fun c h' Lp hl hs=>⟨i,rfl,hs⟩)
theorem aNj(ts:List Tk)(bp:Nat)(s:Sl)(e:Nat)(h:aA)(i n:Nat)(cs:List Cn)(v:Value)(G:Own)(r:Pr Tr)(tb:Tb h)(w:dU h s ts)(hi:i<=ts.length)(hc:cs.length<=i)(g:aE Ty.syntax_count 4 v cs.length (cnc cs) G)(t:Tk)(ht:ts[i]?=some t)(hk:t.kind=1)(hp:some (Pr.ok (aF8 t.text prs) (i+1) cs)=some r):
  FnP T F.q183 [.pointer (some ⟨bp,0,none⟩)] h (Pst bp s i e v::G) (PQ ts bp s e VE r) fun c _ _=>PS ts e r c:=by
 cases hp
 have hj:=(bC9.1 ht).1;have hF:∀x∈[[112,105],[40],[97,98,115],[115,113,114,116],[109,105,110],[109,97,120],[105,102],[114,111,111,116]],bO ts x i=false:=fun x _=>aI2 ht Aa
 have n2:=fun h w=>wC h bp s ts i e v 2 w hi (zJ ht Aa)
 have n3:=fun h w=>wC h bp s ts i e v 3 w hi (zJ ht Aa)
 have a0:=fun h w=>bS h bp s ts i e v [112,105] w hi Ad (hF _ Ad)
 have a1:=fun h w=>bS h bp s ts i e v [40] w hi Ad (hF _ Ad)
 have a2:=fun h w=>bS h bp s ts i e v [97,98,115] w hi Ad (hF _ Ad)
 have a3:=fun h w=>bS h bp s ts i e v [115,113,114,116] w hi Ad (hF _ Ad)
 have a4:=fun h w=>bS h bp s ts i e v [109,105,110] w hi Ad (hF _ Ad)
 have a5:=fun h w=>bS h bp s ts i e v [109,97,120] w hi Ad (hF _ Ad)
 have a6:=fun h w=>bS h bp s ts i e v [105,102] w hi Ad (hF _ Ad)
 have a7:=fun h w=>bS h bp s ts i e v [114,111,111,116] w hi Ad (hF _ Ad)
 refine fPC ok _ D.q183 rfl ?_;conv=>whnf
 repeat' ((first|(show CN _ _ _ _ _ _;first|(refine CN.own 1 rfl rfl (Fn.wP (n2 _ Ab)) (fun v h' La hl hr=>?_);obtain⟨rfl,rfl,rfl⟩:=hr;clear hl;refine⟨_,rfl,?_⟩)|(refine CN.own 2 rfl rfl (Fn.wP (n3 _ Ab)) (fun v h' La hl hr=>?_);obtain⟨rfl,rfl,rfl⟩:=hr;clear hl;refine⟨_,rfl,?_⟩)|(refine CN.own 3 rfl rfl (Fn.wP (a0 _ Ab)) (fun v h' La hl hr=>?_);obtain⟨rfl,rfl,rfl⟩:=hr;clear hl;refine⟨_,rfl,?_⟩)|(refine CN.own 3 rfl rfl (Fn.wP (a1 _ Ab)) (fun v h' La hl hr=>?_);obtain⟨rfl,rfl,rfl⟩:=hr;clear hl;refine⟨_,rfl,?_⟩)|(refine CN.own 3 rfl rfl (Fn.wP (a2 _ Ab)) (fun v h' La hl hr=>?_);obtain⟨rfl,rfl,rfl⟩:=hr;clear hl;refine⟨_,rfl,?_⟩)|(refine CN.own 3 rfl rfl (Fn.wP (a3 _ Ab)) (fun v h' La hl hr=>?_);obtain⟨rfl,rfl,rfl⟩:=hr;clear hl;refine⟨_,rfl,?_⟩)|(refine CN.own 3 rfl rfl (Fn.wP (a4 _ Ab)) (fun v h' La hl hr=>?_);obtain⟨rfl,rfl,rfl⟩:=hr;clear hl;refine⟨_,rfl,?_⟩)|(refine CN.own 3 rfl rfl (Fn.wP (a5 _ Ab)) (fun v h' La hl hr=>?_);obtain⟨rfl,rfl,rfl⟩:=hr;clear hl;refine⟨_,rfl,?_⟩)|(refine CN.own 3 rfl rfl (Fn.wP (a6 _ Ab)) (fun v h' La hl hr=>?_);obtain⟨rfl,rfl,rfl⟩:=hr;clear hl;refine⟨_,rfl,?_⟩)|(refine CN.own 3 rfl rfl (Fn.wP (a7 _ Ab)) (fun v h' La hl hr=>?_);obtain⟨rfl,rfl,rfl⟩:=hr;clear hl;refine⟨_,rfl,?_⟩))|((first|apply oI.z|apply cI.z))|intro (_:Nat)|refine Sto.l 0 rfl rfl rfl ?_)<;>conv=>whnf)
 all_goals refine CN.par2 (A:=[_,_,_]) (B:=G) rfl (FnP.withPan (aNi _ Ab _ _ ts i _ _ t Ab ht hk)) (fun v h' Lp hl hr=>?_) (fun c h' Lp hl hs=>hs.elim)
 obtain⟨rfl,a,b,rfl,hv⟩:=hr;conv=>whnf
 repeat' ((first|((first|apply oI.z|apply cI.z))|refine LdN.o 2 rfl rfl ?_|refine Sto.l 2 rfl rfl rfl ?_)<;>conv=>whnf)
 all_goals exact RN.drop0 (RN.drop0 (RN.drop0 (RN.done ⟨aF8 t.text prs,i+1,cs,_,G,rfl,Aa,Aa,rfl,g,1,0,_,a,b,[],⟨none,0,0⟩,rfl,IsE.num hv⟩)))
theorem aNk(ts:List Tk)(bp:Nat)(s:Sl)(e:Nat)(h:aA)(i n:Nat)(cs:List Cn)(v:Value)(G:Own)(r:Pr Tr)(tb:Tb h)(w:dU h s ts)(hi:i<=ts.length)(hc:cs.length<=i)(g:aE Ty.syntax_count 4 v cs.length (cnc cs) G)(t:Tk)(ht:ts[i]?=some t)(hk:t.kind=2)(hp:some (Pr.ok (tE t.text) (i+1) cs)=some r):
  FnP T F.q183 [.pointer (some ⟨bp,0,none⟩)] h (Pst bp s i e v::G) (PQ ts bp s e VE r) fun c _ _=>PS ts e r c:=by
 cases hp
 have hj:=(bC9.1 ht).1;have ht8:=w.lt t (bDc ht);have n2:=fun h w=>aYy h bp s ts i e v 2 t w hi (bBl ht hk)
 refine fPC ok _ D.q183 rfl ?_;conv=>whnf
 repeat' ((first|(show CN _ _ _ _ _ _;(refine CN.own 1 rfl rfl (Fn.wP (n2 _ Ab)) (fun v h' La hl hr=>?_);obtain⟨rfl,rfl,rfl⟩:=hr;clear hl;refine⟨_,rfl,?_⟩))|((first|apply oI.z|apply cI.z))|intro (_:Nat)|refine LdN.o 1 rfl rfl ?_|refine Ld.o 0 rfl rfl ?_|(show Sto _ _ _ _;first|refine Sto.l 0 rfl rfl rfl ?_|refine Sto.l 1 rfl rfl rfl ?_))<;>conv=>whnf)
 all_goals exact RN.drop0 (RN.drop0 (RN.done ⟨tE t.text,i+1,cs,v,G,rfl,Aa,Aa,rfl,g,2,0,false,⟨none,0,0⟩,⟨none,0,0⟩,t.text,⟨none,0,0⟩,rfl,IsE.var ht8⟩))
theorem aNl(ts:List Tk)(bp:Nat)(s:Sl)(e:Nat)(h:aA)(i n:Nat)(cs:List Cn)(v:Value)(G:Own)(r:Pr Tr)(tb:Tb h)(w:dU h s ts)(hi:i<=ts.length)(hc:cs.length<=i)(g:aE Ty.syntax_count 4 v cs.length (cnc cs) G)(ihe:PC F.q36 [] .sum VE n)(t:Tk)(ht:ts[i]?=some t)(hk:t.kind=0)(hx:t.text=[40])(hp:(Pr.bnd (pp ts prs n .sum (i+1) cs) fun e i cs=>Pr.bnd (jT ts [41] i cs) fun _ i cs=>some (.ok e i cs))=some r):
  FnP T F.q183 [.pointer (some ⟨bp,0,none⟩)] h (Pst bp s i e v::G) (PQ ts bp s e VE r) fun c _ _=>PS ts e r c:=by
 have hj:=(bC9.1 ht).1;have n2:=fun h w=>wC h bp s ts i e v 2 w hi (zJ ht Aa)
 have n3:=fun h w=>wC h bp s ts i e v 3 w hi (zJ ht Aa)
 have a0:=fun h w=>bS h bp s ts i e v [112,105] w hi Ad (aI2 ht (fun q=>absurd (hx.symm.trans q.2) Ad))
 have a1:=fun h w=>kW h bp s ts i e v [40] w Ad (aYz ht hk hx)
 cases h1:pp ts prs n .sum (i+1) cs with
 | none=>rw[h1] at hp;cases hp
 | some r1=>
  rw[h1] at hp;have c1:=fun h tb w=>ihe ts bp s e h (i+1) cs v G r1 tb w Aa Aa g h1
  refine fPC ok _ D.q183 rfl ?_;conv=>whnf
  repeat' ((first|(show CN _ _ _ _ _ _;first|(refine CN.own 1 rfl rfl (Fn.wP (n2 _ Ab)) (fun v h' La hl hr=>?_);obtain⟨rfl,rfl,rfl⟩:=hr;clear hl;refine⟨_,rfl,?_⟩)|(refine CN.own 2 rfl rfl (Fn.wP (n3 _ Ab)) (fun v h' La hl hr=>?_);obtain⟨rfl,rfl,rfl⟩:=hr;clear hl;refine⟨_,rfl,?_⟩)|(refine CN.own 3 rfl rfl (Fn.wP (a0 _ Ab)) (fun v h' La hl hr=>?_);obtain⟨rfl,rfl,rfl⟩:=hr;clear hl;refine⟨_,rfl,?_⟩)|(refine CN.own 3 rfl rfl (Fn.wP (a1 _ Ab)) (fun v h' La hl hr=>?_);obtain⟨rfl,rfl,rfl⟩:=hr;clear hl;refine⟨_,rfl,?_⟩)|(refine CN.par (A:=[_,_,_]) rfl (FnP.withPan (c1 _ Ab Ab)) (fun v h' Lp hl hr=>?_) (fun c h' Lp hl hs=>PS.bnd hp hs);obtain⟨tr2,i2,cs2,v2,G2,rfl,hi2,hc2,rfl,g2,hv2⟩:=hr;obtain⟨op2,ar2,ng2,nn2,dd2,nm2,ss2,rfl,hE2⟩:=hv2))|((first|apply oI.z|apply cI.z))|intro (_:Nat)|refine Sto.l 0 rfl rfl rfl ?_)<;>conv=>whnf)
  replace hp:Pr.bnd (jT ts [41] i2 cs2) (fun _ i cs=>some (.ok tr2 i cs))=some r:=hp
  have w1:=fun h w=>aVl h bp s ts i2 e v2 [41] w hi2 Ad
  repeat' ((first|(show CN _ _ _ _ _ _;(refine CN.par2 (A:=[_,_,_,_]) (B:=G2) rfl (FnP.withPan (w1 _ Aj)) (fun v h' Lp hl hr=>?_) (fun c h' Lp hl hs=>PS.want hp hs);obtain⟨rfl,hq,rfl,rfl⟩:=hr;clear hl))|((first|apply oI.z|apply cI.z))|(show LdN _ _ _ _ _;first|refine LdN.o 0 rfl rfl ?_|refine LdN.o 3 rfl rfl ?_)|refine Sto.l 3 rfl rfl rfl ?_)<;>conv=>whnf)
  replace hp:=aYx hq hp;have hj2:=lQ hq;exact RN.drop0 (RN.drop0 (RN.drop0 (RN.drop0 (RN.done ⟨tr2,i2+1,cs2,v2,G2,(Option.some.inj hp).symm,Aa,Aa,rfl,g2,op2,ar2,ng2,nn2,dd2,nm2,ss2,rfl,hE2⟩))))
end Go.Proofs.Y