/- The parser's functions, by steps: atoms. -/
import Derived.Test.YtblecjeceecaaaaGreatDoorE11
set_option linter.all false
set_option maxHeartbeats 2000000
set_option maxRecDepth 20000
namespace Go.Proofs.Y
open Go Go.Vc Go.Dig
theorem gM(h:aA)(bp:Nat)(s:Sl)(ts:List Tk)(i e:Nat)(v:Value)(kd:Nat)(w:dK h s ts)(hi:i<=ts.length)(hN:mK ts kd i=none):Vc.Fn T F.q318 [.pointer (some ⟨bp,0,none⟩),.int .i64 kd] h [Pst bp s i e v] fun r h' L'=>L'=[Pst bp s i e v]/\h'=h/\r=.tuple #[.agg #[.int .i64 0,.string (txt []),.int .i64 0],.bool false]:=by
 have:=wV h bp s ts i e v kd w hi;rw[hN] at this;exact this
theorem aT2(h:aA)(bp:Nat)(s:Sl)(ts:List Tk)(i e:Nat)(v:Value)(kd:Nat)(t:Tk)(w:dK h s ts)(hi:i<=ts.length)(hN:mK ts kd i=some t):Vc.Fn T F.q318 [.pointer (some ⟨bp,0,none⟩),.int .i64 kd] h [Pst bp s i e v] fun r h' L'=>L'=[Pst bp s (i+1) e v]/\h'=h/\r=.tuple #[.agg #[.int .i64 t.kind,.string (txt t.text),.int .i64 t.pos],.bool true]:=by
 have:=wV h bp s ts i e v kd w hi;rw[hN] at this;exact this
theorem bB8{ts:List Tk}{i kd:Nat}{t:Tk}(ht:ts[i]?=some t)(hk:t.kind=kd):mK ts kd i=some t:=by
 unfold mK;rw[ht];simp[hk]
theorem jK{ts:List Tk}{i kd:Nat}{t:Tk}(ht:ts[i]?=some t)(hk:t.kind≠kd):mK ts kd i=none:=by
 unfold mK;rw[ht];simp[hk]
theorem aT3{ts:List Tk}{i kd:Nat}(ht:ts[i]?=none):mK ts kd i=none:=by
 unfold mK;rw[ht]
theorem sO{ts:List Tk}{i:Nat}{t:Tk}{x:List Nat}(ht:ts[i]?=some t)(hk:t.kind=0)(hx:t.text=x):cG ts x i=true:=by
 unfold cG;rw[ht];simp[hk,hx]
theorem dX{ts:List Tk}{i:Nat}{t:Tk}{x:List Nat}(ht:ts[i]?=some t)(hx:¬(t.kind=0/\t.text=x)):cG ts x i=false:=by
 unfold cG;rw[ht];simp only[decide_eq_false_iff_not];exact hx
theorem bC3{ts:List Tk}{i:Nat}{x:List Nat}(ht:ts[i]?=none):cG ts x i=false:=by
 unfold cG;rw[ht]
theorem aZt(l:List Nat):aDf l<=8:=by
 unfold aDf
 split
 .rename_i hm;have:=List.idxOf_lt_length_of_mem hm;have h8:aW.length=8:=rfl;omega
 .omega
attribute [local irreducible] Vc.Fn FnP
theorem aEc(ts:List Tk)(bp:Nat)(s:Sl)(e:Nat)(h:aA)(i n:Nat)(cs:List Cn)(v:Value)(G:Own)(r:Pr Tr)(tb:Tb h)(w:dK h s ts)(hi:i<=ts.length)(hc:cs.length<=i)(g:aF Ty.syntax_count 4 v cs.length (cnc cs) G)(y2:mK ts 2 i=none)(y3:mK ts 3 i=none)(y1:mK ts 1 i=none)(hF:∀x∈[[112,105],[40],[97,98,115],[115,113,114,116],[109,105,110],[109,97,120],[105,102],[114,111,111,116]],cG ts x i=false)(hp:some (Pr.bad i)=some r):
  FnP T F.q285 [.pointer (some ⟨bp,0,none⟩)] h (Pst bp s i e v::G) (PQ ts bp s e VE r) fun c _ _=>PS ts e r c:=by
 cases hp
 have n2:=fun h w=>gM h bp s ts i e v 2 w hi y2
 have n3:=fun h w=>gM h bp s ts i e v 3 w hi y3
 have a0:=fun h w=>aQ h bp s ts i e v [112,105] w hi Ae (hF _ Ae)
 have a1:=fun h w=>aQ h bp s ts i e v [40] w hi Ae (hF _ Ae)
 have a2:=fun h w=>aQ h bp s ts i e v [97,98,115] w hi Ae (hF _ Ae)
 have a3:=fun h w=>aQ h bp s ts i e v [115,113,114,116] w hi Ae (hF _ Ae)
 have a4:=fun h w=>aQ h bp s ts i e v [109,105,110] w hi Ae (hF _ Ae)
 have a5:=fun h w=>aQ h bp s ts i e v [109,97,120] w hi Ae (hF _ Ae)
 have a6:=fun h w=>aQ h bp s ts i e v [105,102] w hi Ae (hF _ Ae)
 have a7:=fun h w=>aQ h bp s ts i e v [114,111,111,116] w hi Ae (hF _ Ae)
 refine fPC ok _ D.q285 rfl ?_;conv=>whnf
 repeat' ((first|(show CN _ _ _ _ _ _;first|(refine CN.own 1 rfl rfl (Fn.wP (n2 _ Ab)) (fun v h' La hl hr=>?_);obtain⟨rfl,rfl,rfl⟩:=hr;clear hl;refine⟨_,rfl,?_⟩)|(refine CN.own 2 rfl rfl (Fn.wP (n3 _ Ab)) (fun v h' La hl hr=>?_);obtain⟨rfl,rfl,rfl⟩:=hr;clear hl;refine⟨_,rfl,?_⟩)|(refine CN.own 3 rfl rfl (Fn.wP (a0 _ Ab)) (fun v h' La hl hr=>?_);obtain⟨rfl,rfl,rfl⟩:=hr;clear hl;refine⟨_,rfl,?_⟩)|(refine CN.own 3 rfl rfl (Fn.wP (a1 _ Ab)) (fun v h' La hl hr=>?_);obtain⟨rfl,rfl,rfl⟩:=hr;clear hl;refine⟨_,rfl,?_⟩)|(refine CN.own 3 rfl rfl (Fn.wP (a2 _ Ab)) (fun v h' La hl hr=>?_);obtain⟨rfl,rfl,rfl⟩:=hr;clear hl;refine⟨_,rfl,?_⟩)|(refine CN.own 3 rfl rfl (Fn.wP (a3 _ Ab)) (fun v h' La hl hr=>?_);obtain⟨rfl,rfl,rfl⟩:=hr;clear hl;refine⟨_,rfl,?_⟩)|(refine CN.own 3 rfl rfl (Fn.wP (a4 _ Ab)) (fun v h' La hl hr=>?_);obtain⟨rfl,rfl,rfl⟩:=hr;clear hl;refine⟨_,rfl,?_⟩)|(refine CN.own 3 rfl rfl (Fn.wP (a5 _ Ab)) (fun v h' La hl hr=>?_);obtain⟨rfl,rfl,rfl⟩:=hr;clear hl;refine⟨_,rfl,?_⟩)|(refine CN.own 3 rfl rfl (Fn.wP (a6 _ Ab)) (fun v h' La hl hr=>?_);obtain⟨rfl,rfl,rfl⟩:=hr;clear hl;refine⟨_,rfl,?_⟩)|(refine CN.own 3 rfl rfl (Fn.wP (a7 _ Ab)) (fun v h' La hl hr=>?_);obtain⟨rfl,rfl,rfl⟩:=hr;clear hl;refine⟨_,rfl,?_⟩))|((first|apply oI.z|apply cI.z))|intro (_:Nat)|refine Sto.l 0 rfl rfl rfl ?_)<;>conv=>whnf)
 all_goals exact CN.par2 (A:=[_,_,_]) (B:=G) rfl (FnP.withPan (aT1 _ _ _ ts i _ _ Ab hi y1)) (fun v h' Lp hl hr=>hr.elim) (fun c h' Lp hl hs=>⟨i,rfl,hs⟩)
theorem aQu(ts:List Tk)(bp:Nat)(s:Sl)(e:Nat)(h:aA)(i n:Nat)(cs:List Cn)(v:Value)(G:Own)(r:Pr Tr)(tb:Tb h)(w:dK h s ts)(hi:i<=ts.length)(hc:cs.length<=i)(g:aF Ty.syntax_count 4 v cs.length (cnc cs) G)(t:Tk)(ht:ts[i]?=some t)(hk:t.kind=1)(hp:some (Pr.ok (aI3 t.text prs) (i+1) cs)=some r):
  FnP T F.q285 [.pointer (some ⟨bp,0,none⟩)] h (Pst bp s i e v::G) (PQ ts bp s e VE r) fun c _ _=>PS ts e r c:=by
 cases hp
 have hj:=(bIr.1 ht).1;have hF:∀x∈[[112,105],[40],[97,98,115],[115,113,114,116],[109,105,110],[109,97,120],[105,102],[114,111,111,116]],cG ts x i=false:=fun x _=>dX ht Aa
 have n2:=fun h w=>gM h bp s ts i e v 2 w hi (jK ht Aa)
 have n3:=fun h w=>gM h bp s ts i e v 3 w hi (jK ht Aa)
 have a0:=fun h w=>aQ h bp s ts i e v [112,105] w hi Ae (hF _ Ae)
 have a1:=fun h w=>aQ h bp s ts i e v [40] w hi Ae (hF _ Ae)
 have a2:=fun h w=>aQ h bp s ts i e v [97,98,115] w hi Ae (hF _ Ae)
 have a3:=fun h w=>aQ h bp s ts i e v [115,113,114,116] w hi Ae (hF _ Ae)
 have a4:=fun h w=>aQ h bp s ts i e v [109,105,110] w hi Ae (hF _ Ae)
 have a5:=fun h w=>aQ h bp s ts i e v [109,97,120] w hi Ae (hF _ Ae)
 have a6:=fun h w=>aQ h bp s ts i e v [105,102] w hi Ae (hF _ Ae)
 have a7:=fun h w=>aQ h bp s ts i e v [114,111,111,116] w hi Ae (hF _ Ae)
 refine fPC ok _ D.q285 rfl ?_;conv=>whnf
 repeat' ((first|(show CN _ _ _ _ _ _;first|(refine CN.own 1 rfl rfl (Fn.wP (n2 _ Ab)) (fun v h' La hl hr=>?_);obtain⟨rfl,rfl,rfl⟩:=hr;clear hl;refine⟨_,rfl,?_⟩)|(refine CN.own 2 rfl rfl (Fn.wP (n3 _ Ab)) (fun v h' La hl hr=>?_);obtain⟨rfl,rfl,rfl⟩:=hr;clear hl;refine⟨_,rfl,?_⟩)|(refine CN.own 3 rfl rfl (Fn.wP (a0 _ Ab)) (fun v h' La hl hr=>?_);obtain⟨rfl,rfl,rfl⟩:=hr;clear hl;refine⟨_,rfl,?_⟩)|(refine CN.own 3 rfl rfl (Fn.wP (a1 _ Ab)) (fun v h' La hl hr=>?_);obtain⟨rfl,rfl,rfl⟩:=hr;clear hl;refine⟨_,rfl,?_⟩)|(refine CN.own 3 rfl rfl (Fn.wP (a2 _ Ab)) (fun v h' La hl hr=>?_);obtain⟨rfl,rfl,rfl⟩:=hr;clear hl;refine⟨_,rfl,?_⟩)|(refine CN.own 3 rfl rfl (Fn.wP (a3 _ Ab)) (fun v h' La hl hr=>?_);obtain⟨rfl,rfl,rfl⟩:=hr;clear hl;refine⟨_,rfl,?_⟩)|(refine CN.own 3 rfl rfl (Fn.wP (a4 _ Ab)) (fun v h' La hl hr=>?_);obtain⟨rfl,rfl,rfl⟩:=hr;clear hl;refine⟨_,rfl,?_⟩)|(refine CN.own 3 rfl rfl (Fn.wP (a5 _ Ab)) (fun v h' La hl hr=>?_);obtain⟨rfl,rfl,rfl⟩:=hr;clear hl;refine⟨_,rfl,?_⟩)|(refine CN.own 3 rfl rfl (Fn.wP (a6 _ Ab)) (fun v h' La hl hr=>?_);obtain⟨rfl,rfl,rfl⟩:=hr;clear hl;refine⟨_,rfl,?_⟩)|(refine CN.own 3 rfl rfl (Fn.wP (a7 _ Ab)) (fun v h' La hl hr=>?_);obtain⟨rfl,rfl,rfl⟩:=hr;clear hl;refine⟨_,rfl,?_⟩))|((first|apply oI.z|apply cI.z))|intro (_:Nat)|refine Sto.l 0 rfl rfl rfl ?_)<;>conv=>whnf)
 all_goals refine CN.par2 (A:=[_,_,_]) (B:=G) rfl (FnP.withPan (aQt _ Ab _ _ ts i _ _ t Ab ht hk)) (fun v h' Lp hl hr=>?_) (fun c h' Lp hl hs=>hs.elim)
 obtain⟨rfl,a,b,rfl,hv⟩:=hr;conv=>whnf
 repeat' ((first|((first|apply oI.z|apply cI.z))|refine LdN.o 2 rfl rfl ?_|refine Sto.l 2 rfl rfl rfl ?_)<;>conv=>whnf)
 all_goals exact RN.drop0 (RN.drop0 (RN.drop0 (RN.done ⟨aI3 t.text prs,i+1,cs,_,G,rfl,Aa,Aa,rfl,g,1,0,_,a,b,[],⟨none,0,0⟩,rfl,IsE.num hv⟩)))
theorem aQv(ts:List Tk)(bp:Nat)(s:Sl)(e:Nat)(h:aA)(i n:Nat)(cs:List Cn)(v:Value)(G:Own)(r:Pr Tr)(tb:Tb h)(w:dK h s ts)(hi:i<=ts.length)(hc:cs.length<=i)(g:aF Ty.syntax_count 4 v cs.length (cnc cs) G)(t:Tk)(ht:ts[i]?=some t)(hk:t.kind=2)(hp:some (Pr.ok (gA t.text) (i+1) cs)=some r):
  FnP T F.q285 [.pointer (some ⟨bp,0,none⟩)] h (Pst bp s i e v::G) (PQ ts bp s e VE r) fun c _ _=>PS ts e r c:=by
 cases hp
 have hj:=(bIr.1 ht).1;have ht8:=w.lt t (bIu ht);have n2:=fun h w=>aT2 h bp s ts i e v 2 t w hi (bB8 ht hk)
 refine fPC ok _ D.q285 rfl ?_;conv=>whnf
 repeat' ((first|(show CN _ _ _ _ _ _;(refine CN.own 1 rfl rfl (Fn.wP (n2 _ Ab)) (fun v h' La hl hr=>?_);obtain⟨rfl,rfl,rfl⟩:=hr;clear hl;refine⟨_,rfl,?_⟩))|((first|apply oI.z|apply cI.z))|intro (_:Nat)|refine LdN.o 1 rfl rfl ?_|refine Ld.o 0 rfl rfl ?_|(show Sto _ _ _ _;first|refine Sto.l 0 rfl rfl rfl ?_|refine Sto.l 1 rfl rfl rfl ?_))<;>conv=>whnf)
 all_goals exact RN.drop0 (RN.drop0 (RN.done ⟨gA t.text,i+1,cs,v,G,rfl,Aa,Aa,rfl,g,2,0,false,⟨none,0,0⟩,⟨none,0,0⟩,t.text,⟨none,0,0⟩,rfl,IsE.var ht8⟩))
theorem aQw(ts:List Tk)(bp:Nat)(s:Sl)(e:Nat)(h:aA)(i n:Nat)(cs:List Cn)(v:Value)(G:Own)(r:Pr Tr)(tb:Tb h)(w:dK h s ts)(hi:i<=ts.length)(hc:cs.length<=i)(g:aF Ty.syntax_count 4 v cs.length (cnc cs) G)(ihk:∀k:Nat,k<=3->PC F.q319 [.int .i64 k] (.kids k) VK n)(t:Tk)(ht:ts[i]?=some t)(hk:t.kind=3)(hp:(Pr.bnd (pp ts prs n (.kids 1) (i+1) cs) fun e i cs=>some (.ok (aG 11 (aDf t.text) e.kids) i cs))=some r):
  FnP T F.q285 [.pointer (some ⟨bp,0,none⟩)] h (Pst bp s i e v::G) (PQ ts bp s e VE r) fun c _ _=>PS ts e r c:=by
 have hj:=(bIr.1 ht).1;have ht8:=w.lt t (bIu ht);have hix:=aZt t.text;have n2:=fun h w=>gM h bp s ts i e v 2 w hi (jK ht Aa)
 have n3:=fun h w=>aT2 h bp s ts i e v 3 t w hi (bB8 ht hk)
 cases h1:pp ts prs n (.kids 1) (i+1) cs with
 | none=>rw[h1] at hp;cases hp
 | some r1=>
  rw[h1] at hp;have c1:=fun h tb w=>ihk 1 Aa ts bp s e h (i+1) cs v G r1 tb w Aa Aa g h1
  refine fPC ok _ D.q285 rfl ?_;conv=>whnf
  repeat' ((first|(show CN _ _ _ _ _ _;first|(refine CN.own 1 rfl rfl (Fn.wP (n2 _ Ab)) (fun v h' La hl hr=>?_);obtain⟨rfl,rfl,rfl⟩:=hr;clear hl;refine⟨_,rfl,?_⟩)|(refine CN.own 2 rfl rfl (Fn.wP (n3 _ Ab)) (fun v h' La hl hr=>?_);obtain⟨rfl,rfl,rfl⟩:=hr;clear hl;refine⟨_,rfl,?_⟩)|(refine CN.f rfl (Fn0.wP (aGf _ _ ht8)) (fun v h' hl hr=>?_);obtain rfl:=hr)|(refine CN.par (A:=[_,_,_]) rfl (FnP.withPan (c1 _ Af Aj)) (fun v h' Lp hl hr=>?_) (fun c h' Lp hl hs=>PS.bnd hp hs);obtain⟨tr2,i2,cs2,v2,G2,rfl,hi2,hc2,rfl,g2,ss2,rfl,hK2⟩:=hr)|refine CN.quiet rfl (Fn0.wP (rE _ _ _ ss2)) ?_)|((first|apply oI.z|apply cI.z))|intro (_:Nat)|refine LdN.o 2 rfl rfl ?_|refine Ld.o 0 rfl rfl ?_|(show Sto _ _ _ _;first|refine Sto.l 0 rfl rfl rfl ?_|refine Sto.l 2 rfl rfl rfl ?_))<;>conv=>whnf)
  all_goals exact RN.drop0 (RN.drop0 (RN.drop0 (RN.done ⟨aG 11 (aDf t.text) tr2.kids,i2,cs2,v2,G2,(Option.some.inj hp).symm,hi2,hc2,rfl,g2,VE.node Ae Aa hK2⟩)))
theorem aT4(ts:List Tk)(bp:Nat)(s:Sl)(e:Nat)(h:aA)(i n:Nat)(cs:List Cn)(v:Value)(G:Own)(r:Pr Tr)(tb:Tb h)(w:dK h s ts)(hi:i<=ts.length)(hc:cs.length<=i)(g:aF Ty.syntax_count 4 v cs.length (cnc cs) G)(t:Tk)(ht:ts[i]?=some t)(hk:t.kind=0)(hx:t.text=[112,105])(hp:some (Pr.ok (aG 3 0 []) (i+1) cs)=some r):
  FnP T F.q285 [.pointer (some ⟨bp,0,none⟩)] h (Pst bp s i e v::G) (PQ ts bp s e VE r) fun c _ _=>PS ts e r c:=by
 have hj:=(bIr.1 ht).1;have n2:=fun h w=>gM h bp s ts i e v 2 w hi (jK ht Aa)
 have n3:=fun h w=>gM h bp s ts i e v 3 w hi (jK ht Aa)
 have a0:=fun h w=>fR h bp s ts i e v [112,105] w Ae (sO ht hk hx)
 cases hp
 refine fPC ok _ D.q285 rfl ?_;conv=>whnf
 repeat' ((first|(show CN _ _ _ _ _ _;first|(refine CN.own 1 rfl rfl (Fn.wP (n2 _ Ab)) (fun v h' La hl hr=>?_);obtain⟨rfl,rfl,rfl⟩:=hr;clear hl;refine⟨_,rfl,?_⟩)|(refine CN.own 2 rfl rfl (Fn.wP (n3 _ Ab)) (fun v h' La hl hr=>?_);obtain⟨rfl,rfl,rfl⟩:=hr;clear hl;refine⟨_,rfl,?_⟩)|(refine CN.own 3 rfl rfl (Fn.wP (a0 _ Ab)) (fun v h' La hl hr=>?_);obtain⟨rfl,rfl,rfl⟩:=hr;clear hl;refine⟨_,rfl,?_⟩)|refine CN.quiet rfl (Fn0.wP (kZ _ _ _ none 0 0)) ?_)|((first|apply oI.z|apply cI.z))|intro (_:Nat)|refine LdN.o 2 rfl rfl ?_|(show Sto _ _ _ _;first|refine Sto.l 0 rfl rfl rfl ?_|refine Sto.l 2 rfl rfl rfl ?_))<;>conv=>whnf)
 all_goals exact RN.drop0 (RN.drop0 (RN.drop0 (RN.done ⟨aG 3 0 [],i+1,cs,v,G,rfl,Aa,Aa,rfl,g,VE.node Ae Ae (IsK.nil _)⟩)))
theorem aQx(ts:List Tk)(bp:Nat)(s:Sl)(e:Nat)(h:aA)(i n:Nat)(cs:List Cn)(v:Value)(G:Own)(r:Pr Tr)(tb:Tb h)(w:dK h s ts)(hi:i<=ts.length)(hc:cs.length<=i)(g:aF Ty.syntax_count 4 v cs.length (cnc cs) G)(ihe:PC F.q85 [] .sum VE n)(t:Tk)(ht:ts[i]?=some t)(hk:t.kind=0)(hx:t.text=[40])(hp:(Pr.bnd (pp ts prs n .sum (i+1) cs) fun e i cs=>Pr.bnd (iJ ts [41] i cs) fun _ i cs=>some (.ok e i cs))=some r):
  FnP T F.q285 [.pointer (some ⟨bp,0,none⟩)] h (Pst bp s i e v::G) (PQ ts bp s e VE r) fun c _ _=>PS ts e r c:=by
 have hj:=(bIr.1 ht).1;have n2:=fun h w=>gM h bp s ts i e v 2 w hi (jK ht Aa)
 have n3:=fun h w=>gM h bp s ts i e v 3 w hi (jK ht Aa)
 have a0:=fun h w=>aQ h bp s ts i e v [112,105] w hi Ae (dX ht (fun q=>absurd (hx.symm.trans q.2) Ae))
 have a1:=fun h w=>fR h bp s ts i e v [40] w Ae (sO ht hk hx)
 cases h1:pp ts prs n .sum (i+1) cs with
 | none=>rw[h1] at hp;cases hp
 | some r1=>
  rw[h1] at hp;have c1:=fun h tb w=>ihe ts bp s e h (i+1) cs v G r1 tb w Aa Aa g h1
  refine fPC ok _ D.q285 rfl ?_;conv=>whnf
  repeat' ((first|(show CN _ _ _ _ _ _;first|(refine CN.own 1 rfl rfl (Fn.wP (n2 _ Ab)) (fun v h' La hl hr=>?_);obtain⟨rfl,rfl,rfl⟩:=hr;clear hl;refine⟨_,rfl,?_⟩)|(refine CN.own 2 rfl rfl (Fn.wP (n3 _ Ab)) (fun v h' La hl hr=>?_);obtain⟨rfl,rfl,rfl⟩:=hr;clear hl;refine⟨_,rfl,?_⟩)|(refine CN.own 3 rfl rfl (Fn.wP (a0 _ Ab)) (fun v h' La hl hr=>?_);obtain⟨rfl,rfl,rfl⟩:=hr;clear hl;refine⟨_,rfl,?_⟩)|(refine CN.own 3 rfl rfl (Fn.wP (a1 _ Ab)) (fun v h' La hl hr=>?_);obtain⟨rfl,rfl,rfl⟩:=hr;clear hl;refine⟨_,rfl,?_⟩)|(refine CN.par (A:=[_,_,_]) rfl (FnP.withPan (c1 _ Ab Ab)) (fun v h' Lp hl hr=>?_) (fun c h' Lp hl hs=>PS.bnd hp hs);obtain⟨tr2,i2,cs2,v2,G2,rfl,hi2,hc2,rfl,g2,hv2⟩:=hr;obtain⟨op2,ar2,ng2,nn2,dd2,nm2,ss2,rfl,hE2⟩:=hv2))|((first|apply oI.z|apply cI.z))|intro (_:Nat)|refine Sto.l 0 rfl rfl rfl ?_)<;>conv=>whnf)
  replace hp:Pr.bnd (iJ ts [41] i2 cs2) (fun _ i cs=>some (.ok tr2 i cs))=some r:=hp
  have w1:=fun h w=>rD h bp s ts i2 e v2 [41] w hi2 Ae
  repeat' ((first|(show CN _ _ _ _ _ _;(refine CN.par2 (A:=[_,_,_,_]) (B:=G2) rfl (FnP.withPan (w1 _ Aj)) (fun v h' Lp hl hr=>?_) (fun c h' Lp hl hs=>PS.want hp hs);obtain⟨rfl,hq,rfl,rfl⟩:=hr;clear hl))|((first|apply oI.z|apply cI.z))|(show LdN _ _ _ _ _;first|refine LdN.o 0 rfl rfl ?_|refine LdN.o 3 rfl rfl ?_)|refine Sto.l 3 rfl rfl rfl ?_)<;>conv=>whnf)
  replace hp:=vJ hq hp;have hj2:=iG hq;exact RN.drop0 (RN.drop0 (RN.drop0 (RN.drop0 (RN.done ⟨tr2,i2+1,cs2,v2,G2,(Option.some.inj hp).symm,Aa,Aa,rfl,g2,op2,ar2,ng2,nn2,dd2,nm2,ss2,rfl,hE2⟩))))
theorem aQy(ts:List Tk)(bp:Nat)(s:Sl)(e:Nat)(h:aA)(i n:Nat)(cs:List Cn)(v:Value)(G:Own)(r:Pr Tr)(tb:Tb h)(w:dK h s ts)(hi:i<=ts.length)(hc:cs.length<=i)(g:aF Ty.syntax_count 4 v cs.length (cnc cs) G)(ihk:∀k:Nat,k<=3->PC F.q319 [.int .i64 k] (.kids k) VK n)(t:Tk)(ht:ts[i]?=some t)(hk:t.kind=0)(hx:t.text=[97,98,115])(hp:(Pr.bnd (pp ts prs n (.kids 1) (i+1) cs) fun e i cs=>some (.ok (aG 12 0 e.kids) i cs))=some r):
  FnP T F.q285 [.pointer (some ⟨bp,0,none⟩)] h (Pst bp s i e v::G) (PQ ts bp s e VE r) fun c _ _=>PS ts e r c:=by
 have hj:=(bIr.1 ht).1;have n2:=fun h w=>gM h bp s ts i e v 2 w hi (jK ht Aa)
 have n3:=fun h w=>gM h bp s ts i e v 3 w hi (jK ht Aa)
 have a0:=fun h w=>aQ h bp s ts i e v [112,105] w hi Ae (dX ht (fun q=>absurd (hx.symm.trans q.2) Ae))
 have a1:=fun h w=>aQ h bp s ts i e v [40] w hi Ae (dX ht (fun q=>absurd (hx.symm.trans q.2) Ae))
 have a2:=fun h w=>fR h bp s ts i e v [97,98,115] w Ae (sO ht hk hx)
 cases h1:pp ts prs n (.kids 1) (i+1) cs with
 | none=>rw[h1] at hp;cases hp
 | some r1=>
  rw[h1] at hp;have c1:=fun h tb w=>ihk 1 Aa ts bp s e h (i+1) cs v G r1 tb w Aa Aa g h1
  refine fPC ok _ D.q285 rfl ?_;conv=>whnf
  repeat' ((first|(show CN _ _ _ _ _ _;first|(refine CN.own 1 rfl rfl (Fn.wP (n2 _ Ab)) (fun v h' La hl hr=>?_);obtain⟨rfl,rfl,rfl⟩:=hr;clear hl;refine⟨_,rfl,?_⟩)|(refine CN.own 2 rfl rfl (Fn.wP (n3 _ Ab)) (fun v h' La hl hr=>?_);obtain⟨rfl,rfl,rfl⟩:=hr;clear hl;refine⟨_,rfl,?_⟩)|(refine CN.own 3 rfl rfl (Fn.wP (a0 _ Ab)) (fun v h' La hl hr=>?_);obtain⟨rfl,rfl,rfl⟩:=hr;clear hl;refine⟨_,rfl,?_⟩)|(refine CN.own 3 rfl rfl (Fn.wP (a1 _ Ab)) (fun v h' La hl hr=>?_);obtain⟨rfl,rfl,rfl⟩:=hr;clear hl;refine⟨_,rfl,?_⟩)|(refine CN.own 3 rfl rfl (Fn.wP (a2 _ Ab)) (fun v h' La hl hr=>?_);obtain⟨rfl,rfl,rfl⟩:=hr;clear hl;refine⟨_,rfl,?_⟩)|(refine CN.par (A:=[_,_,_]) rfl (FnP.withPan (c1 _ Ab Ab)) (fun v h' Lp hl hr=>?_) (fun c h' Lp hl hs=>PS.bnd hp hs);obtain⟨tr2,i2,cs2,v2,G2,rfl,hi2,hc2,rfl,g2,ss2,rfl,hK2⟩:=hr)|refine CN.quiet rfl (Fn0.wP (rE _ _ _ ss2)) ?_)|((first|apply oI.z|apply cI.z))|intro (_:Nat)|refine LdN.o 2 rfl rfl ?_|(show Sto _ _ _ _;first|refine Sto.l 0 rfl rfl rfl ?_|refine Sto.l 2 rfl rfl rfl ?_))<;>conv=>whnf)
  all_goals exact RN.drop0 (RN.drop0 (RN.drop0 (RN.done ⟨aG 12 0 tr2.kids,i2,cs2,v2,G2,(Option.some.inj hp).symm,hi2,hc2,rfl,g2,VE.node Ae Ae hK2⟩)))
theorem aMc(ts:List Tk)(bp:Nat)(s:Sl)(e:Nat)(h:aA)(i n:Nat)(cs:List Cn)(v:Value)(G:Own)(r:Pr Tr)(tb:Tb h)(w:dK h s ts)(hi:i<=ts.length)(hc:cs.length<=i)(g:aF Ty.syntax_count 4 v cs.length (cnc cs) G)(ihk:∀k:Nat,k<=3->PC F.q319 [.int .i64 k] (.kids k) VK n)(t:Tk)(ht:ts[i]?=some t)(hk:t.kind=0)(hx:t.text=[115,113,114,116])(hp:(Pr.bnd (pp ts prs n (.kids 1) (i+1) cs) fun e i cs=>some (.ok (aG 10 2 e.kids) i cs))=some r):
  FnP T F.q285 [.pointer (some ⟨bp,0,none⟩)] h (Pst bp s i e v::G) (PQ ts bp s e VE r) fun c _ _=>PS ts e r c:=by
 have hj:=(bIr.1 ht).1;have n2:=fun h w=>gM h bp s ts i e v 2 w hi (jK ht Aa)
 have n3:=fun h w=>gM h bp s ts i e v 3 w hi (jK ht Aa)
 have a0:=fun h w=>aQ h bp s ts i e v [112,105] w hi Ae (dX ht (fun q=>absurd (hx.symm.trans q.2) Ae))
 have a1:=fun h w=>aQ h bp s ts i e v [40] w hi Ae (dX ht (fun q=>absurd (hx.symm.trans q.2) Ae))
 have a2:=fun h w=>aQ h bp s ts i e v [97,98,115] w hi Ae (dX ht (fun q=>absurd (hx.symm.trans q.2) Ae))
 have a3:=fun h w=>fR h bp s ts i e v [115,113,114,116] w Ae (sO ht hk hx)
 cases h1:pp ts prs n (.kids 1) (i+1) cs with
 | none=>rw[h1] at hp;cases hp
 | some r1=>
  rw[h1] at hp;have c1:=fun h tb w=>ihk 1 Aa ts bp s e h (i+1) cs v G r1 tb w Aa Aa g h1
  refine fPC ok _ D.q285 rfl ?_;conv=>whnf
  repeat' ((first|(show CN _ _ _ _ _ _;first|(refine CN.own 1 rfl rfl (Fn.wP (n2 _ Ab)) (fun v h' La hl hr=>?_);obtain⟨rfl,rfl,rfl⟩:=hr;clear hl;refine⟨_,rfl,?_⟩)|(refine CN.own 2 rfl rfl (Fn.wP (n3 _ Ab)) (fun v h' La hl hr=>?_);obtain⟨rfl,rfl,rfl⟩:=hr;clear hl;refine⟨_,rfl,?_⟩)|(refine CN.own 3 rfl rfl (Fn.wP (a0 _ Ab)) (fun v h' La hl hr=>?_);obtain⟨rfl,rfl,rfl⟩:=hr;clear hl;refine⟨_,rfl,?_⟩)|(refine CN.own 3 rfl rfl (Fn.wP (a1 _ Ab)) (fun v h' La hl hr=>?_);obtain⟨rfl,rfl,rfl⟩:=hr;clear hl;refine⟨_,rfl,?_⟩)|(refine CN.own 3 rfl rfl (Fn.wP (a2 _ Ab)) (fun v h' La hl hr=>?_);obtain⟨rfl,rfl,rfl⟩:=hr;clear hl;refine⟨_,rfl,?_⟩)|(refine CN.own 3 rfl rfl (Fn.wP (a3 _ Ab)) (fun v h' La hl hr=>?_);obtain⟨rfl,rfl,rfl⟩:=hr;clear hl;refine⟨_,rfl,?_⟩)|(refine CN.par (A:=[_,_,_]) rfl (FnP.withPan (c1 _ Ab Ab)) (fun v h' Lp hl hr=>?_) (fun c h' Lp hl hs=>PS.bnd hp hs);obtain⟨tr2,i2,cs2,v2,G2,rfl,hi2,hc2,rfl,g2,ss2,rfl,hK2⟩:=hr)|refine CN.quiet rfl (Fn0.wP (rE _ _ _ ss2)) ?_)|((first|apply oI.z|apply cI.z))|intro (_:Nat)|refine LdN.o 2 rfl rfl ?_|(show Sto _ _ _ _;first|refine Sto.l 0 rfl rfl rfl ?_|refine Sto.l 2 rfl rfl rfl ?_))<;>conv=>whnf)
  all_goals exact RN.drop0 (RN.drop0 (RN.drop0 (RN.done ⟨aG 10 2 tr2.kids,i2,cs2,v2,G2,(Option.some.inj hp).symm,hi2,hc2,rfl,g2,VE.node Ae Ae hK2⟩)))
theorem aQz(ts:List Tk)(bp:Nat)(s:Sl)(e:Nat)(h:aA)(i n:Nat)(cs:List Cn)(v:Value)(G:Own)(r:Pr Tr)(tb:Tb h)(w:dK h s ts)(hi:i<=ts.length)(hc:cs.length<=i)(g:aF Ty.syntax_count 4 v cs.length (cnc cs) G)(ihk:∀k:Nat,k<=3->PC F.q319 [.int .i64 k] (.kids k) VK n)(t:Tk)(ht:ts[i]?=some t)(hk:t.kind=0)(hx:t.text=[109,105,110])(hp:(Pr.bnd (pp ts prs n (.kids 2) (i+1) cs) fun e i cs=>some (.ok (aG 13 0 e.kids) i cs))=some r):
  FnP T F.q285 [.pointer (some ⟨bp,0,none⟩)] h (Pst bp s i e v::G) (PQ ts bp s e VE r) fun c _ _=>PS ts e r c:=by
 have hj:=(bIr.1 ht).1;have n2:=fun h w=>gM h bp s ts i e v 2 w hi (jK ht Aa)
 have n3:=fun h w=>gM h bp s ts i e v 3 w hi (jK ht Aa)
 have a0:=fun h w=>aQ h bp s ts i e v [112,105] w hi Ae (dX ht (fun q=>absurd (hx.symm.trans q.2) Ae))
 have a1:=fun h w=>aQ h bp s ts i e v [40] w hi Ae (dX ht (fun q=>absurd (hx.symm.trans q.2) Ae))
 have a2:=fun h w=>aQ h bp s ts i e v [97,98,115] w hi Ae (dX ht (fun q=>absurd (hx.symm.trans q.2) Ae))
 have a3:=fun h w=>aQ h bp s ts i e v [115,113,114,116] w hi Ae (dX ht (fun q=>absurd (hx.symm.trans q.2) Ae))
 have a4:=fun h w=>fR h bp s ts i e v [109,105,110] w Ae (sO ht hk hx)
 cases h1:pp ts prs n (.kids 2) (i+1) cs with
 | none=>rw[h1] at hp;cases hp
 | some r1=>
  rw[h1] at hp;have c1:=fun h tb w=>ihk 2 Aa ts bp s e h (i+1) cs v G r1 tb w Aa Aa g h1
  refine fPC ok _ D.q285 rfl ?_;conv=>whnf
  repeat' ((first|(show CN _ _ _ _ _ _;first|(refine CN.own 1 rfl rfl (Fn.wP (n2 _ Ab)) (fun v h' La hl hr=>?_);obtain⟨rfl,rfl,rfl⟩:=hr;clear hl;refine⟨_,rfl,?_⟩)|(refine CN.own 2 rfl rfl (Fn.wP (n3 _ Ab)) (fun v h' La hl hr=>?_);obtain⟨rfl,rfl,rfl⟩:=hr;clear hl;refine⟨_,rfl,?_⟩)|(refine CN.own 3 rfl rfl (Fn.wP (a0 _ Ab)) (fun v h' La hl hr=>?_);obtain⟨rfl,rfl,rfl⟩:=hr;clear hl;refine⟨_,rfl,?_⟩)|(refine CN.own 3 rfl rfl (Fn.wP (a1 _ Ab)) (fun v h' La hl hr=>?_);obtain⟨rfl,rfl,rfl⟩:=hr;clear hl;refine⟨_,rfl,?_⟩)|(refine CN.own 3 rfl rfl (Fn.wP (a2 _ Ab)) (fun v h' La hl hr=>?_);obtain⟨rfl,rfl,rfl⟩:=hr;clear hl;refine⟨_,rfl,?_⟩)|(refine CN.own 3 rfl rfl (Fn.wP (a3 _ Ab)) (fun v h' La hl hr=>?_);obtain⟨rfl,rfl,rfl⟩:=hr;clear hl;refine⟨_,rfl,?_⟩)|(refine CN.own 3 rfl rfl (Fn.wP (a4 _ Ab)) (fun v h' La hl hr=>?_);obtain⟨rfl,rfl,rfl⟩:=hr;clear hl;refine⟨_,rfl,?_⟩)|(refine CN.par (A:=[_,_,_]) rfl (FnP.withPan (c1 _ Ab Ab)) (fun v h' Lp hl hr=>?_) (fun c h' Lp hl hs=>PS.bnd hp hs);obtain⟨tr2,i2,cs2,v2,G2,rfl,hi2,hc2,rfl,g2,ss2,rfl,hK2⟩:=hr)|refine CN.quiet rfl (Fn0.wP (rE _ _ _ ss2)) ?_)|((first|apply oI.z|apply cI.z))|intro (_:Nat)|refine LdN.o 2 rfl rfl ?_|(show Sto _ _ _ _;first|refine Sto.l 0 rfl rfl rfl ?_|refine Sto.l 2 rfl rfl rfl ?_))<;>conv=>whnf)
  all_goals exact RN.drop0 (RN.drop0 (RN.drop0 (RN.done ⟨aG 13 0 tr2.kids,i2,cs2,v2,G2,(Option.some.inj hp).symm,hi2,hc2,rfl,g2,VE.node Ae Ae hK2⟩)))
theorem aQ0(ts:List Tk)(bp:Nat)(s:Sl)(e:Nat)(h:aA)(i n:Nat)(cs:List Cn)(v:Value)(G:Own)(r:Pr Tr)(tb:Tb h)(w:dK h s ts)(hi:i<=ts.length)(hc:cs.length<=i)(g:aF Ty.syntax_count 4 v cs.length (cnc cs) G)(ihk:∀k:Nat,k<=3->PC F.q319 [.int .i64 k] (.kids k) VK n)(t:Tk)(ht:ts[i]?=some t)(hk:t.kind=0)(hx:t.text=[109,97,120])(hp:(Pr.bnd (pp ts prs n (.kids 2) (i+1) cs) fun e i cs=>some (.ok (aG 14 0 e.kids) i cs))=some r):
  FnP T F.q285 [.pointer (some ⟨bp,0,none⟩)] h (Pst bp s i e v::G) (PQ ts bp s e VE r) fun c _ _=>PS ts e r c:=by
 have hj:=(bIr.1 ht).1;have n2:=fun h w=>gM h bp s ts i e v 2 w hi (jK ht Aa)
 have n3:=fun h w=>gM h bp s ts i e v 3 w hi (jK ht Aa)
 have a0:=fun h w=>aQ h bp s ts i e v [112,105] w hi Ae (dX ht (fun q=>absurd (hx.symm.trans q.2) Ae))
 have a1:=fun h w=>aQ h bp s ts i e v [40] w hi Ae (dX ht (fun q=>absurd (hx.symm.trans q.2) Ae))
 have a2:=fun h w=>aQ h bp s ts i e v [97,98,115] w hi Ae (dX ht (fun q=>absurd (hx.symm.trans q.2) Ae))
 have a3:=fun h w=>aQ h bp s ts i e v [115,113,114,116] w hi Ae (dX ht (fun q=>absurd (hx.symm.trans q.2) Ae))
 have a4:=fun h w=>aQ h bp s ts i e v [109,105,110] w hi Ae (dX ht (fun q=>absurd (hx.symm.trans q.2) Ae))
 have a5:=fun h w=>fR h bp s ts i e v [109,97,120] w Ae (sO ht hk hx)
 cases h1:pp ts prs n (.kids 2) (i+1) cs with
 | none=>rw[h1] at hp;cases hp
 | some r1=>
  rw[h1] at hp;have c1:=fun h tb w=>ihk 2 Aa ts bp s e h (i+1) cs v G r1 tb w Aa Aa g h1
  refine fPC ok _ D.q285 rfl ?_;conv=>whnf
  repeat' ((first|(show CN _ _ _ _ _ _;first|(refine CN.own 1 rfl rfl (Fn.wP (n2 _ Ab)) (fun v h' La hl hr=>?_);obtain⟨rfl,rfl,rfl⟩:=hr;clear hl;refine⟨_,rfl,?_⟩)|(refine CN.own 2 rfl rfl (Fn.wP (n3 _ Ab)) (fun v h' La hl hr=>?_);obtain⟨rfl,rfl,rfl⟩:=hr;clear hl;refine⟨_,rfl,?_⟩)|(refine CN.own 3 rfl rfl (Fn.wP (a0 _ Ab)) (fun v h' La hl hr=>?_);obtain⟨rfl,rfl,rfl⟩:=hr;clear hl;refine⟨_,rfl,?_⟩)|(refine CN.own 3 rfl rfl (Fn.wP (a1 _ Ab)) (fun v h' La hl hr=>?_);obtain⟨rfl,rfl,rfl⟩:=hr;clear hl;refine⟨_,rfl,?_⟩)|(refine CN.own 3 rfl rfl (Fn.wP (a2 _ Ab)) (fun v h' La hl hr=>?_);obtain⟨rfl,rfl,rfl⟩:=hr;clear hl;refine⟨_,rfl,?_⟩)|(refine CN.own 3 rfl rfl (Fn.wP (a3 _ Ab)) (fun v h' La hl hr=>?_);obtain⟨rfl,rfl,rfl⟩:=hr;clear hl;refine⟨_,rfl,?_⟩)|(refine CN.own 3 rfl rfl (Fn.wP (a4 _ Ab)) (fun v h' La hl hr=>?_);obtain⟨rfl,rfl,rfl⟩:=hr;clear hl;refine⟨_,rfl,?_⟩)|(refine CN.own 3 rfl rfl (Fn.wP (a5 _ Ab)) (fun v h' La hl hr=>?_);obtain⟨rfl,rfl,rfl⟩:=hr;clear hl;refine⟨_,rfl,?_⟩)|(refine CN.par (A:=[_,_,_]) rfl (FnP.withPan (c1 _ Ab Ab)) (fun v h' Lp hl hr=>?_) (fun c h' Lp hl hs=>PS.bnd hp hs);obtain⟨tr2,i2,cs2,v2,G2,rfl,hi2,hc2,rfl,g2,ss2,rfl,hK2⟩:=hr)|refine CN.quiet rfl (Fn0.wP (rE _ _ _ ss2)) ?_)|((first|apply oI.z|apply cI.z))|intro (_:Nat)|refine LdN.o 2 rfl rfl ?_|(show Sto _ _ _ _;first|refine Sto.l 0 rfl rfl rfl ?_|refine Sto.l 2 rfl rfl rfl ?_))<;>conv=>whnf)
  all_goals exact RN.drop0 (RN.drop0 (RN.drop0 (RN.done ⟨aG 14 0 tr2.kids,i2,cs2,v2,G2,(Option.some.inj hp).symm,hi2,hc2,rfl,g2,VE.node Ae Ae hK2⟩)))
theorem aT5(ts:List Tk)(bp:Nat)(s:Sl)(e:Nat)(h:aA)(i n:Nat)(cs:List Cn)(v:Value)(G:Own)(r:Pr Tr)(tb:Tb h)(w:dK h s ts)(hi:i<=ts.length)(hc:cs.length<=i)(g:aF Ty.syntax_count 4 v cs.length (cnc cs) G)(ihk:∀k:Nat,k<=3->PC F.q319 [.int .i64 k] (.kids k) VK n)(t:Tk)(ht:ts[i]?=some t)(hk:t.kind=0)(hx:t.text=[105,102])(hp:(Pr.bnd (pp ts prs n (.kids 3) (i+1) cs) fun e i cs=>some (.ok (aG 15 0 e.kids) i cs))=some r):
  FnP T F.q285 [.pointer (some ⟨bp,0,none⟩)] h (Pst bp s i e v::G) (PQ ts bp s e VE r) fun c _ _=>PS ts e r c:=by
 have hj:=(bIr.1 ht).1;have n2:=fun h w=>gM h bp s ts i e v 2 w hi (jK ht Aa)
 have n3:=fun h w=>gM h bp s ts i e v 3 w hi (jK ht Aa)
 have a0:=fun h w=>aQ h bp s ts i e v [112,105] w hi Ae (dX ht (fun q=>absurd (hx.symm.trans q.2) Ae))
 have a1:=fun h w=>aQ h bp s ts i e v [40] w hi Ae (dX ht (fun q=>absurd (hx.symm.trans q.2) Ae))
 have a2:=fun h w=>aQ h bp s ts i e v [97,98,115] w hi Ae (dX ht (fun q=>absurd (hx.symm.trans q.2) Ae))
 have a3:=fun h w=>aQ h bp s ts i e v [115,113,114,116] w hi Ae (dX ht (fun q=>absurd (hx.symm.trans q.2) Ae))
 have a4:=fun h w=>aQ h bp s ts i e v [109,105,110] w hi Ae (dX ht (fun q=>absurd (hx.symm.trans q.2) Ae))
 have a5:=fun h w=>aQ h bp s ts i e v [109,97,120] w hi Ae (dX ht (fun q=>absurd (hx.symm.trans q.2) Ae))
 have a6:=fun h w=>fR h bp s ts i e v [105,102] w Ae (sO ht hk hx)
 cases h1:pp ts prs n (.kids 3) (i+1) cs with
 | none=>rw[h1] at hp;cases hp
 | some r1=>
  rw[h1] at hp;have c1:=fun h tb w=>ihk 3 Aa ts bp s e h (i+1) cs v G r1 tb w Aa Aa g h1
  refine fPC ok _ D.q285 rfl ?_;conv=>whnf
  repeat' ((first|(show CN _ _ _ _ _ _;first|(refine CN.own 1 rfl rfl (Fn.wP (n2 _ Ab)) (fun v h' La hl hr=>?_);obtain⟨rfl,rfl,rfl⟩:=hr;clear hl;refine⟨_,rfl,?_⟩)|(refine CN.own 2 rfl rfl (Fn.wP (n3 _ Ab)) (fun v h' La hl hr=>?_);obtain⟨rfl,rfl,rfl⟩:=hr;clear hl;refine⟨_,rfl,?_⟩)|(refine CN.own 3 rfl rfl (Fn.wP (a0 _ Ab)) (fun v h' La hl hr=>?_);obtain⟨rfl,rfl,rfl⟩:=hr;clear hl;refine⟨_,rfl,?_⟩)|(refine CN.own 3 rfl rfl (Fn.wP (a1 _ Ab)) (fun v h' La hl hr=>?_);obtain⟨rfl,rfl,rfl⟩:=hr;clear hl;refine⟨_,rfl,?_⟩)|(refine CN.own 3 rfl rfl (Fn.wP (a2 _ Ab)) (fun v h' La hl hr=>?_);obtain⟨rfl,rfl,rfl⟩:=hr;clear hl;refine⟨_,rfl,?_⟩)|(refine CN.own 3 rfl rfl (Fn.wP (a3 _ Ab)) (fun v h' La hl hr=>?_);obtain⟨rfl,rfl,rfl⟩:=hr;clear hl;refine⟨_,rfl,?_⟩)|(refine CN.own 3 rfl rfl (Fn.wP (a4 _ Ab)) (fun v h' La hl hr=>?_);obtain⟨rfl,rfl,rfl⟩:=hr;clear hl;refine⟨_,rfl,?_⟩)|(refine CN.own 3 rfl rfl (Fn.wP (a5 _ Ab)) (fun v h' La hl hr=>?_);obtain⟨rfl,rfl,rfl⟩:=hr;clear hl;refine⟨_,rfl,?_⟩)|(refine CN.own 3 rfl rfl (Fn.wP (a6 _ Ab)) (fun v h' La hl hr=>?_);obtain⟨rfl,rfl,rfl⟩:=hr;clear hl;refine⟨_,rfl,?_⟩)|(refine CN.par (A:=[_,_,_]) rfl (FnP.withPan (c1 _ Ab Ab)) (fun v h' Lp hl hr=>?_) (fun c h' Lp hl hs=>PS.bnd hp hs);obtain⟨tr2,i2,cs2,v2,G2,rfl,hi2,hc2,rfl,g2,ss2,rfl,hK2⟩:=hr)|refine CN.quiet rfl (Fn0.wP (rE _ _ _ ss2)) ?_)|((first|apply oI.z|apply cI.z))|intro (_:Nat)|refine LdN.o 2 rfl rfl ?_|(show Sto _ _ _ _;first|refine Sto.l 0 rfl rfl rfl ?_|refine Sto.l 2 rfl rfl rfl ?_))<;>conv=>whnf)
  all_goals exact RN.drop0 (RN.drop0 (RN.drop0 (RN.done ⟨aG 15 0 tr2.kids,i2,cs2,v2,G2,(Option.some.inj hp).symm,hi2,hc2,rfl,g2,VE.node Ae Ae hK2⟩)))
theorem aMd(ts:List Tk)(bp:Nat)(s:Sl)(e:Nat)(h:aA)(i n:Nat)(cs:List Cn)(v:Value)(G:Own)(r:Pr Tr)(tb:Tb h)(w:dK h s ts)(hi:i<=ts.length)(hc:cs.length<=i)(g:aF Ty.syntax_count 4 v cs.length (cnc cs) G)(ihe:PC F.q85 [] .sum VE n)(t:Tk)(ht:ts[i]?=some t)(hk:t.kind=0)(hx:t.text=[114,111,111,116])(hp:(Pr.bnd (iJ ts [40] (i+1) cs) fun _ i cs=>Pr.bnd (some (rC ts 2 8 i cs)) fun k i cs=>Pr.bnd (iJ ts [44] i cs) fun _ i cs=>Pr.bnd (pp ts prs n .sum i cs) fun e i cs=>Pr.bnd (iJ ts [41] i cs) fun _ i cs=>some (.ok (aG 10 k [e]) i cs))=some r):
  FnP T F.q285 [.pointer (some ⟨bp,0,none⟩)] h (Pst bp s i e v::G) (PQ ts bp s e VE r) fun c _ _=>PS ts e r c:=by
 have hj:=(bIr.1 ht).1;have n2:=fun h w=>gM h bp s ts i e v 2 w hi (jK ht Aa)
 have n3:=fun h w=>gM h bp s ts i e v 3 w hi (jK ht Aa)
 have a0:=fun h w=>aQ h bp s ts i e v [112,105] w hi Ae (dX ht (fun q=>absurd (hx.symm.trans q.2) Ae))
 have a1:=fun h w=>aQ h bp s ts i e v [40] w hi Ae (dX ht (fun q=>absurd (hx.symm.trans q.2) Ae))
 have a2:=fun h w=>aQ h bp s ts i e v [97,98,115] w hi Ae (dX ht (fun q=>absurd (hx.symm.trans q.2) Ae))
 have a3:=fun h w=>aQ h bp s ts i e v [115,113,114,116] w hi Ae (dX ht (fun q=>absurd (hx.symm.trans q.2) Ae))
 have a4:=fun h w=>aQ h bp s ts i e v [109,105,110] w hi Ae (dX ht (fun q=>absurd (hx.symm.trans q.2) Ae))
 have a5:=fun h w=>aQ h bp s ts i e v [109,97,120] w hi Ae (dX ht (fun q=>absurd (hx.symm.trans q.2) Ae))
 have a6:=fun h w=>aQ h bp s ts i e v [105,102] w hi Ae (dX ht (fun q=>absurd (hx.symm.trans q.2) Ae))
 have a7:=fun h w=>fR h bp s ts i e v [114,111,111,116] w Ae (sO ht hk hx)
 have w1:=fun h w=>rD h bp s ts (i+1) e v [40] w Aa Ae
 refine fPC ok _ D.q285 rfl ?_;conv=>whnf
 repeat' ((first|(show CN _ _ _ _ _ _;first|(refine CN.own 1 rfl rfl (Fn.wP (n2 _ Ab)) (fun v h' La hl hr=>?_);obtain⟨rfl,rfl,rfl⟩:=hr;clear hl;refine⟨_,rfl,?_⟩)|(refine CN.own 2 rfl rfl (Fn.wP (n3 _ Ab)) (fun v h' La hl hr=>?_);obtain⟨rfl,rfl,rfl⟩:=hr;clear hl;refine⟨_,rfl,?_⟩)|(refine CN.own 3 rfl rfl (Fn.wP (a0 _ Ab)) (fun v h' La hl hr=>?_);obtain⟨rfl,rfl,rfl⟩:=hr;clear hl;refine⟨_,rfl,?_⟩)|(refine CN.own 3 rfl rfl (Fn.wP (a1 _ Ab)) (fun v h' La hl hr=>?_);obtain⟨rfl,rfl,rfl⟩:=hr;clear hl;refine⟨_,rfl,?_⟩)|(refine CN.own 3 rfl rfl (Fn.wP (a2 _ Ab)) (fun v h' La hl hr=>?_);obtain⟨rfl,rfl,rfl⟩:=hr;clear hl;refine⟨_,rfl,?_⟩)|(refine CN.own 3 rfl rfl (Fn.wP (a3 _ Ab)) (fun v h' La hl hr=>?_);obtain⟨rfl,rfl,rfl⟩:=hr;clear hl;refine⟨_,rfl,?_⟩)|(refine CN.own 3 rfl rfl (Fn.wP (a4 _ Ab)) (fun v h' La hl hr=>?_);obtain⟨rfl,rfl,rfl⟩:=hr;clear hl;refine⟨_,rfl,?_⟩)|(refine CN.own 3 rfl rfl (Fn.wP (a5 _ Ab)) (fun v h' La hl hr=>?_);obtain⟨rfl,rfl,rfl⟩:=hr;clear hl;refine⟨_,rfl,?_⟩)|(refine CN.own 3 rfl rfl (Fn.wP (a6 _ Ab)) (fun v h' La hl hr=>?_);obtain⟨rfl,rfl,rfl⟩:=hr;clear hl;refine⟨_,rfl,?_⟩)|(refine CN.own 3 rfl rfl (Fn.wP (a7 _ Ab)) (fun v h' La hl hr=>?_);obtain⟨rfl,rfl,rfl⟩:=hr;clear hl;refine⟨_,rfl,?_⟩)|(refine CN.par2 (A:=[_,_,_]) (B:=G) rfl (FnP.withPan (w1 _ Ab)) (fun v h' Lp hl hr=>?_) (fun c h' Lp hl hs=>PS.want hp hs);obtain⟨rfl,hq,rfl,rfl⟩:=hr;clear hl))|((first|apply oI.z|apply cI.z))|intro (_:Nat)|refine Sto.l 0 rfl rfl rfl ?_)<;>conv=>whnf)
 replace hp:=vJ hq hp;have hj2:=iG hq;clear hq w1;have c2:=fun h w=>aBs h bp s ts (i+2) e v cs G 2 8 w Aa g Aa Aa
 repeat' ((first|(show CN _ _ _ _ _ _;(refine CN.par (A:=[_,_,_]) rfl (FnP.withPan (c2 _ Ab)) (fun v h' Lp hl hr=>?_) (fun c h' Lp hl hs=>PS.bnd hp ⟨_,hs⟩);obtain⟨rfl,k,cs3,v3,G3,e3,hi3,hl3,rfl,g3,rfl,hk⟩:=hr;clear hl))|((first|apply oI.z|apply cI.z)))<;>conv=>whnf)
 clear c2;rw[e3] at hp;replace hp:=(show Pr.bnd (iJ ts [44] (i+3) cs3) _=some r from hp);have w1:=fun h w=>rD h bp s ts (i+3) e v3 [44] w Aa Ae
 repeat' ((first|(show CN _ _ _ _ _ _;(refine CN.par2 (A:=[_,_,_]) (B:=G3) rfl (FnP.withPan (w1 _ Ab)) (fun v h' Lp hl hr=>?_) (fun c h' Lp hl hs=>PS.want hp hs);obtain⟨rfl,hq,rfl,rfl⟩:=hr;clear hl))|((first|apply oI.z|apply cI.z)))<;>conv=>whnf)
 replace hp:=vJ hq hp;have hj3:=iG hq;clear hq w1;cases h1:pp ts prs n .sum (i+3+1) cs3 with
 | none=>rw[h1] at hp;cases hp
 | some r1=>
  rw[h1] at hp;have c1:=fun h tb w=>ihe ts bp s e h (i+3+1) cs3 v3 G3 r1 tb w Aa Aa g3 h1
  repeat' ((first|(show CN _ _ _ _ _ _;(refine CN.par (A:=[_,_,_]) rfl (FnP.withPan (c1 _ Ab Ab)) (fun v h' Lp hl hr=>?_) (fun c h' Lp hl hs=>PS.bnd hp hs);obtain⟨tr2,i2,cs2,v2,G2,rfl,hi2,hc2,rfl,g2,hv2⟩:=hr;obtain⟨op2,ar2,ng2,nn2,dd2,nm2,ss2,rfl,hE2⟩:=hv2))|((first|apply oI.z|apply cI.z))|intro (_:Nat)|refine Sto.l 0 rfl rfl rfl ?_)<;>conv=>whnf)
  replace hp:Pr.bnd (iJ ts [41] i2 cs2) (fun _ i cs=>some (.ok (aG 10 k [tr2]) i cs))=some r:=hp
  have w1:=fun h w=>rD h bp s ts i2 e v2 [41] w hi2 Ae
  repeat' ((first|(show CN _ _ _ _ _ _;first|(refine CN.par2 (A:=[_,_,_,_]) (B:=G2) rfl (FnP.withPan (w1 _ Aj)) (fun v h' Lp hl hr=>?_) (fun c h' Lp hl hs=>PS.want hp hs);obtain⟨rfl,hq,rfl,rfl⟩:=hr;clear hl)|(refine CN.keep 0 rfl rfl fun hle=>?_;refine CN.quiet rfl (Fn0.wP (kZ _ _ _ _ _ _)) ?_))|((first|apply oI.z|apply cI.z))|intro (_:Nat)|(show LdN _ _ _ _ _;first|refine LdN.o 0 rfl rfl ?_|refine LdN.o 3 rfl rfl ?_)|refine Sto.l 3 rfl rfl rfl ?_)<;>conv=>whnf)
  replace hp:=vJ hq hp;have hj4:=iG hq;exact RN.drop0 (RN.drop0 (RN.drop0 (RN.drop0 (RN.done ⟨aG 10 k [tr2],i2+1,cs2,v2,G2,(Option.some.inj hp).symm,Aa,Aa,rfl,g2,VE.node Ae Aa (IsK.one hE2 rfl hle)⟩))))
end Go.Proofs.Y