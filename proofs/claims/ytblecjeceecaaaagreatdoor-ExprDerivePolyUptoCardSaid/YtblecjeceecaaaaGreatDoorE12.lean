/- The parser's functions, by steps: atoms. -/
import Derived.Test.YtblecjeceecaaaaGreatDoorE11
set_option linter.all false
set_option maxHeartbeats 2000000
set_option maxRecDepth 20000
namespace Go.Proofs.Y
open Go Go.Vc Go.Dig
theorem gM(h:aA)(bp:Nat)(s:Sl)(ts:List Tk)(i e:Nat)(v:Value)(kd:Nat)(w:dK h s ts)(hi:i<=ts.length)(hN:mK ts kd i=none):Vc.Fn T F.q318 [.pointer (some ⟨bp,0,none⟩),.int .i64 kd] h [Pst bp s i e v] fun r h' L'=>L'=[Pst bp s i e v]/\h'=h/\r=.tuple #[.agg #[.int .i64 0,.string (txt []),.int .i64 0],.bool false]:=by
 have:=wV h bp s ts i e v kd w hi;rw[hN] at this;exact this
theorem aT2(h:aA)(bp:Nat)(s:Sl)(ts:List Tk)(i e:Nat)(v:Value)(kd:Nat)(t:Tk)(w:dK h s ts)(hi:i<=ts.length)(hN:mK ts kd i=some t):Vc.Fn T F.q318 [.pointer (some ⟨bp,0,none⟩),.int .i64 kd] h [Pst bp s i e v] fun r h' L'=>L'=[Pst bp s (i+1) e v]/\h'=h/\r=.tuple #[.agg #[.int .i64 t.kind,.string (txt t.text),.int .i64 t.pos],.bool true]:=by
 have:=wV h bp s ts i e v kd w hi;rw[hN] at this;exact this
theorem bB8{ts:List Tk}{i kd:Nat}{t:Tk}(ht:ts[i]?=some t)(hk:t.kind=kd):mK ts kd i=some t:=by
 unfold mK;rw[ht];simp[hk]
theorem jK{ts:List Tk}{i kd:Nat}{t:Tk}(ht:ts[i]?=some t)(hk:t.kind≠kd):mK ts kd i=none:=by
 unfold mK;rw[ht];simp[hk]
theorem aT3{ts:List Tk}{i kd:Nat}(ht:ts[i]?=none):mK ts kd i=none:=by
 unfold mK;rw[ht]
theorem dX{ts:List Tk}{i:Nat}{t:Tk}{x:List Nat}(ht:ts[i]?=some t)(hx:¬(t.kind=0/\t.text=x)):cG ts x i=false:=by
 unfold cG;rw[ht];simp only[decide_eq_false_iff_not];exact hx
theorem bC3{ts:List Tk}{i:Nat}{x:List Nat}(ht:ts[i]?=none):cG ts x i=false:=by
 unfold cG;rw[ht]
attribute [local irreducible] Vc.Fn FnP
theorem aEc(ts:List Tk)(bp:Nat)(s:Sl)(e:Nat)(h:aA)(i n:Nat)(cs:List Cn)(v:Value)(G:Own)(r:Pr Tr)(tb:Tb h)(w:dK h s ts)(hi:i<=ts.length)(hc:cs.length<=i)(g:aF Ty.syntax_count 4 v cs.length (cnc cs) G)(y2:mK ts 2 i=none)(y3:mK ts 3 i=none)(y1:mK ts 1 i=none)(hF:∀x∈[[112,105],[40],[97,98,115],[115,113,114,116],[109,105,110],[109,97,120],[105,102],[114,111,111,116]],cG ts x i=false)(hp:some (Pr.bad i)=some r):
  FnP T F.q285 [.pointer (some ⟨bp,0,none⟩)] h (Pst bp s i e v::G) (PQ ts bp s e VE r) fun c _ _=>PS ts e r c:=by
 cases hp
 have n2:=fun h w=>gM h bp s ts i e v 2 w hi y2
 have n3:=fun h w=>gM h bp s ts i e v 3 w hi y3
 have a0:=fun h w=>aQ h bp s ts i e v [112,105] w hi Ae (hF _ Ae)
 have a1:=fun h w=>aQ h bp s ts i e v [40] w hi Ae (hF _ Ae)
 have a2:=fun h w=>aQ h bp s ts i e v [97,98,115] w hi Ae (hF _ Ae)
 have a3:=fun h w=>aQ h bp s ts i e v [115,113,114,116] w hi Ae (hF _ Ae)
 have a4:=fun h w=>aQ h bp s ts i e v [109,105,110] w hi Ae (hF _ Ae)
 have a5:=fun h w=>aQ h bp s ts i e v [109,97,120] w hi Ae (hF _ Ae)
 have a6:=fun h w=>aQ h bp s ts i e v [105,102] w hi Ae (hF _ Ae)
 have a7:=fun h w=>aQ h bp s ts i e v [114,111,111,116] w hi Ae (hF _ Ae)
 refine fPC ok _ D.q285 rfl ?_;conv=>whnf
 repeat' ((first|(show CN _ _ _ _ _ _;first|(refine CN.own 1 rfl rfl (Fn.wP (n2 _ Ab)) (fun v h' La hl hr=>?_);obtain⟨rfl,rfl,rfl⟩:=hr;clear hl;refine⟨_,rfl,?_⟩)|(refine CN.own 2 rfl rfl (Fn.wP (n3 _ Ab)) (fun v h' La hl hr=>?_);obtain⟨rfl,rfl,rfl⟩:=hr;clear hl;refine⟨_,rfl,?_⟩)|(refine CN.own 3 rfl rfl (Fn.wP (a0 _ Ab)) (fun v h' La hl hr=>?_);obtain⟨rfl,rfl,rfl⟩:=hr;clear hl;refine⟨_,rfl,?_⟩)|(refine CN.own 3 rfl rfl (Fn.wP (a1 _ Ab)) (fun v h' La hl hr=>?_);obtain⟨rfl,rfl,rfl⟩:=hr;clear hl;refine⟨_,rfl,?_⟩)|(refine CN.own 3 rfl rfl (Fn.wP (a2 _ Ab)) (fun v h' La hl hr=>?_);obtain⟨rfl,rfl,rfl⟩:=hr;clear hl;refine⟨_,rfl,?_⟩)|(refine CN.own 3 rfl rfl (Fn.wP (a3 _ Ab)) (fun v h' La hl hr=>?_);obtain⟨rfl,rfl,rfl⟩:=hr;clear hl;refine⟨_,rfl,?_⟩)|(refine CN.own 3 rfl rfl (Fn.wP (a4 _ Ab)) (fun v h' La hl hr=>?_);obtain⟨rfl,rfl,rfl⟩:=hr;clear hl;refine⟨_,rfl,?_⟩)|(refine CN.own 3 rfl rfl (Fn.wP (a5 _ Ab)) (fun v h' La hl hr=>?_);obtain⟨rfl,rfl,rfl⟩:=hr;clear hl;refine⟨_,rfl,?_⟩)|(refine CN.own 3 rfl rfl (Fn.wP (a6 _ Ab)) (fun v h' La hl hr=>?_);obtain⟨rfl,rfl,rfl⟩:=hr;clear hl;refine⟨_,rfl,?_⟩)|(refine CN.own 3 rfl rfl (Fn.wP (a7 _ Ab)) (fun v h' La hl hr=>?_);obtain⟨rfl,rfl,rfl⟩:=hr;clear hl;refine⟨_,rfl,?_⟩))|((first|apply oI.z|apply cI.z))|intro (_:Nat)|refine Sto.l 0 rfl rfl rfl ?_)<;>conv=>whnf)
 all_goals exact CN.par2 (A:=[_,_,_]) (B:=G) rfl (FnP.withPan (aT1 _ _ _ ts i _ _ Ab hi y1)) (fun v h' Lp hl hr=>hr.elim) (fun c h' Lp hl hs=>⟨i,rfl,hs⟩)
theorem aQu(ts:List Tk)(bp:Nat)(s:Sl)(e:Nat)(h:aA)(i n:Nat)(cs:List Cn)(v:Value)(G:Own)(r:Pr Tr)(tb:Tb h)(w:dK h s ts)(hi:i<=ts.length)(hc:cs.length<=i)(g:aF Ty.syntax_count 4 v cs.length (cnc cs) G)(t:Tk)(ht:ts[i]?=some t)(hk:t.kind=1)(hp:some (Pr.ok (aI3 t.text prs) (i+1) cs)=some r):
  FnP T F.q285 [.pointer (some ⟨bp,0,none⟩)] h (Pst bp s i e v::G) (PQ ts bp s e VE r) fun c _ _=>PS ts e r c:=by
 cases hp
 have hj:=(bIr.1 ht).1;have hF:∀x∈[[112,105],[40],[97,98,115],[115,113,114,116],[109,105,110],[109,97,120],[105,102],[114,111,111,116]],cG ts x i=false:=fun x _=>dX ht Aa
 have n2:=fun h w=>gM h bp s ts i e v 2 w hi (jK ht Aa)
 have n3:=fun h w=>gM h bp s ts i e v 3 w hi (jK ht Aa)
 have a0:=fun h w=>aQ h bp s ts i e v [112,105] w hi Ae (hF _ Ae)
 have a1:=fun h w=>aQ h bp s ts i e v [40] w hi Ae (hF _ Ae)
 have a2:=fun h w=>aQ h bp s ts i e v [97,98,115] w hi Ae (hF _ Ae)
 have a3:=fun h w=>aQ h bp s ts i e v [115,113,114,116] w hi Ae (hF _ Ae)
 have a4:=fun h w=>aQ h bp s ts i e v [109,105,110] w hi Ae (hF _ Ae)
 have a5:=fun h w=>aQ h bp s ts i e v [109,97,120] w hi Ae (hF _ Ae)
 have a6:=fun h w=>aQ h bp s ts i e v [105,102] w hi Ae (hF _ Ae)
 have a7:=fun h w=>aQ h bp s ts i e v [114,111,111,116] w hi Ae (hF _ Ae)
 refine fPC ok _ D.q285 rfl ?_;conv=>whnf
 repeat' ((first|(show CN _ _ _ _ _ _;first|(refine CN.own 1 rfl rfl (Fn.wP (n2 _ Ab)) (fun v h' La hl hr=>?_);obtain⟨rfl,rfl,rfl⟩:=hr;clear hl;refine⟨_,rfl,?_⟩)|(refine CN.own 2 rfl rfl (Fn.wP (n3 _ Ab)) (fun v h' La hl hr=>?_);obtain⟨rfl,rfl,rfl⟩:=hr;clear hl;refine⟨_,rfl,?_⟩)|(refine CN.own 3 rfl rfl (Fn.wP (a0 _ Ab)) (fun v h' La hl hr=>?_);obtain⟨rfl,rfl,rfl⟩:=hr;clear hl;refine⟨_,rfl,?_⟩)|(refine CN.own 3 rfl rfl (Fn.wP (a1 _ Ab)) (fun v h' La hl hr=>?_);obtain⟨rfl,rfl,rfl⟩:=hr;clear hl;refine⟨_,rfl,?_⟩)|(refine CN.own 3 rfl rfl (Fn.wP (a2 _ Ab)) (fun v h' La hl hr=>?_);obtain⟨rfl,rfl,rfl⟩:=hr;clear hl;refine⟨_,rfl,?_⟩)|(refine CN.own 3 rfl rfl (Fn.wP (a3 _ Ab)) (fun v h' La hl hr=>?_);obtain⟨rfl,rfl,rfl⟩:=hr;clear hl;refine⟨_,rfl,?_⟩)|(refine CN.own 3 rfl rfl (Fn.wP (a4 _ Ab)) (fun v h' La hl hr=>?_);obtain⟨rfl,rfl,rfl⟩:=hr;clear hl;refine⟨_,rfl,?_⟩)|(refine CN.own 3 rfl rfl (Fn.wP (a5 _ Ab)) (fun v h' La hl hr=>?_);obtain⟨rfl,rfl,rfl⟩:=hr;clear hl;refine⟨_,rfl,?_⟩)|(refine CN.own 3 rfl rfl (Fn.wP (a6 _ Ab)) (fun v h' La hl hr=>?_);obtain⟨rfl,rfl,rfl⟩:=hr;clear hl;refine⟨_,rfl,?_⟩)|(refine CN.own 3 rfl rfl (Fn.wP (a7 _ Ab)) (fun v h' La hl hr=>?_);obtain⟨rfl,rfl,rfl⟩:=hr;clear hl;refine⟨_,rfl,?_⟩))|((first|apply oI.z|apply cI.z))|intro (_:Nat)|refine Sto.l 0 rfl rfl rfl ?_)<;>conv=>whnf)
 all_goals refine CN.par2 (A:=[_,_,_]) (B:=G) rfl (FnP.withPan (aQt _ Ab _ _ ts i _ _ t Ab ht hk)) (fun v h' Lp hl hr=>?_) (fun c h' Lp hl hs=>hs.elim)
 obtain⟨rfl,a,b,rfl,hv⟩:=hr;conv=>whnf
 repeat' ((first|((first|apply oI.z|apply cI.z))|refine LdN.o 2 rfl rfl ?_|refine Sto.l 2 rfl rfl rfl ?_)<;>conv=>whnf)
 all_goals exact RN.drop0 (RN.drop0 (RN.drop0 (RN.done ⟨aI3 t.text prs,i+1,cs,_,G,rfl,Aa,Aa,rfl,g,1,0,_,a,b,[],⟨none,0,0⟩,rfl,IsE.num hv⟩)))
theorem aQv(ts:List Tk)(bp:Nat)(s:Sl)(e:Nat)(h:aA)(i n:Nat)(cs:List Cn)(v:Value)(G:Own)(r:Pr Tr)(tb:Tb h)(w:dK h s ts)(hi:i<=ts.length)(hc:cs.length<=i)(g:aF Ty.syntax_count 4 v cs.length (cnc cs) G)(t:Tk)(ht:ts[i]?=some t)(hk:t.kind=2)(hp:some (Pr.ok (gA t.text) (i+1) cs)=some r):
  FnP T F.q285 [.pointer (some ⟨bp,0,none⟩)] h (Pst bp s i e v::G) (PQ ts bp s e VE r) fun c _ _=>PS ts e r c:=by
 cases hp
 have hj:=(bIr.1 ht).1;have ht8:=w.lt t (bIu ht);have n2:=fun h w=>aT2 h bp s ts i e v 2 t w hi (bB8 ht hk)
 refine fPC ok _ D.q285 rfl ?_;conv=>whnf
 repeat' ((first|(show CN _ _ _ _ _ _;(refine CN.own 1 rfl rfl (Fn.wP (n2 _ Ab)) (fun v h' La hl hr=>?_);obtain⟨rfl,rfl,rfl⟩:=hr;clear hl;refine⟨_,rfl,?_⟩))|((first|apply oI.z|apply cI.z))|intro (_:Nat)|refine LdN.o 1 rfl rfl ?_|refine Ld.o 0 rfl rfl ?_|(show Sto _ _ _ _;first|refine Sto.l 0 rfl rfl rfl ?_|refine Sto.l 1 rfl rfl rfl ?_))<;>conv=>whnf)
 all_goals exact RN.drop0 (RN.drop0 (RN.done ⟨gA t.text,i+1,cs,v,G,rfl,Aa,Aa,rfl,g,2,0,false,⟨none,0,0⟩,⟨none,0,0⟩,t.text,⟨none,0,0⟩,rfl,IsE.var ht8⟩))
end Go.Proofs.Y