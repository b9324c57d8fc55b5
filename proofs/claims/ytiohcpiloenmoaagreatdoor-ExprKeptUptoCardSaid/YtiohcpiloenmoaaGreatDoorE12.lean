/- The parser's functions, by steps: atoms. -/
import Derived.Test.YtiohcpiloenmoaaGreatDoorE11
set_option linter.all false
set_option maxHeartbeats 2000000
set_option maxRecDepth 20000
namespace Go.Proofs.Y
open Go Go.Vc Go.Dig
theorem aBz(h:aA)(bp:Nat)(s:Sl)(ts:List Tk)(i e:Nat)(v:Value)(kd:Nat)(w:eH h s ts)(hi:i<=ts.length)(hN:kJ ts kd i=none):Vc.Fn T F.q228 [.pointer (some ⟨bp,0,none⟩),.int .i64 kd] h [Pst bp s i e v] fun r h' L'=>L'=[Pst bp s i e v]/\h'=h/\r=.tuple #[.agg #[.int .i64 0,.string (txt []),.int .i64 0],.bool false]:=by
 have:=sH h bp s ts i e v kd w hi;rw[hN] at this;exact this
theorem aVc(h:aA)(bp:Nat)(s:Sl)(ts:List Tk)(i e:Nat)(v:Value)(kd:Nat)(t:Tk)(w:eH h s ts)(hi:i<=ts.length)(hN:kJ ts kd i=some t):Vc.Fn T F.q228 [.pointer (some ⟨bp,0,none⟩),.int .i64 kd] h [Pst bp s i e v] fun r h' L'=>L'=[Pst bp s (i+1) e v]/\h'=h/\r=.tuple #[.agg #[.int .i64 t.kind,.string (txt t.text),.int .i64 t.pos],.bool true]:=by
 have:=sH h bp s ts i e v kd w hi;rw[hN] at this;exact this
theorem aXe{ts:List Tk}{i kd:Nat}{t:Tk}(ht:ts[i]?=some t)(hk:t.kind=kd):kJ ts kd i=some t:=by
 unfold kJ;rw[ht];simp[hk]
theorem aD2{ts:List Tk}{i kd:Nat}{t:Tk}(ht:ts[i]?=some t)(hk:t.kind≠kd):kJ ts kd i=none:=by
 unfold kJ;rw[ht];simp[hk]
theorem aNs{ts:List Tk}{i kd:Nat}(ht:ts[i]?=none):kJ ts kd i=none:=by
 unfold kJ;rw[ht]
theorem aNt{ts:List Tk}{i:Nat}{t:Tk}{x:List Nat}(ht:ts[i]?=some t)(hx:¬(t.kind=0/\t.text=x)):eN ts x i=false:=by
 unfold eN;rw[ht];simp only[decide_eq_false_iff_not];exact hx
theorem aVd{ts:List Tk}{i:Nat}{x:List Nat}(ht:ts[i]?=none):eN ts x i=false:=by
 unfold eN;rw[ht]
attribute [local irreducible] Vc.Fn FnP
theorem aAb(ts:List Tk)(bp:Nat)(s:Sl)(e:Nat)(h:aA)(i n:Nat)(cs:List Cn)(v:Value)(G:Own)(r:Pr Tr)(tb:Tb h)(w:eH h s ts)(hi:i<=ts.length)(hc:cs.length<=i)(g:aE Ty.syntax_count 4 v cs.length (cnc cs) G)(y2:kJ ts 2 i=none)(y3:kJ ts 3 i=none)(y1:kJ ts 1 i=none)(hF:∀x∈[[112,105],[40],[97,98,115],[115,113,114,116],[109,105,110],[109,97,120],[105,102],[114,111,111,116]],eN ts x i=false)(hp:some (Pr.bad i)=some r):
  FnP T F.q197 [.pointer (some ⟨bp,0,none⟩)] h (Pst bp s i e v::G) (PQ ts bp s e VE r) fun c _ _=>PS ts e r c:=by
 cases hp
 have n2:=fun h w=>aBz h bp s ts i e v 2 w hi y2
 have n3:=fun h w=>aBz h bp s ts i e v 3 w hi y3
 have a0:=fun h w=>bW h bp s ts i e v [112,105] w hi Ag (hF _ Ag)
 have a1:=fun h w=>bW h bp s ts i e v [40] w hi Ag (hF _ Ag)
 have a2:=fun h w=>bW h bp s ts i e v [97,98,115] w hi Ag (hF _ Ag)
 have a3:=fun h w=>bW h bp s ts i e v [115,113,114,116] w hi Ag (hF _ Ag)
 have a4:=fun h w=>bW h bp s ts i e v [109,105,110] w hi Ag (hF _ Ag)
 have a5:=fun h w=>bW h bp s ts i e v [109,97,120] w hi Ag (hF _ Ag)
 have a6:=fun h w=>bW h bp s ts i e v [105,102] w hi Ag (hF _ Ag)
 have a7:=fun h w=>bW h bp s ts i e v [114,111,111,116] w hi Ag (hF _ Ag)
 refine fPC ok _ D.q197 rfl ?_;conv=>whnf
 repeat' ((first|(show CN _ _ _ _ _ _;first|(refine CN.own 1 rfl rfl (Fn.wP (n2 _ Ab)) (fun v h' La hl hr=>?_);obtain⟨rfl,rfl,rfl⟩:=hr;clear hl;refine⟨_,rfl,?_⟩)|(refine CN.own 2 rfl rfl (Fn.wP (n3 _ Ab)) (fun v h' La hl hr=>?_);obtain⟨rfl,rfl,rfl⟩:=hr;clear hl;refine⟨_,rfl,?_⟩)|(refine CN.own 3 rfl rfl (Fn.wP (a0 _ Ab)) (fun v h' La hl hr=>?_);obtain⟨rfl,rfl,rfl⟩:=hr;clear hl;refine⟨_,rfl,?_⟩)|(refine CN.own 3 rfl rfl (Fn.wP (a1 _ Ab)) (fun v h' La hl hr=>?_);obtain⟨rfl,rfl,rfl⟩:=hr;clear hl;refine⟨_,rfl,?_⟩)|(refine CN.own 3 rfl rfl (Fn.wP (a2 _ Ab)) (fun v h' La hl hr=>?_);obtain⟨rfl,rfl,rfl⟩:=hr;clear hl;refine⟨_,rfl,?_⟩)|(refine CN.own 3 rfl rfl (Fn.wP (a3 _ Ab)) (fun v h' La hl hr=>?_);obtain⟨rfl,rfl,rfl⟩:=hr;clear hl;refine⟨_,rfl,?_⟩)|(refine CN.own 3 rfl rfl (Fn.wP (a4 _ Ab)) (fun v h' La hl hr=>?_);obtain⟨rfl,rfl,rfl⟩:=hr;clear hl;refine⟨_,rfl,?_⟩)|(refine CN.own 3 rfl rfl (Fn.wP (a5 _ Ab)) (fun v h' La hl hr=>?_);obtain⟨rfl,rfl,rfl⟩:=hr;clear hl;refine⟨_,rfl,?_⟩)|(refine CN.own 3 rfl rfl (Fn.wP (a6 _ Ab)) (fun v h' La hl hr=>?_);obtain⟨rfl,rfl,rfl⟩:=hr;clear hl;refine⟨_,rfl,?_⟩)|(refine CN.own 3 rfl rfl (Fn.wP (a7 _ Ab)) (fun v h' La hl hr=>?_);obtain⟨rfl,rfl,rfl⟩:=hr;clear hl;refine⟨_,rfl,?_⟩))|((first|apply oI.z|apply cI.z))|intro (_:Nat)|refine Sto.l 0 rfl rfl rfl ?_)<;>conv=>whnf)
 all_goals exact CN.par2 (A:=[_,_,_]) (B:=G) rfl (FnP.withPan (aNr _ _ _ ts i _ _ Ab hi y1)) (fun v h' Lp hl hr=>hr.elim) (fun c h' Lp hl hs=>⟨i,rfl,hs⟩)
theorem aJ8(ts:List Tk)(bp:Nat)(s:Sl)(e:Nat)(h:aA)(i n:Nat)(cs:List Cn)(v:Value)(G:Own)(r:Pr Tr)(tb:Tb h)(w:eH h s ts)(hi:i<=ts.length)(hc:cs.length<=i)(g:aE Ty.syntax_count 4 v cs.length (cnc cs) G)(t:Tk)(ht:ts[i]?=some t)(hk:t.kind=1)(hp:some (Pr.ok (aJ6 t.text prs) (i+1) cs)=some r):
  FnP T F.q197 [.pointer (some ⟨bp,0,none⟩)] h (Pst bp s i e v::G) (PQ ts bp s e VE r) fun c _ _=>PS ts e r c:=by
 cases hp
 have hj:=(aY5.1 ht).1;have hF:∀x∈[[112,105],[40],[97,98,115],[115,113,114,116],[109,105,110],[109,97,120],[105,102],[114,111,111,116]],eN ts x i=false:=fun x _=>aNt ht Aa
 have n2:=fun h w=>aBz h bp s ts i e v 2 w hi (aD2 ht Aa)
 have n3:=fun h w=>aBz h bp s ts i e v 3 w hi (aD2 ht Aa)
 have a0:=fun h w=>bW h bp s ts i e v [112,105] w hi Ag (hF _ Ag)
 have a1:=fun h w=>bW h bp s ts i e v [40] w hi Ag (hF _ Ag)
 have a2:=fun h w=>bW h bp s ts i e v [97,98,115] w hi Ag (hF _ Ag)
 have a3:=fun h w=>bW h bp s ts i e v [115,113,114,116] w hi Ag (hF _ Ag)
 have a4:=fun h w=>bW h bp s ts i e v [109,105,110] w hi Ag (hF _ Ag)
 have a5:=fun h w=>bW h bp s ts i e v [109,97,120] w hi Ag (hF _ Ag)
 have a6:=fun h w=>bW h bp s ts i e v [105,102] w hi Ag (hF _ Ag)
 have a7:=fun h w=>bW h bp s ts i e v [114,111,111,116] w hi Ag (hF _ Ag)
 refine fPC ok _ D.q197 rfl ?_;conv=>whnf
 repeat' ((first|(show CN _ _ _ _ _ _;first|(refine CN.own 1 rfl rfl (Fn.wP (n2 _ Ab)) (fun v h' La hl hr=>?_);obtain⟨rfl,rfl,rfl⟩:=hr;clear hl;refine⟨_,rfl,?_⟩)|(refine CN.own 2 rfl rfl (Fn.wP (n3 _ Ab)) (fun v h' La hl hr=>?_);obtain⟨rfl,rfl,rfl⟩:=hr;clear hl;refine⟨_,rfl,?_⟩)|(refine CN.own 3 rfl rfl (Fn.wP (a0 _ Ab)) (fun v h' La hl hr=>?_);obtain⟨rfl,rfl,rfl⟩:=hr;clear hl;refine⟨_,rfl,?_⟩)|(refine CN.own 3 rfl rfl (Fn.wP (a1 _ Ab)) (fun v h' La hl hr=>?_);obtain⟨rfl,rfl,rfl⟩:=hr;clear hl;refine⟨_,rfl,?_⟩)|(refine CN.own 3 rfl rfl (Fn.wP (a2 _ Ab)) (fun v h' La hl hr=>?_);obtain⟨rfl,rfl,rfl⟩:=hr;clear hl;refine⟨_,rfl,?_⟩)|(refine CN.own 3 rfl rfl (Fn.wP (a3 _ Ab)) (fun v h' La hl hr=>?_);obtain⟨rfl,rfl,rfl⟩:=hr;clear hl;refine⟨_,rfl,?_⟩)|(refine CN.own 3 rfl rfl (Fn.wP (a4 _ Ab)) (fun v h' La hl hr=>?_);obtain⟨rfl,rfl,rfl⟩:=hr;clear hl;refine⟨_,rfl,?_⟩)|(refine CN.own 3 rfl rfl (Fn.wP (a5 _ Ab)) (fun v h' La hl hr=>?_);obtain⟨rfl,rfl,rfl⟩:=hr;clear hl;refine⟨_,rfl,?_⟩)|(refine CN.own 3 rfl rfl (Fn.wP (a6 _ Ab)) (fun v h' La hl hr=>?_);obtain⟨rfl,rfl,rfl⟩:=hr;clear hl;refine⟨_,rfl,?_⟩)|(refine CN.own 3 rfl rfl (Fn.wP (a7 _ Ab)) (fun v h' La hl hr=>?_);obtain⟨rfl,rfl,rfl⟩:=hr;clear hl;refine⟨_,rfl,?_⟩))|((first|apply oI.z|apply cI.z))|intro (_:Nat)|refine Sto.l 0 rfl rfl rfl ?_)<;>conv=>whnf)
 all_goals refine CN.par2 (A:=[_,_,_]) (B:=G) rfl (FnP.withPan (aJ7 _ Ab _ _ ts i _ _ t Ab ht hk)) (fun v h' Lp hl hr=>?_) (fun c h' Lp hl hs=>hs.elim)
 obtain⟨rfl,a,b,rfl,hv⟩:=hr;conv=>whnf
 repeat' ((first|((first|apply oI.z|apply cI.z))|refine LdN.o 2 rfl rfl ?_|refine Sto.l 2 rfl rfl rfl ?_)<;>conv=>whnf)
 all_goals exact RN.drop0 (RN.drop0 (RN.drop0 (RN.done ⟨aJ6 t.text prs,i+1,cs,_,G,rfl,Aa,Aa,rfl,g,1,0,_,a,b,[],⟨none,0,0⟩,rfl,IsE.num hv⟩)))
theorem aJ9(ts:List Tk)(bp:Nat)(s:Sl)(e:Nat)(h:aA)(i n:Nat)(cs:List Cn)(v:Value)(G:Own)(r:Pr Tr)(tb:Tb h)(w:eH h s ts)(hi:i<=ts.length)(hc:cs.length<=i)(g:aE Ty.syntax_count 4 v cs.length (cnc cs) G)(t:Tk)(ht:ts[i]?=some t)(hk:t.kind=2)(hp:some (Pr.ok (sG t.text) (i+1) cs)=some r):
  FnP T F.q197 [.pointer (some ⟨bp,0,none⟩)] h (Pst bp s i e v::G) (PQ ts bp s e VE r) fun c _ _=>PS ts e r c:=by
 cases hp
 have hj:=(aY5.1 ht).1;have ht8:=w.lt t (aY8 ht);have n2:=fun h w=>aVc h bp s ts i e v 2 t w hi (aXe ht hk)
 refine fPC ok _ D.q197 rfl ?_;conv=>whnf
 repeat' ((first|(show CN _ _ _ _ _ _;(refine CN.own 1 rfl rfl (Fn.wP (n2 _ Ab)) (fun v h' La hl hr=>?_);obtain⟨rfl,rfl,rfl⟩:=hr;clear hl;refine⟨_,rfl,?_⟩))|((first|apply oI.z|apply cI.z))|intro (_:Nat)|refine LdN.o 1 rfl rfl ?_|refine Ld.o 0 rfl rfl ?_|(show Sto _ _ _ _;first|refine Sto.l 0 rfl rfl rfl ?_|refine Sto.l 1 rfl rfl rfl ?_))<;>conv=>whnf)
 all_goals exact RN.drop0 (RN.drop0 (RN.done ⟨sG t.text,i+1,cs,v,G,rfl,Aa,Aa,rfl,g,2,0,false,⟨none,0,0⟩,⟨none,0,0⟩,t.text,⟨none,0,0⟩,rfl,IsE.var ht8⟩))
end Go.Proofs.Y