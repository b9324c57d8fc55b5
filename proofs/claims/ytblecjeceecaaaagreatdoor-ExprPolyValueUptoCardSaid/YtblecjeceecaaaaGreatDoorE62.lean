/- Subst on both sides; its law. -/
import Derived.Test.YtblecjeceecaaaaGreatDoorE66
set_option linter.all false
set_option maxHeartbeats 1000000
set_option maxRecDepth 20000
namespace Go.Vc
open Go Go.Dig
end Go.Vc
namespace Go.Proofs.Y
open Go Go.Vc Go.Dig
def MsR{α:Type}(ms ps:List (List Nat × α)):Prop:=(∀n,n∈ms.map (·.1)↔n∈ps.map (·.1))/\((ps.map (·.1)).Nodup->ms=ps)
theorem MsR.new{α:Type}{ms ps:List (List Nat × α)}{n:List Nat}{u:α}(r:MsR ms ps):MsR (ms++[(n,u)]) (ps++[(n,u)]):=by
 refine⟨fun k=>?_,fun h=>?_⟩
 .have:=r.1 k;simp only[bI3,bIx,this]
 .rw[bI3] at h;rw[r.2 (bMl.1 h).1]
theorem MsR.old{α:Type}{ms ps:List (List Nat × α)}{n:List Nat}{u t:α}{j:Nat}(r:MsR ms ps)(hj:ms[j]?=some (n,t)):MsR (ms.set j (n,u)) (ps++[(n,u)]):=by
 have hm:(ms.set j (n,u)).map (·.1)=ms.map (·.1):=by
  rw[List.map_set];refine bMj fun i=>?_
  rw[bM1]
  split
  .rename_i e;subst e;rw[bKo,hj];have:=(bIr.1 hj).1;rw[if_pos (by rw[bJb];exact this)]
   rfl
  .rfl
 have hn:n∈ps.map (·.1):=(r.1 n).1 (List.mem_map.2 ⟨_,bIu hj,rfl⟩);refine⟨fun k=>?_,fun h=>?_⟩
 .rw[hm,r.1 k,bI3,bIx];refine⟨.inl,fun x=>x.elim id fun x=>?_⟩
  simp at x;rw[x];exact hn
 .rw[bI3] at h;have:=(bMl.1 h).2.2 n hn n Aq;exact absurd rfl this
theorem yZ{ps:List (List Nat × Tr)}{b:List Nat × Tr}:nN (ps++[b])↔nN ps/\bB b.2:=by
 unfold nN;simp only[bIx,bI2];exact⟨fun h=>⟨fun x hx=>h x (.inl hx),h b (.inr rfl)⟩,fun h x hx=>hx.elim (h.1 x) fun e=>e▸h.2⟩
theorem jJ{α:Type}{ps:List (List Nat × α)}{b:List Nat × α}:eS (ps++[b])↔eS ps/\fD b.1/\b.1∉ps.map (·.1):=by
 unfold eS;rw[bI3,bMl];simp only[bIx,bI2];constructor
 .rintro⟨h1,h2,-,h3⟩
  exact⟨⟨fun x hx=>h1 x (.inl hx),h2⟩,h1 b (.inr rfl),fun hb=>h3 _ hb _ Aq rfl⟩
 .rintro⟨⟨h1,h2⟩,h3,h4⟩
  refine⟨fun x hx=>hx.elim (h1 x) fun e=>e▸h3,h2,by simp,fun x hx y hy e=>?_⟩
  simp at hy;subst e hy;exact h4 hx
theorem aC5{α:Type}:eS ([]:List (List Nat × α)):=⟨fun _ h=>(by cases h),bNl⟩
theorem bGq:((0:Int):Rat)=0:=rfl
theorem bCk:((1:Int):Rat)=1:=rfl
theorem bP.of{h:aA}{n:Bool}{a b:Sl}{q:Rat}(w:bP h n a b (some q)):∃l m,bV h a b l m/\okR n l m/\aK n l m=q:=by
 obtain⟨l,m,v,e⟩:=w.ex;unfold iV at e
 split at e
 .exact⟨l,m,v,Ab,(Option.some.inj e).symm⟩
 .cases e
theorem bP.fits{h:aA}{n:Bool}{a b:Sl}{q:Rat}(w:bP h n a b (some q)):fits q:=by
 obtain⟨l,m,v,k,rfl⟩:=w.of;exact k.2.2
def bEr(h:aA)(v:Value)(q:Rat):Prop:=∃n,∃a b:Sl,v=.agg #[.bool n,a.val,b.val]/\bP h n a b (some q)
instance:UpV bEr:=⟨fun hl ⟨n,a,b,e,w⟩=>⟨n,a,b,e,by obtain⟨l,m,v,e2⟩:=w.ex;exact⟨l,m,v.mono hl,e2⟩⟩⟩
def VQ(h:aA)(v:Value)(x:Option Rat):Prop:=∃n,∃a b:Sl,∃bb,v=.tuple #[.agg #[.bool n,a.val,b.val],.bool bb]/\(bb=true->∃q,x=some q/\bP h n a b (some q))/\(bb=false->x=none)
def NQ(h:aA)(v:Value)(p:Rat × Int):Prop:=∃n,∃a b:Sl,v=.tuple #[.agg #[.bool n,a.val,b.val],.int .i64 p.2]/\bP h n a b (some p.1)
theorem aL4.nq{h:aA}{v:Value}{p:Rat × Int}:aL4 h v p->NQ h v p:=fun ⟨a,b,e,_,w⟩=>⟨_,a,b,e,w⟩
def mS(p:Rat × Int)(x:Option Rat):Prop:=(p.2=0->x=some p.1)/\(p.2≠0->x=none)
theorem mS.out(q:Rat):mS (eO q) (dZ q):=by
 unfold eO dZ
 split
 .exact⟨fun _=>rfl,fun h=>absurd rfl h⟩
 .exact⟨fun h=>absurd h Ae,fun _=>rfl⟩
theorem mS.err(e:Int)(h:e≠0):mS (0,e) none:=⟨fun x=>absurd x h,fun _=>rfl⟩
theorem VQ.out{h:aA}{p:Rat × Int}{x:Option Rat}{n:Bool}{a b:Sl}(ox:mS p x)(w:bP h n a b (some p.1)):VQ h (.tuple #[.agg #[.bool n,a.val,b.val],.bool (eq p.2 0)]) x:=by
 refine⟨n,a,b,_,rfl,fun e=>⟨p.1,ox.1 ?_,w⟩,fun e=>ox.2 fun y=>?_⟩
 .by_cases y:p.2=0
  .exact y
  .rw[lF,aH y] at e;cases e
 .rw[lF,aX y] at e;cases e
theorem aPv(h:aA)(n:Bool)(a b:Sl)(e:Int):Fn0 T F.q162 [.agg #[.bool n,a.val,b.val],.int .i64 e] h fun v h'=>h'=h/\v=.tuple #[.agg #[.bool n,a.val,b.val],.bool (eq e 0)]:=by
 refine f0C ok D.q162 rfl ?_;conv=>whnf
 repeat' ((first|((first|apply oI.z|apply cI.z))|intro (_:Nat)|(show LdN _ _ _ _ _;first|refine LdN.o 0 rfl rfl ?_|refine LdN.o 1 rfl rfl ?_)|refine Sto.l 0 rfl rfl rfl ?_)<;>conv=>whnf)
 all_goals exact RN.a ⟨rfl,rfl⟩
theorem bH4(h:aA)(tb:Tb h)(n:Bool)(a b:Sl)(q:Rat)(w:bP h n a b (some q)):Fn0 T F.q163 [.agg #[.bool n,a.val,b.val]] h fun v h'=>NQ h' v (eO (-q)):=by
 obtain⟨l,m,v,k,rfl⟩:=w.of;exact (aZf h tb n a b l m v).mono fun v h' _ r=>by
  rw[show oJ (fun q=>-q) n l m=eO (-(aK n l m)) from if_pos k] at r
  exact (r.isn (Fok.out _)).nq
theorem bH5(h:aA)(tb:Tb h)(n:Bool)(a b:Sl)(q:Rat)(w:bP h n a b (some q)):Fn0 T F.q165 [.agg #[.bool n,a.val,b.val]] h fun v h'=>NQ h' v (eO (gP q)):=by
 obtain⟨l,m,v,k,rfl⟩:=w.of;exact (aZg h tb n a b l m v).mono fun v h' _ r=>by
  rw[show oJ gP n l m=eO (gP (aK n l m)) from if_pos k] at r;exact (r.isn (Fok.out _)).nq
def aNm(q:Rat)(arg:Int):Rat × Int:=if arg<0/\q=0 then (0,10) else eO (oX q arg)
theorem mS.pow(q:Rat)(arg:Int):mS (aNm q arg) (if arg<0/\q=0 then none else dZ (oX q arg)):=by
 unfold aNm
 split
 .exact mS.err 10 Ae
 .exact mS.out _
theorem bH6(h:aA)(tb:Tb h)(n:Bool)(a b:Sl)(q:Rat)(arg:Int)(h1:-32<=arg)(h2:arg<=32)(w:bP h n a b (some q)):Fn0 T F.q164 [.agg #[.bool n,a.val,b.val],.int .i64 arg] h fun v h'=>NQ h' v (aNm q arg):=by
 obtain⟨l,m,v,k,rfl⟩:=w.of;exact (aZb h tb n a b l m v arg Aa Aa).mono fun v h' _ r=>by
  rw[show kW n l m arg=aNm (aK n l m) arg from (if_pos k).trans ((if_neg Aa).trans (by unfold aNm;simp only[cE]))] at r;refine (r.isn ?_).nq;unfold aNm
  split
  .exact Fok.err1 10
  .exact Fok.out _
theorem zQ{q:Rat}(hq:fits q){n:Nat}(hn:1<=n):fits (cJ q n).1:=by
 unfold cJ
 split
 .exact gC
 split
 .rename_i e;obtain⟨-,e2,e3⟩:=vP (q:=q) hn e.1 e.2;have g:∀x,rt x n^n=x->rt x n<=x:=fun x y=>by
   have:=Nat.le_self_pow (bNn hn) (rt x n)
   rwa [y] at this
  show fits (mkQ (sg q) (rt (nu q) n) (rt q.den n))
  exact⟨by rw[e2];exact bJd (cK (g _ e.1)) hq.1,by rw[e3];exact bJd (cK (g _ e.2)) hq.2⟩
 .exact gC
theorem bGr(h:aA)(tb:Tb h)(n:Bool)(a b:Sl)(q:Rat)(arg:Int)(h1:2<=arg)(h2:arg<=8)(w:bP h n a b (some q)):Fn0 T F.q166 [.agg #[.bool n,a.val,b.val],.int .i64 arg] h fun v h'=>
  ∃n',∃c d:Sl,∃bb,v=.tuple #[.agg #[.bool n',c.val,d.val],.bool bb,.int .i64 0]/\(bb=true->∃r,(if (cJ q arg.toNat).2 then dZ (cJ q arg.toNat).1 else none)=some r/\bP h' n' c d (some r))/\(bb=false->(if (cJ q arg.toNat).2 then dZ (cJ q arg.toNat).1 else none)=none):=by
 have hf:=w.fits;obtain⟨l,m,v,k,rfl⟩:=w.of;exact (aVz h tb n a b l m v arg Aa Aa).mono fun v h' _ r=>by
  rw[show nO n l m arg=((cJ (aK n l m) arg.toNat).1,(cJ (aK n l m) arg.toNat).2,0) from (if_pos k).trans (if_neg Aa)] at r;have ft:=zQ hf (n:=arg.toNat) Aa;obtain⟨c,d,rfl,hr⟩:=r;refine⟨_,c,d,_,rfl,fun e=>⟨_,(if_pos e).trans (if_pos ft),hr.isnum ft⟩,fun e=>if_neg ?_⟩
  show ¬(cJ (aK n l m) arg.toNat).2=true
  rw[show (cJ (aK n l m) arg.toNat).2=false from e]
  decide
theorem aX1(h:aA)(tb:Tb h)(n:Bool)(a b:Sl)(q:Rat)(w:bP h n a b (some q)):Fn0 T F.q46 [.agg #[.bool n,a.val,b.val]] h fun v h'=>∃c d:Sl,v=.tuple #[.agg #[.bool (sg q),c.val,d.val],.int .i64 0]/\eA h' c d q:=by
 obtain⟨l,m,v,k,rfl⟩:=w.of;exact (yJ h tb n a b l m v).mono fun v h' _ r=>by
  rw[show oJ (fun q=>q) n l m=(aK n l m,0) from (if_pos k).trans (if_pos k.2.2)] at r
  obtain⟨c,d,rfl,hr⟩:=r;exact⟨c,d,rfl,hr⟩
theorem bEs(h:aA)(tb:Tb h)(n:Bool)(a b:Sl)(x:Option Rat)(w:bP h n a b x):Fn0 T F.q46 [.agg #[.bool n,a.val,b.val]] h fun v h'=>∃n',∃c d:Sl,∃e,v=.tuple #[.agg #[.bool n',c.val,d.val],.int .i64 e]/\bP h' n' c d (some (x.getD 0))/\(e=0↔x.isSome=true):=by
 obtain⟨l,m,v,rfl⟩:=w.ex;exact (yJ h tb n a b l m v).mono fun v h' _ r=>by
  by_cases k:okR n l m
  .rw[show oJ (fun q=>q) n l m=(aK n l m,0) from (if_pos k).trans (if_pos k.2.2)] at r
   obtain⟨c,d,rfl,hr⟩:=r;rw[show iV n l m=some (aK n l m) from if_pos k];exact⟨_,c,d,0,rfl,hr.isnum k.2.2,by simp⟩
  .rw[show oJ (fun q=>q) n l m=(0,1) from if_neg k] at r
   obtain⟨c,d,rfl,hr⟩:=r;rw[show iV n l m=none from if_neg k];exact⟨_,c,d,1,rfl,hr.isnum gC,by simp⟩
theorem aAw(q:Rat):q=1↔sg q=false/\q.den=1/\nu q=1:=by
 constructor
 .rintro rfl;exact⟨by unfold sg;decide,Ae,by unfold nu;decide⟩
 .rintro⟨h1,h2,h3⟩
  have:q.num=1:=by
   unfold sg at h1;unfold nu at h3;have:=of_decide_eq_false h1;omega
  exact Rat.ext (by rw[this];rfl) (by rw[h2];rfl)
theorem aX2(h:aA)(a b:Sl)(q:Rat)(hf:fits q)(w:eA h a b q):Fn0 T F.q294 [.agg #[.bool (sg q),a.val,b.val]] h fun v h'=>v=.bool (dec (q=1)):=by
 have h1:=w.num;have h2:=w.den.len;have h3:=lM tlB (nu q);have f1:sg q=true->q≠1:=fun x y=>by rw[(aAw q).1 y |>.1] at x;cases x
 have f2:b.l≠0->q≠1:=fun x y=>x (by rw[h2,if_pos ((aAw q).1 y).2.1,lW])
 have f3:sg q=false->b.l=0->(q=1↔nu q=1):=fun x y=>by
  have hd:q.den=1:=by
   by_cases z:q.den=1
   .exact z
   .rw[if_neg z] at h2;have:=(bA tlB).1 (h2.symm.trans y);exact absurd this q.den_nz
  exact⟨fun z=>((aAw q).1 z).2.2,fun z=>(aAw q).2 ⟨x,hd,z⟩⟩
 have h5:=hf.1;have h6:(dg 4294967296 (nu q)).length<=64:=h5;have h7:=cZ tlB (nu q);obtain⟨N,hN⟩:=AH (nu q);rw[<-hN] at f3 h7;clear h2;refine f0C ok D.q294 rfl ?_;conv=>whnf
 repeat' first|((first|(show CN _ _ _ _ _ _;first|(refine CN.f rfl (oF _ _ _ h1 h3 Aa) (fun v h' hl hr=>?_);rw[<-hN,h7] at hr;obtain⟨s1,rfl,hs1⟩:=hr)|(refine CN.quiet rfl (aFs _ _ _ Ab (by rw[hN];omega)) ?_))|((first|apply oI.z|apply cI.z))|intro (_:Nat)|refine Ld.o 0 rfl rfl ?_)<;>conv=>whnf)|(show cnd _ _ _;first|(apply aD<;>intro _<;>first|(exfalso;omega)|conv=>whnf)|(refine aI ?_)|(refine bO (fun _=>?_) (fun _=>?_)<;>(conv=>whnf)))
 all_goals first
  | (rw[aH (f1 Ab)];exact RN.a rfl)
  | (rw[aH (f2 Aa)];exact RN.a rfl)
  | (rw[dJ (f3 Ab Aa)];exact RN.a rfl)
theorem aX3(h:aA)(tb:Tb h)(fn:Int)(n:Bool)(a b:Sl)(q:Rat)(h1:1<=fn)(h2:fn<=8)(w:bP h n a b (some q)):Fn0 T F.q244 [.int .i64 fn,.agg #[.bool n,a.val,b.val]] h fun v h'=>∃c d:Sl,v=.tuple #[.agg #[.bool (sg q),c.val,d.val],.int .i64 0]/\eA h' c d q:=by
 refine f0C ok D.q244 rfl ?_;conv=>whnf
 repeat' first|((first|(show CN _ _ _ _ _ _;(refine CN.f rfl (aX1 _ Ab n a b q Ab) (fun v h' hl hr=>?_);obtain⟨c,d,rfl,hr'⟩:=hr))|((first|apply oI.z|apply cI.z))|intro (_:Nat)|(show LdN _ _ _ _ _;first|refine LdN.o 0 rfl rfl ?_|refine LdN.o 1 rfl rfl ?_)|(show Sto _ _ _ _;first|refine Sto.l 0 rfl rfl rfl ?_|refine Sto.l 1 rfl rfl rfl ?_))<;>conv=>whnf)|(show cnd _ _ _;first|((first|apply aB|apply aD)<;>intro _<;>first|(exfalso;omega)|conv=>whnf))
 all_goals exact RN.a ⟨_,_,rfl,Ab⟩
theorem aX4{h:aA}{a b:Sl}{q:Rat}(w:eA h a b q):(a.l=0->q=0)/\(a.l≠0->q≠0):=by
 have h1:=w.num.len;rw[<-cE];exact⟨fun x=>(bA tlB).1 (h1.symm.trans x),fun x y=>x (by rw[h1,y,wI,lW])⟩
theorem aX5(h:aA)(fn:Int)(a b:Sl)(q:Rat)(h1:1<=fn)(h2:fn<=8)(hf:fits q)(w:eA h a b q):Fn0 T F.q245 [.int .i64 fn,.agg #[.bool (sg q),a.val,b.val]] h fun v h'=>VQ h' v (iL fn q):=by
 obtain⟨z1,z2⟩:=aX4 w;have r1:fn=1\/fn=4->q=0->iL fn q=some 1:=fun x y=>(if_pos x).trans (if_pos y)
 have r2:fn=1\/fn=4->q≠0->iL fn q=none:=fun x y=>(if_pos x).trans (if_neg y)
 have r3:fn=2\/fn=7->iL fn q=if q=1 then some 0 else none:=fun x=>(if_neg Aa).trans (if_pos x)
 have r4:¬(fn=1\/fn=4)->¬(fn=2\/fn=7)->iL fn q=if q=0 then some 0 else none:=fun x y=>(if_neg x).trans (if_neg y)
 obtain⟨R,hR⟩:=AH (iL fn q);rw[<-hR] at r1 r2 r3 r4 ⊢;clear hR;have zz:∀h',bP h' false ⟨none,0,0⟩ ⟨none,0,0⟩ (some 0):=fun h'=>by
  have:=(eA.zero h').isnum gC
  rwa [qS] at this
 have f1:=fU;have k1:=fun h=>aIs h 1 Ae Ae
 simp only[bCk] at k1;refine f0C ok D.q245 rfl ?_;conv=>whnf
 repeat' ((first|(show DrN _ _ _ _ _ _;refine DrN.own [_] (by exact List.Sublist.cons _ (List.Sublist.cons_cons _ (bJ9 _))) Ak ?_)|(refine⟨fun _=>⟨aJ.o As,by repeat first|exact bJ9 _|apply List.Sublist.cons_cons|refine List.Sublist.trans ?_ (bK6 _ _)|apply List.Sublist.cons⟩,?_⟩)|((first|apply oI.z|apply cI.z))|intro (_:Nat)|(apply bJ.go)|(show CN _ _ _ _ _ _;first|(refine CN.f rfl (aX2 _ _ _ q hf Ab) (fun v h' hl hr=>?_);subst hr)|(refine CN.f rfl (k1 _) (fun v h' hl hr=>?_);obtain⟨c,d,rfl,hr'⟩:=hr))|(show LdN _ _ _ _ _;first|refine LdN.o 0 rfl rfl ?_|refine LdN.o 1 rfl rfl ?_)|(show Ld _ _ _ _;first|refine Ld.o 0 rfl rfl ?_|refine Ld.o 1 rfl rfl ?_)|refine Sto.l 0 rfl rfl rfl ?_|(apply aD<;>intro _<;>try (exfalso;omega)))<;>conv=>whnf)
 all_goals first
  | (rw[r1 Aa (z1 Aa)];exact RN.a ⟨_,_,_,true,rfl,fun _=>⟨1,rfl,eA.isnum Ab f1⟩,fun x=>(by cases x)⟩)
  | (rw[r2 Aa (z2 Aa)];exact RN.a ⟨_,⟨none,0,0⟩,⟨none,0,0⟩,false,rfl,fun x=>(by cases x),fun _=>rfl⟩)
  | (rw[r3 Aa];exact RN.a ⟨_,⟨none,0,0⟩,⟨none,0,0⟩,_,rfl,fun x=>⟨0,if_pos (by by_cases y:q=1;exact y;rw[aH y] at x;cases x),zz _⟩,fun x=>if_neg fun y=>by rw[aX y] at x;cases x⟩)
  | (rw[r4 Aa Aa];exact RN.a ⟨_,⟨none,0,0⟩,⟨none,0,0⟩,_,rfl,fun x=>⟨0,if_pos (z1 (by by_cases y:a.l=0;exact y;rw[Vc.eq_false' Aa] at x;cases x)),zz _⟩,fun x=>if_neg fun y=>by rw[Vc.eq_true' (by by_cases z:a.l=0;omega;exact absurd y (z2 z))] at x;cases x⟩)
theorem aR8(h:aA)(tb:Tb h)(fn:Int)(n:Bool)(a b:Sl)(q:Rat)(h1:1<=fn)(h2:fn<=8)(w:bP h n a b (some q)):Fn0 T F.q167 [.int .i64 fn,.agg #[.bool n,a.val,b.val]] h fun v h'=>
  ∃n',∃c d:Sl,∃bb,v=.tuple #[.agg #[.bool n',c.val,d.val],.bool bb,.int .i64 0]/\(bb=true->∃r,iL fn q=some r/\bP h' n' c d (some r))/\(bb=false->iL fn q=none):=by
 have hf:=w.fits;refine f0C ok D.q167 rfl ?_;conv=>whnf
 repeat' first|((first|(show CN _ _ _ _ _ _;first|(refine CN.f rfl (aX3 _ Ab fn n a b q h1 h2 Ab) (fun v h' hl hr=>?_);obtain⟨c,d,rfl,hr'⟩:=hr)|(refine CN.f rfl (aX5 _ fn _ _ q h1 h2 hf Ab) (fun v h' hl hr=>?_);obtain⟨n1,c1,d1,b1,rfl,g1,g2⟩:=hr))|((first|apply oI.z|apply cI.z))|intro (_:Nat)|(show LdN _ _ _ _ _;first|refine LdN.o 0 rfl rfl ?_|refine LdN.o 1 rfl rfl ?_)|(show Sto _ _ _ _;first|refine Sto.l 0 rfl rfl rfl ?_|refine Sto.l 1 rfl rfl rfl ?_))<;>conv=>whnf)|(show cnd _ _ _;first|(apply aD<;>intro _<;>first|(exfalso;omega)|conv=>whnf)|(refine aI ?_))
 all_goals exact RN.a ⟨_,_,_,_,rfl,g1,g2⟩
theorem aX6(q:Rat)(h:aA)(tb:Tb h)(op arg:Int)(neg:Bool)(a b s:Sl)(name:List Nat)(n:Bool)(c d:Sl)(hop:op=4\/op=9/\-32<=arg/\arg<=32\/op=10/\2<=arg/\arg<=8\/op=11/\1<=arg/\arg<=8\/op=12)(w:bP h n c d (some q)):
  Fn0 T F.q93 [.agg #[.int .i64 op,.int .i64 arg,.bool neg,a.val,b.val,.string (txt name),s.val],.agg #[.bool n,c.val,d.val]] h fun v h'=>VQ h' v (unQ op arg q):=by
 have r1:op=4->unQ op arg q=dZ (-q):=fun e=>if_pos e
 have r2:op=9->unQ op arg q=if arg<0/\q=0 then none else dZ (oX q arg):=fun e=>(if_neg Aa).trans (if_pos e)
 have r3:op=12->unQ op arg q=dZ (gP q):=fun e=>(if_neg Aa).trans ((if_neg Aa).trans (if_pos e))
 have r4:op=10->unQ op arg q=if (cJ q arg.toNat).2 then dZ (cJ q arg.toNat).1 else none:=fun e=>(if_neg Aa).trans ((if_neg Aa).trans ((if_neg Aa).trans (if_pos e)))
 have r5:op=11->unQ op arg q=iL arg q:=fun e=>(if_neg Aa).trans ((if_neg Aa).trans ((if_neg Aa).trans (if_neg Aa)))
 obtain⟨R,hR⟩:=AH (unQ op arg q);rw[<-hR] at r1 r2 r3 r4 r5 ⊢;clear hR;have c1:=fun h tb w=>bH4 h tb n c d q w
 have c2:=fun h tb w=>bH5 h tb n c d q w
 have c3:=fun h tb w h1 h2=>bH6 h tb n c d q arg h1 h2 w
 have c4:=fun h tb w h1 h2=>bGr h tb n c d q arg h1 h2 w
 have c5:=fun h tb w h1 h2=>aR8 h tb arg n c d q h1 h2 w
 have o1:=mS.out (-q);have o2:=mS.out (gP q);have o3:=mS.pow q arg;obtain⟨P1,hP1⟩:=AH (eO (-q));obtain⟨P2,hP2⟩:=AH (eO (gP q));obtain⟨P3,hP3⟩:=AH (aNm q arg);obtain⟨X4,hX4⟩:=AH (if (cJ q arg.toNat).2 then dZ (cJ q arg.toNat).1 else none)
 rw[<-hP1] at o1;rw[<-hP2] at o2;rw[<-hP3] at o3;rw[<-hX4] at r4;simp only[<-hP1] at c1;simp only[<-hP2] at c2;simp only[<-hP3] at c3;simp only[<-hX4] at c4;clear hP1 hP2 hP3 hX4;refine f0C ok D.q93 rfl ?_;conv=>whnf
 repeat' first|((first|(show CN _ _ _ _ _ _;first|((first|refine CN.f rfl (c1 _ Ab Ab) (fun v h' hl hr=>?_)|refine CN.f rfl (c2 _ Ab Ab) (fun v h' hl hr=>?_)|refine CN.f rfl (c3 _ Ab Ab Aa Aa) (fun v h' hl hr=>?_));obtain⟨n1,c1',d1,rfl,hn1⟩:=hr)|((first|refine CN.f rfl (c4 _ Ab Ab Aa Aa) (fun v h' hl hr=>?_)|refine CN.f rfl (c5 _ Ab Ab Aa Aa) (fun v h' hl hr=>?_));obtain⟨n1,c1',d1,b1,rfl,g1,g2⟩:=hr)|refine CN.quiet rfl (aPv _ _ _ _ _) ?_)|((first|apply oI.z|apply cI.z))|intro (_:Nat)|(show LdN _ _ _ _ _;first|refine LdN.o 0 rfl rfl ?_|refine LdN.o 1 rfl rfl ?_)|refine Ld.o 2 rfl rfl ?_|(show Sto _ _ _ _;first|refine Sto.l 0 rfl rfl rfl ?_|refine Sto.l 1 rfl rfl rfl ?_))<;>conv=>whnf)|(show cnd _ _ _;first|(apply aD<;>intro _<;>first|(exfalso;omega)|conv=>whnf)|(refine bO (fun hb=>?_) (fun hb=>?_)<;>(first|cases hb|subst hb)<;>(conv=>whnf)))
 all_goals first
  | (rw[r1 Aa];exact RN.a (VQ.out o1 Ab))
  | (rw[r2 Aa];exact RN.a (VQ.out o3 Ab))
  | (rw[r3 Aa];exact RN.a (VQ.out o2 Ab))
  | (rw[r4 Aa];exact RN.a ⟨n1,c1',d1,true,by rw[Vc.eq_true' rfl],fun _=>g1 rfl,fun x=>by cases x⟩)
  | (rw[r5 Aa];exact RN.a ⟨n1,c1',d1,true,by rw[Vc.eq_true' rfl],fun _=>g1 rfl,fun x=>by cases x⟩)
  | (rw[r4 Aa];exact RN.a ⟨n1,c1',d1,false,rfl,fun x=>(by cases x),fun _=>g2 rfl⟩)
  | (rw[r5 Aa];exact RN.a ⟨n1,c1',d1,false,rfl,fun x=>(by cases x),fun _=>g2 rfl⟩)
theorem mS.div(q r:Rat):mS (divR (some q) (some r)) (if r=0 then none else dZ (q / r)):=by
 show mS (if nu r=0 then (0,10) else eO (q / r)) _
 by_cases h:r=0
 .rw[if_pos h,if_pos (cE.2 h)];exact mS.err 10 Ae
 .rw[if_neg h,if_neg fun x=>h (cE.1 x)];exact mS.out _
theorem aR9(q r:Rat)(h:aA)(tb:Tb h)(op:Int)(n:Bool)(c d:Sl)(n':Bool)(c' d':Sl)(hop:op=5\/op=6\/op=7\/op=8\/op=13\/op=14)(w:bP h n c d (some q))(w':bP h n' c' d' (some r)):
  Fn0 T F.q94 [.int .i64 op,.agg #[.bool n,c.val,d.val],.agg #[.bool n',c'.val,d'.val]] h fun v h'=>VQ h' v (biQ op q r):=by
 have r1:op=5->biQ op q r=dZ (q+r):=fun e=>if_pos e
 have r2:op=6->biQ op q r=dZ (q-r):=fun e=>(if_neg Aa).trans (if_pos e)
 have r3:op=7->biQ op q r=dZ (q*r):=fun e=>(if_neg Aa).trans ((if_neg Aa).trans (if_pos e))
 have r4:op=8->biQ op q r=if r=0 then none else dZ (q / r):=fun e=>(if_neg Aa).trans ((if_neg Aa).trans ((if_neg Aa).trans (if_pos e)))
 have r5:op=13->biQ op q r=some (if r<q then r else q):=fun e=>(if_neg Aa).trans ((if_neg Aa).trans ((if_neg Aa).trans ((if_neg Aa).trans (if_pos e))))
 have r6:op=14->biQ op q r=some (if q<r then r else q):=fun e=>(if_neg Aa).trans ((if_neg Aa).trans ((if_neg Aa).trans ((if_neg Aa).trans (if_neg Aa))))
 have tri:=aF1 q r;have m1:op=13->eX q r<0->biQ op q r=some q:=fun x y=>by
  rw[r5 x,if_neg];rcases tri with t|t|t
  .exact fun z=>uC z t.2
  .omega
  .omega
 have m2:op=13->¬eX q r<0->biQ op q r=some r:=fun x y=>by
  rw[r5 x];rcases tri with t|t|t
  .omega
  .rw[t.2];split<;>rfl
  .rw[if_pos t.2]
 have m3:op=14->eX q r<0->biQ op q r=some r:=fun x y=>by
  rw[r6 x];rcases tri with t|t|t
  .rw[if_pos t.2]
  .omega
  .omega
 have m4:op=14->¬eX q r<0->biQ op q r=some q:=fun x y=>by
  rw[r6 x,if_neg];rcases tri with t|t|t
  .omega
  .rw[t.2];exact Rat.lt_irrefl
  .exact fun z=>uC z t.2
 have mq:lt (eX q r) 0=eq op 13->op=13\/op=14->biQ op q r=some q:=fun x y=>by
  by_cases z:eX q r<0
  .rw[Vc.lt_true' z,lF] at x;rcases y with y|y
   .exact m1 y z
   .rw[aH Aa] at x;cases x
  .rw[Vc.lt_false' Aa,lF] at x;rcases y with y|y
   .rw[aX y] at x;cases x
   .exact m4 y z
 have mr:¬(lt (eX q r) 0=eq op 13)->op=13\/op=14->biQ op q r=some r:=fun x y=>by
  by_cases z:eX q r<0
  .rw[Vc.lt_true' z,lF] at x;rcases y with y|y
   .rw[aX y] at x;exact absurd rfl x
   .exact m3 y z
  .rw[Vc.lt_false' Aa,lF] at x;rcases y with y|y
   .exact m2 y z
   .rw[aH Aa] at x;exact absurd rfl x
 clear r5 r6 tri m1 m2 m3 m4;obtain⟨R,hR⟩:=AH (biQ op q r);rw[<-hR] at r1 r2 r3 r4 mq mr ⊢;clear hR;have c1:=fun h tb w w'=>(bHb h n c d n' c' d' (some q) (some r) tb w w').mono fun v h' _ r=>r.nq
 have c2:=fun h tb w w'=>(bHc h n c d n' c' d' (some q) (some r) tb w w').mono fun v h' _ r=>r.nq
 have c3:=fun h tb w w'=>(bHd h n c d n' c' d' (some q) (some r) tb w w').mono fun v h' _ r=>r.nq
 have c4:=fun h tb w w'=>(bHe h n c d n' c' d' (some q) (some r) tb w w').mono fun v h' _ r=>r.nq
 have c5:=fun h tb w w'=>aIv h n c d n' c' d' (some q) (some r) tb w w'
 replace c5:∀h,Tb h->bP h n c d (some q)->bP h n' c' d' (some r)->Fn0 T F.q39 [.agg #[.bool n,c.val,d.val],.agg #[.bool n',c'.val,d'.val]] h fun v _=>v=.tuple #[.int .i64 (eX q r),.int .i64 0]:=c5
 have o1:mS (opR (·+·) (some q) (some r)) (dZ (q+r)):=mS.out (q+r);have o2:mS (opR (· - ·) (some q) (some r)) (dZ (q-r)):=mS.out (q-r);have o3:mS (opR (·*·) (some q) (some r)) (dZ (q*r)):=mS.out (q*r);have o4:=mS.div q r;obtain⟨P1,hP1⟩:=AH (opR (·+·) (some q) (some r));obtain⟨P2,hP2⟩:=AH (opR (· - ·) (some q) (some r));obtain⟨P3,hP3⟩:=AH (opR (·*·) (some q) (some r));obtain⟨P4,hP4⟩:=AH (divR (some q) (some r));obtain⟨C,hC⟩:=AH (eX q r);rw[<-hP1] at o1;rw[<-hP2] at o2;rw[<-hP3] at o3;rw[<-hP4] at o4;simp only[<-hP1] at c1;simp only[<-hP2] at c2;simp only[<-hP3] at c3;simp only[<-hP4] at c4;simp only[<-hC] at c5 mq mr;clear hP1 hP2 hP3 hP4 hC;refine f0C ok D.q94 rfl ?_;conv=>whnf
 repeat' first|((first|(show CN _ _ _ _ _ _;first|((first|refine CN.f rfl (c1 _ Ab Ab Ab) (fun v h' hl hr=>?_)|refine CN.f rfl (c2 _ Ab Ab Ab) (fun v h' hl hr=>?_)|refine CN.f rfl (c3 _ Ab Ab Ab) (fun v h' hl hr=>?_)|refine CN.f rfl (c4 _ Ab Ab Ab) (fun v h' hl hr=>?_));obtain⟨n1,a1,b1,rfl,hn1⟩:=hr)|(refine CN.f rfl (c5 _ Ab Ab Ab) (fun v h' hl hr=>?_);subst hr)|refine CN.quiet rfl (aPv _ _ _ _ _) ?_)|((first|apply oI.z|apply cI.z))|intro (_:Nat)|(show LdN _ _ _ _ _;first|refine LdN.o 0 rfl rfl ?_|refine LdN.o 1 rfl rfl ?_|refine LdN.o 2 rfl rfl ?_)|refine Sto.l 0 rfl rfl rfl ?_)<;>conv=>whnf)|(show cnd _ _ _;first|(apply aD<;>intro _<;>first|(exfalso;omega)|conv=>whnf)|(refine wF (fun _=>?_) (fun hne=>?_)<;>first|exact absurd rfl hne|(conv=>whnf)))
 all_goals first
  | (rw[r1 Aa];exact RN.a (VQ.out o1 Ab))
  | (rw[r2 Aa];exact RN.a (VQ.out o2 Ab))
  | (rw[r3 Aa];exact RN.a (VQ.out o3 Ab))
  | (rw[r4 Aa];exact RN.a (VQ.out o4 Ab))
  | (rw[mq Ab Aa];exact RN.a ⟨n,c,d,true,by rw[Vc.eq_true' rfl],fun _=>⟨q,rfl,Ab⟩,fun x=>by cases x⟩)
  | (rw[mq Ab Aa];exact RN.a ⟨n,c,d,true,by rw[Vc.eq_true' rfl],fun _=>⟨q,rfl,bP.mono Ab Ab⟩,fun x=>by cases x⟩)
  | (rw[mr Ab Aa];exact RN.a ⟨n',c',d',true,by rw[Vc.eq_true' rfl],fun _=>⟨r,rfl,bP.mono Ab Ab⟩,fun x=>by cases x⟩)
end Go.Proofs.Y
/- Values of variables that come in: a slice of them in memory. -/
namespace Go.Vc
open Go Go.Dig
theorem LdN.hasN{h:aA}{L:Vc.Own}{b o m:Nat}{k:Value->Prop}(vs:List Value)(hl:vs.length=m)(hv:∀(i:Nat) v,vs[i]?=some v->Has h L ⟨b,o+i,none⟩ v)(hk:k (.agg vs.toArray)):LdN h L ⟨b,o,none⟩ m k:=
 ⟨vs,hl,fun i hi=>by
   rw[bQ];exact hv i _ (by rw[bIp,bIq Aa];rfl),hk⟩
theorem LdN.hasC{h:aA}{L:Vc.Own}{b o m:Nat}{k:Value->Prop}{x:Value}(vs:List Value)(hl:vs.length+1=m)(hx:Has h L ⟨b,o,none⟩ x)(hv:∀(i:Nat) v,vs[i]?=some v->Has h L ⟨b,o+1+i,none⟩ v)(hk:k (.agg (x::vs).toArray)):LdN h L ⟨b,o,none⟩ m k:=
 LdN.hasN (x::vs) hl (fun i v e=>by
   cases i with
   | zero=>cases e;exact hx
   | succ i=>
     rw[show o+(i+1)=o+1+i by omega]
     exact hv i v (by simpa using e)) hk
end Go.Vc
namespace Go.Proofs.Y
open Go Go.Vc Go.Dig
def tK(h:aA)(c:Array Value):Nat->List (List Nat × Option Rat)->Prop
 | _,[]=>True
 | off,(n,x)::bs=>(c[off]?=some (.string (txt n))/\(∀y∈n,y<256)/\∃ng,∃a b:Sl,(∀i v,[Value.bool ng,a.val,b.val][i]?=some v->c[off+1+i]?=some v)/\bP h ng a b x)/\tK h c (off+4) bs
structure IsV (h:aA) (s:Sl) (bs:List (List Nat × Option Rat)):Prop where
 len:s.l=bs.length
 cap:s.l<=s.c
 mem:bs=[]\/∃bl off c T fz,s.a=some ⟨bl,off,none⟩/\h bl=some (.cells c T fz)/\tK h c off bs
theorem tK.up{h h':aA}(hl:h.le h'){c:Array Value}:∀{bs:List (List Nat × Option Rat)} {off:Nat},tK h c off bs->tK h' c off bs
 | [],_,_=>trivial
 | (_,_)::_,_,⟨⟨h1,h2,ng,a,b,h4,h5⟩,r⟩=>⟨⟨h1,h2,ng,a,b,h4,h5.mono hl⟩,tK.up hl r⟩
theorem IsV.mono{h h':aA}{s:Sl}{bs:List (List Nat × Option Rat)}(w:IsV h s bs)(hl:h.le h'):IsV h' s bs:=
 ⟨w.len,w.cap,w.mem.elim .inl fun ⟨bl,off,c,T,fz,k1,k2,k3⟩=>.inr ⟨bl,off,c,T,fz,k1,hl _ _ k2,tK.up hl k3⟩⟩
theorem tK.get{h:aA}{c:Array Value}:∀{bs:List (List Nat × Option Rat)} {off j:Nat} {n:List Nat} {x:Option Rat},tK h c off bs->bs[j]?=some (n,x)->
  c[off+j*4]?=some (.string (txt n))/\(∀y∈n,y<256)/\∃ng,∃a b:Sl,(∀i v,[Value.bool ng,a.val,b.val][i]?=some v->c[off+j*4+1+i]?=some v)/\bP h ng a b x
 | [],_,_,_,_,_,e=>by simp at e
 | (n',t')::bs,off,0,n,t,w,e=>by
  simp at e;obtain⟨rfl,rfl⟩:=e;rw[bKi,bJz];exact w.1
 | (n',t')::bs,off,j+1,n,t,w,e=>by
  have:=tK.get (j:=j) w.2 (by simpa using e);rw[show off+4+j*4=off+(j+1)*4 by omega] at this
  exact this
theorem IsV.bytes{h:aA}{s:Sl}{bs:List (List Nat × Option Rat)}(w:IsV h s bs){j:Nat}{n:List Nat}{x:Option Rat}(hj:bs[j]?=some (n,x)):∀y∈n,y<256:=by
 rcases w.mem with e|⟨bl,off,c,T,fz,e1,e2,e3⟩
 .subst e;simp at hj
 .exact (tK.get e3 hj).2.1
theorem Idx.valu{h:aA}{s:Sl}{bs:List (List Nat × Option Rat)}(w:IsV h s bs){i:Int}{k:Addr->Prop}(j:Nat)(n:List Nat)(x:Option Rat)(hi:i=j)(ht:bs[j]?=some (n,x))
  (hk:∀(bl off:Nat) (ng:Bool) (a b:Sl),(∀y∈n,y<256)->bP h ng a b x->
    (∀h' L,h.le h'->Has h' L ⟨bl,off,none⟩ (.string (txt n)))->(∀h' L (i:Nat) v,h.le h'->[Value.bool ng,a.val,b.val][i]?=some v->Has h' L ⟨bl,off+1+i,none⟩ v)->k ⟨bl,off,none⟩):Idx s.a i s.l 4 k:=by
 obtain⟨hj,-⟩:=bIr.1 ht;rcases w.mem with e|⟨bl,off,c,T,fz,e1,e2,e3⟩
 .subst e;simp at ht
 .obtain⟨g1,g2,ng,a,b,h2,h3⟩:=tK.get e3 ht;refine Idx.of j e1 hi (by rw[w.len];exact hj) ?_;exact hk bl (off+j*4) ng a b g2 h3 (fun h' L hl=>Has.imm (hl _ _ e2) g1) fun h' L i v hl hv=>Has.imm (hl _ _ e2) (h2 i v hv)
def aS(bs:List (List Nat × Option Rat)):List (List Nat × Rat):=bs.map fun b=>(b.1,b.2.getD 0)
def iY(bs:List (List Nat × Option Rat)):Prop:=∀b∈bs,b.2.isSome=true
instance (bs:List (List Nat × Option Rat)):Decidable (iY bs):=by unfold iY;exact inferInstance
def jN(bs:List (List Nat × Option Rat))(t:Tr):Rat × Bool × Int:=
 if ¬bB t then (0,false,40) else if ¬eS bs then (0,false,41) else if ¬iY bs then (0,false,1) else match bL (aS bs) t with
  | none=>(0,false,0)
  | some q=>(q,true,0)
theorem zA{bs:List (List Nat × Option Rat)}{t:Tr}(h:¬bB t):jN bs t=(0,false,40):=if_pos h
theorem zB{bs:List (List Nat × Option Rat)}{t:Tr}(h:bB t)(n:¬eS bs):jN bs t=(0,false,41):=(if_neg fun x=>x h).trans (if_pos n)
theorem zC{bs:List (List Nat × Option Rat)}{t:Tr}(h:bB t)(n:eS bs)(s:¬iY bs):jN bs t=(0,false,1):=(if_neg fun x=>x h).trans ((if_neg fun x=>x n).trans (if_pos s))
theorem uJ{bs:List (List Nat × Option Rat)}{t:Tr}(h:bB t)(n:eS bs)(s:iY bs)(v:bL (aS bs) t=none):jN bs t=(0,false,0):=
 (if_neg fun x=>x h).trans ((if_neg fun x=>x n).trans ((if_neg fun x=>x s).trans (by rw[v])))
theorem uK{bs:List (List Nat × Option Rat)}{t:Tr}(h:bB t)(n:eS bs)(s:iY bs){q:Rat}(v:bL (aS bs) t=some q):jN bs t=(q,true,0):=
 (if_neg fun x=>x h).trans ((if_neg fun x=>x n).trans ((if_neg fun x=>x s).trans (by rw[v])))
theorem aKy:iY []:=fun _ h=>by cases h
theorem uL{ps:List (List Nat × Option Rat)}{b:List Nat × Option Rat}:iY (ps++[b])↔iY ps/\b.2.isSome=true:=by
 unfold iY;simp only[bIx,bI2];exact⟨fun h=>⟨fun x hx=>h x (.inl hx),h b (.inr rfl)⟩,fun h x hx=>hx.elim (h.1 x) fun e=>e▸h.2⟩
theorem zR(ps:List (List Nat × Option Rat))(n:List Nat)(x:Option Rat):aS (ps++[(n,x)])=aS ps++[(n,x.getD 0)]:=by
 unfold aS;rw[bI3];rfl
theorem mT(ps:List (List Nat × Option Rat)):(aS ps).map (·.1)=ps.map (·.1):=by
 unfold aS;rw[bL4];rfl
theorem aSa{x:Option Rat}(h:∀q,x=some q->fits q):fits (x.getD 0):=by
 cases x with
 | none=>exact gC
 | some q=>exact h q rfl
end Go.Proofs.Y