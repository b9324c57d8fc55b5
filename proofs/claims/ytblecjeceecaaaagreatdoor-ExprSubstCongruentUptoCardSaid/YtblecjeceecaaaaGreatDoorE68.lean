/- Values of trees, the document's side: operations on values. -/
import Derived.Test.YtblecjeceecaaaaGreatDoorE62
set_option linter.all false
set_option maxHeartbeats 1000000
set_option maxRecDepth 20000
namespace Go.Proofs.Y
open Go Go.Vc Go.Dig
def RQ(h:aA)(v:Value)(x:Option Rat):Prop:=∃n,∃s t:Sl,∃bb,v=.tuple #[.agg #[.bool n,s.val,t.val],.bool bb]/\(bb=true->∃q,x=some q/\n=sg q/\IsQ h s t q/\Sr 4294967296 q)/\(bb=false->x=none)
end Go.Proofs.Y
/- One kid turned, on both sides; nodes made. -/
namespace Go.Vc
open Go Go.Dig
end Go.Vc
namespace Go.Proofs.Y
open Go Go.Vc Go.Dig
theorem aYc(op arg:Int)(ho:-9223372036854775808<=op/\op<=9223372036854775807)(ha:-9223372036854775808<=arg/\arg<=9223372036854775807)(ks:List Tr)(s:Sl)(h:aA)(hk:IsK h s ks):Fn0 T F.q119 [.int .i64 op,.int .i64 arg,s.val] h fun v h'=>VE h' v (aG op arg ks):=by
 refine f0C ok D.q119 rfl ?_;conv=>whnf
 repeat' ((first|((first|apply oI.z|apply cI.z))|intro (_:Nat)|refine LdN.o 0 rfl rfl ?_|refine Sto.l 0 rfl rfl rfl ?_)<;>conv=>whnf)
 exact RN.a (VE.node ho ha hk)
def aYd:Option Rat->Tr × Nat
 | some q=>(mkL q,0)
 | none=>(bI,1)
theorem VE.numQ{h:aA}{c d:Sl}{p:Rat}(hf:fits p)(w:eA h c d p):IsE h [.int .i64 1,.int .i64 0,.bool (sg p),c.val,d.val,.string (txt []),.slice none 0 0] (numQ p):=
 IsE.mkK (s:=⟨none,0,0⟩) Ae Ae (lO w (oK hf)) (fun _ x=>by cases x) (IsK.nil _)
theorem aSd(q:Rat):fits (eO q).1:=(Fok.out q).ft
def bG0(h:aA)(v:Value)(q:Rat):Prop:=∃a tt b,v=.tuple #[a,.bool b]/\VE h a tt/\(b=true->fits q/\tt=mkL q)/\(b=false->¬fits q)
theorem bBy{q:Rat}:(sg q=true->q<0/\gP q=-q)/\(sg q=false->¬q<0/\gP q=q):=by
 unfold sg;constructor
 .intro h;have h:=of_decide_eq_true h;have h1:q<0:=by
   rcases Classical.em (q<0) with x|x
   .exact x
   .have:=Rat.num_nonneg.2 (Rat.not_lt.1 x);omega
  exact⟨h1,aWa (Rat.not_le.2 h1)⟩
 .intro h;have h:=of_decide_eq_false h;have h1:0<=q:=Rat.num_nonneg.1 Aa;exact⟨Rat.not_lt.2 h1,aJz h1⟩
theorem aKz{q:Rat}:fits (gP q)↔fits q:=by unfold fits;rw[vG,rA]
theorem bBz{q:Rat}:(sg q=true->mkL q=aG 4 0 [numQ (gP q)])/\(sg q=false->mkL q=numQ (gP q)):=by
 obtain⟨h1,h2⟩:=bBy (q:=q);unfold mkL;exact⟨fun x=>by rw[if_pos (h1 x).1,(h1 x).2],fun x=>by rw[if_neg (h2 x).1,(h2 x).2]⟩
theorem bEv(h:aA)(a b:Sl)(q:Rat)(w:eJ h a b q)(z:Sz 1073741824 q):Fn0 T F.q124 [.agg #[.bool (sg q),a.val,b.val]] h fun v h'=>bG0 h' v q:=by
 have w':eJ h a b (gP q):=⟨by rw[vG];exact w.num,by rw[rA];exact w.den⟩
 have c1:=fun h w=>jZ h a b (gP q) w ⟨by rw[vG];exact z.num,by rw[rA];exact z.den⟩
 rw[aL9] at c1;have hf:=aSd (gP q);have e1:(eO (gP q)).2=0->fits q/\(eO (gP q)).1=gP q:=fun x=>by
  unfold eO at x ⊢
  split at x
  .rename_i y;rw[if_pos y];exact⟨aKz.1 y,rfl⟩
  .cases x
 have e2:(eO (gP q)).2≠0->¬fits q:=fun x y=>x (by unfold eO;rw[if_pos (aKz.2 y)])
 obtain⟨l1,l2⟩:=bBz (q:=q);obtain⟨S,hS⟩:=AH (sg q);obtain⟨P,hP⟩:=AH (eO (gP q));obtain⟨P1,P2⟩:=P;rw[<-hS] at l1 l2 ⊢;simp only[<-hP] at c1 hf e1 e2;replace c1:∀h,eJ h a b (gP q)->Fn0 T F.q49 [.agg #[.bool false,a.val,b.val]] h fun v h'=>∃c d:Sl,v=.tuple #[.agg #[.bool (sg P1),c.val,d.val],.int .i64 P2]/\eA h' c d P1:=c1
 have fin:∀h (v:Value) (t:Tr),(S=true->t=aG 4 0 [numQ P1])->(S=false->t=numQ P1)->VE h v t->bG0 h (.tuple #[v,.bool (eq P2 0)]) q:=fun h v t s1 s2 ve=>by
  refine⟨v,t,_,rfl,ve,fun x=>?_,fun x=>e2 fun y=>?_⟩
  .have y:P2=0:=by
    by_cases y:P2=0
    .exact y
    .rw[lF,aH y] at x;cases x
   obtain⟨y1,y2⟩:=e1 y;refine⟨y1,?_⟩;have y2:P1=gP q:=y2;cases S with
   | true=>rw[s1 rfl,l1 rfl,y2]
   | false=>rw[s2 rfl,l2 rfl,y2]
  .rw[lF,aX y] at x;cases x
 have hf:fits P1:=hf;clear e1 e2 l1 l2 hS hP w z;refine f0C ok D.q124 rfl ?_;cases S
 .conv=>whnf
  repeat' ((first|(apply bJ.go)|(show CN _ _ _ _ _ _;(refine CN.f rfl (c1 _ Ab) (fun v h' hl2 hr=>?_);obtain⟨c,d,rfl,hq⟩:=hr))|((first|apply oI.z|apply cI.z))|intro (_:Nat)|(show LdN _ _ _ _ _;first|refine LdN.o 0 rfl rfl ?_|refine LdN.o 1 rfl rfl ?_|refine LdN.o 2 rfl rfl ?_)|refine Ld.o 1 rfl rfl ?_|(show Sto _ _ _ _;first|refine Sto.l 0 rfl rfl rfl ?_|refine Sto.l 1 rfl rfl rfl ?_|refine Sto.l 2 rfl rfl rfl ?_))<;>conv=>whnf)
  all_goals exact RN.a (fin _ _ (numQ P1) (fun x=>by cases x) (fun _=>rfl) ⟨1,0,_,c,d,[],⟨none,0,0⟩,rfl,VE.numQ hf Ab⟩)
 .conv=>whnf
  repeat' ((first|(apply bJ.go)|(show CN _ _ _ _ _ _;first|(refine CN.f rfl (c1 _ Ab) (fun v h' hl2 hr=>?_);obtain⟨c,d,rfl,hq⟩:=hr;have hE:=VE.numQ hf hq)|(refine CN.keep 0 rfl rfl (fun hl2=>?_);refine CN.f rfl (aYc 4 0 Ae Ae [numQ P1] ⟨some ⟨_,0,none⟩,1,1⟩ _ (IsK.one (hE.mono Ad) rfl hl2)) (fun v h3 hl3 hr=>?_);obtain⟨op9,ar9,ng9,nn9,dd9,nm9,ss9,rfl,hE9⟩:=hr))|((first|apply oI.z|apply cI.z))|intro (_:Nat)|(show LdN _ _ _ _ _;first|refine LdN.o 0 rfl rfl ?_|refine LdN.o 1 rfl rfl ?_|refine LdN.o 2 rfl rfl ?_)|refine Ld.o 1 rfl rfl ?_|(show Sto _ _ _ _;first|refine Sto.l 0 rfl rfl rfl ?_|refine Sto.l 1 rfl rfl rfl ?_|refine Sto.l 2 rfl rfl rfl ?_))<;>conv=>whnf)
  all_goals exact RN.a (fin _ _ _ (fun _=>rfl) (fun x=>by cases x) ⟨op9,ar9,ng9,nn9,dd9,nm9,ss9,rfl,hE9⟩)
theorem aNn(h:aA)(tb:Tb h)(n:Bool)(a b:Sl)(x:Option Rat)(w:bP h n a b x):Fn0 T F.q68 [.agg #[.bool n,a.val,b.val]] h fun v h'=>bC8 h' v (aYd x):=by
 obtain⟨l,m,v,rfl⟩:=w.ex;have c1:=fun h tb v=>iU h tb n a b l m v
 have k0:¬okR n l m->aYd (iV n l m)=(bI,1):=fun x=>by unfold iV;rw[if_neg x];rfl
 have k1:okR n l m->aYd (iV n l m)=(mkL (aK n l m),0):=fun x=>by unfold iV;rw[if_pos x];rfl
 have k2:okR n l m->fits (aK n l m):=fun x=>x.2.2
 have c2:=fun h s t w (x:okR n l m)=>bEv h s t (aK n l m) w (oK (k2 x))
 obtain⟨R,hR⟩:=AH (aYd (iV n l m));obtain⟨q,hq⟩:=AH (aK n l m);rw[<-hR] at k0 k1 ⊢;rw[<-hq] at k1 k2;simp only[<-hq] at c1 c2;clear hR;refine f0C ok D.q68 rfl ?_;conv=>whnf
 repeat' first|((first|(show CN _ _ _ _ _ _;first|(refine CN.f rfl (c1 _ Ab Ab) (fun v h' hl2 hr=>?_);obtain⟨s,c,d,rfl,hr2⟩:=hr)|(obtain⟨rfl,hq2⟩:=hr2 Ab;refine CN.f rfl (c2 _ _ _ hq2 Ab) (fun v h' hl2 hr=>?_);obtain⟨_,tt,bb,rfl,⟨op9,ar9,ng9,nn9,dd9,nm9,ss9,rfl,hE9⟩,t1,t2⟩:=hr))|((first|apply oI.z|apply cI.z))|intro (_:Nat)|(show LdN _ _ _ _ _;first|refine LdN.o 0 rfl rfl ?_|refine LdN.o 1 rfl rfl ?_|refine LdN.o 2 rfl rfl ?_)|(show Sto _ _ _ _;first|refine Sto.l 0 rfl rfl rfl ?_|refine Sto.l 1 rfl rfl rfl ?_|refine Sto.l 2 rfl rfl rfl ?_))<;>conv=>whnf)|(show cnd _ _ _;first|(refine aI ?_)|(apply aU<;>intro _<;>first|(exfalso;omega)|conv=>whnf))
 all_goals first
  | (rw[k0 Ab];exact RN.a ⟨_,rfl,VE.zero _⟩)
  | (have hk:okR n l m:=Ab
     rw[k1 hk];have e:tt=mkL q:=by
       cases bb with
       | true=>exact (t1 rfl).2
       | false=>exact absurd (k2 hk) (t2 rfl)
     subst e;exact RN.a ⟨_,rfl,op9,ar9,ng9,nn9,dd9,nm9,ss9,rfl,hE9⟩)
end Go.Proofs.Y