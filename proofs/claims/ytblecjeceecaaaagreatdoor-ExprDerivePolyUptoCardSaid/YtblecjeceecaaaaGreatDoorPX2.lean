/- The formal derivative as a tree of terms: plain mathematics. -/
import Derived.Test.YtblecjeceecaaaaGreatDoorPG1
import Derived.Test.YtblecjeceecaaaaGreatDoorVcStop
import Derived.Test.YtblecjeceecaaaaGreatDoorE68
set_option linter.all false
set_option maxHeartbeats 4000000
set_option maxRecDepth 20000
namespace Go.Proofs.Y
open Go Go.Vc Go.Dig
def pwM(s:List UInt8)(n:Nat):Mon:=if n=0 then [] else [(s,n)]
theorem can_oneM{s:List UInt8}{n:Nat}(h:n≠0):sX [((s,n):Fac)]:=⟨List.pairwise_cons.2 ⟨fun _ h=>(by simp at h),List.Pairwise.nil⟩,fun t ht=>by rw[bI2] at ht;subst ht;exact h⟩
theorem can_nilM:sX ([]:Mon):=⟨List.Pairwise.nil,fun t ht=>by simp at ht⟩
theorem cf_pw(s z:List UInt8)(n:Nat):cf (pwM s n) z=if s=z then n else 0:=by
 unfold pwM
 split
 .rename_i h;subst h;rw[pF]
  split<;>rfl
 .rw[aV,pF]
  split
  .exact bJz _
  .rfl
theorem can_pw(s:List UInt8)(n:Nat):sX (pwM s n):=by
 unfold pwM
 split
 .exact can_nilM
 .rename_i h;exact can_oneM h
theorem pln_pw{s:List UInt8}(h:s.take 4≠eR)(n:Nat):Pln (pwM s n):=by
 unfold pwM
 split
 .exact fun t ht=>by simp at ht
 .exact fun t ht=>by rw[bI2] at ht;subst ht;exact h
theorem sm_unpow{s:List UInt8}(h:s.take 4≠eR)(f:Mon->Rat):∀n:Nat,sm f (xN [([(s,1)],1)] n)=f (pwM s n)
 | 0=>by
  show 1*f []+0=f (pwM s 0)
  rw[bKb,bL6];rfl
 | n+1=>by
  show sm f (bZ (tmL (xN [([(s,1)],1)] n) [([(s,1)],1)]))=_
  rw[dW,aG9,nP];show 1*sm (fun y=>f (jn [(s,1)] y)) (xN [([(s,1)],1)] n)+0=_
  rw[sm_unpow h _ n,bKb,bL6];have e:jn [(s,1)] (pwM s n)=pwM s (n+1):=mQ (nM _ _) (can_pw _ _) fun z=>by
   have h1:Pln [((s,1):Fac)]:=pln_pw h 1;rw[aM7 h1 (pln_pw h n),show ([(s,1)]:Mon)=pwM s 1 from rfl,cf_pw,cf_pw,cf_pw]
   split<;>omega
  rw[e]
def slopeT(e:Tr)(l:List (Tr × Nat)):Tr:=l.foldl (fun e p=>aG 7 0 [e,aG 9 (p.2:Int) [p.1]]) e
def monT(m:Mon)(l:List Fac):Mon:=l.foldl (fun m t=>jn m (pwM t.1 t.2)) m
def Rds2:List (Tr × Nat)->List Fac->Prop
 | [],[]=>True
 | p::l,t::m=>p.2=t.2/\unP p.1=[([(t.1,1)],1)]/\t.1.take 4≠eR/\Rds2 l m
 | _,_=>False
theorem un_slope:∀{l:List (Tr × Nat)} {m:List Fac} {e:Tr} {c:Rat} {m0:Mon},Rds2 l m->(∀f,sm f (unP e)=c*f m0)->∀f,sm f (unP (slopeT e l))=c*f (monT m0 m)
 | [],[],_,_,_,_,he,f=>he f
 | [],_::_,_,_,_,h,_,_=>h.elim
 | _::_,[],_,_,_,h,_,_=>h.elim
 | p::l,t::m,e,c,m0,⟨h1,h2,h3,h4⟩,he,f=>by
  refine un_slope (e:=aG 7 0 [e,aG 9 (p.2:Int) [p.1]]) (m0:=jn m0 (pwM t.1 t.2)) h4 (fun g=>?_) f
  unfold aG;rw[mR,un_powE Aa,h2,Int.natAbs_natCast,dW,nP,he,sm_unpow h3,h1]
theorem cf_mon(z:List UInt8):∀(l:List Fac) (m:Mon),Pln m->(∀t∈l,t.1.take 4≠eR)->cf (monT m l) z=cf m z+cf l z
 | [],m,_,_=>rfl
 | t::l,m,hm,hl=>by
  have h1:=hl t (bIw ..);show cf (monT (jn m (pwM t.1 t.2)) l) z=_;rw[cf_mon z l _ (bD5 hm (pln_pw h1 _)) (fun u hu=>hl u (bIz _ hu)),aM7 hm (pln_pw h1 _),cf_pw,aV]
  split<;>omega
theorem can_mon:∀(l:List Fac) (m:Mon),sX m->sX (monT m l)
 | [],_,h=>h
 | _::l,_,_=>can_mon l _ (nM _ _)
def lessF(x:List UInt8)(m:Mon):List Fac:=m.map fun t=>(t.1,if t.1=x then t.2-1 else t.2)
theorem mon_less{x:List UInt8}{m:Mon}(hp:Pln m):monT [] (lessF x m)=dcM x m:=by
 refine mQ (can_mon _ _ can_nilM) (eH _) fun z=>?_
 rw[cf_mon z _ [] (fun t ht=>by simp at ht) (fun t ht=>?_),pF,bJc]
 .exact (aGt _ z).symm
 .obtain⟨u,hu,rfl⟩:=List.mem_map.1 ht;exact hp u hu
def sumTr(s:Tr)(l:List Tr):Tr:=l.foldl (fun s t=>aG 5 0 [s,t]) s
def zeroN:Tr:=aG 1 0 []
theorem un_zeroN:unP zeroN=[]:=by
 unfold zeroN aG;rw[un_numE,qA (show evl 4294967296 []=0 from bH _)];rfl
def Slp(x:List UInt8):List Tr->Pol->Prop
 | [],[]=>True
 | e::l,t::p=>(∀f,sm f (unP e)=t.2*dn x f t.1)/\Slp x l p
 | _,_=>False
theorem un_sum{x:List UInt8}(f:Mon->Rat):∀{l:List Tr} {p:Pol} {s:Tr},Slp x l p->sm f (unP (sumTr s l))=sm f (unP s)+sm (dn x f) p
 | [],[],s,_=>(bL6 _).symm
 | [],_::_,_,h=>h.elim
 | _::_,[],_,h=>h.elim
 | e::l,t::p,s,⟨h1,h2⟩=>by
  show sm f (unP (sumTr (aG 5 0 [s,e]) l))=_
  rw[un_sum f h2];unfold aG;rw[rN,dW,mH,h1,dQ,bKb,bLy]
theorem slope_one{x:List UInt8}{m:Mon}{c:Rat}{l:List (Tr × Nat)}(hs:kN m)(hp:Pln m)(h:Rds2 l (lessF x m))(f:Mon->Rat):sm f (unP (slopeT (mkL (c*((cf m x:Nat):Rat))) l))=c*dn x f m:=by
 rw[un_slope (c:=c*((cf m x:Nat):Rat)) (m0:=[]) h (fun g=>by rw[un_mkL,sm_con]) f,mon_less hp]
 unfold dn;rw[bLc]
theorem slope_none{x:List UInt8}{m:Mon}{c:Rat}(h:cf m x=0)(f:Mon->Rat):sm f (unP zeroN)=c*dn x f m:=by
 unfold dn;rw[un_zeroN,h,show ((0:Nat):Rat)=0 from rfl,Rat.zero_mul,bNd];rfl
theorem der_formal{nm:List Nat}(hn:fD nm){t d:Tr}{l:List Tr}{p q r:Pol}(hok:okG t)(hg:okG (bDx id nm t))(pt:nS t)(h1:aO t=.ok p)(hd:key d=key (bDq (bDx id nm t)))(h2:aO d=.ok q)
  (hl:Slp (b8 nm) l p) (h3:aO (sumTr zeroN l)=.ok r):q=r:=by
 obtain⟨hD,hP⟩:=der_un hn t hok pt;refine aU8 ?_ ?_ fun f=>?_
 .rw[<-aAu d h2];exact aWw d
 .rw[<-aAu _ h3];exact aWw _
 .rw[<-aAu d h2,<-aAu _ h3,bD8 d _ hd,un_sim _ hg hP,hD.2.2,aAu t h1,un_sum f hl,un_zeroN];exact (bMy _).symm
end Go.Proofs.Y
/- The atoms of the form of a polynomial tree: plain mathematics. -/
namespace Go.Proofs.Y
open Go Go.Vc Go.Dig
def KeyP(Q:List UInt8->Prop)(p:Pol):Prop:=∀t∈p,∀f∈t.1,Q f.1
section
variable {Q:List UInt8->Prop}
theorem key_tm{a b:Pol}(ha:KeyP Q a)(hb:KeyP Q b):KeyP Q (tmL a b):=fun t ht=>by
 unfold tmL at ht;obtain⟨x,hx,ht⟩:=List.mem_flatMap.1 ht;obtain⟨y,hy,rfl⟩:=List.mem_map.1 ht;exact bBn (P:=Q) (ha x hx) (hb y hy)
theorem key_pl{a b:Pol}(k:Rat)(ha:KeyP Q a)(hb:KeyP Q b):KeyP Q (plL a b k):=fun t ht=>by
 unfold plL at ht;rcases bIx.1 ht with ht|ht
 .exact ha t ht
 .obtain⟨y,hy,rfl⟩:=List.mem_map.1 ht;exact hb y hy
theorem key_norm{l:Pol}(h:KeyP Q l):KeyP Q (bZ l):=tB (P:=fun m:Mon=>∀f∈m,Q f.1) h
theorem key_one(q:Rat):KeyP Q [([],q)]:=fun t ht f hf=>by
 rw[bI2] at ht;subst ht;simp at hf
theorem key_nil:KeyP Q []:=fun t ht=>by simp at ht
theorem key_con(q:Rat):KeyP Q (jU q):=by
 unfold jU
 split
 .exact key_nil
 .exact key_one q
theorem key_pow{a:Pol}(h:KeyP Q a):∀n:Nat,KeyP Q (xN a n)
 | 0=>key_one 1
 | n+1=>key_norm (key_tm (key_pow h n) h)
end
mutual
def LfT(Q:List UInt8->Prop):Tr->Prop
 | .mk op arg neg l m name ks=>((op=2\/op=3)->Q (b8 (aE (.mk op arg neg l m name ks))))/\LfTs Q ks
def LfTs(Q:List UInt8->Prop):List Tr->Prop
 | []=>True
 | t::ts=>LfT Q t/\LfTs Q ts
end
theorem lfTs_of{Q:List UInt8->Prop}:∀{ts:List Tr},(∀t∈ts,LfT Q t)->LfTs Q ts
 | [],_=>by rw[LfTs];trivial
 | t::ts,h=>by rw[LfTs];exact⟨h t (bIw ..),lfTs_of fun u hu=>h u (bIz _ hu)⟩
theorem key_unP{Q:List UInt8->Prop}:∀t:Tr,okG t->nS t->LfT Q t->KeyP Q (unP t):=by
 refine eE fun t ih=>?_
 intro hok hp hq;obtain⟨op,arg,neg,l,m,name,ks⟩:=t;rw[okG] at hok;rw[nS] at hp;rw[LfT] at hq;obtain⟨hnb,hks⟩:=hok;obtain⟨hop,hpk⟩:=hp;obtain⟨hl,hqk⟩:=hq;have hn1:=hnb.1;by_cases h1:op=1
 .subst h1;rw[un_numE];exact key_con _
 by_cases h23:op=2\/op=3
 .rw[unP,aHf h1 Aa];intro t ht f hf;rw[bI2] at ht;subst ht;rw[bI2] at hf;subst hf;exact hl h23
 by_cases hone:op=4\/op=9
 .obtain⟨k,rfl⟩:=aM1 hn1 (by unfold bM;rcases hone with rfl|rfl<;>rfl);rw[aJl] at hks;rw[tH] at hpk;rw[LfTs] at hqk;have hd:=ih k (bD (j:=0) rfl) hks.1 hpk.1 hqk.1;rcases hone with rfl|rfl
  .rw[bBg];exact key_norm (key_pl _ key_nil hd)
  .rw[un_powE Aa];exact key_pow hd _
 .obtain⟨k,k',rfl⟩:=aWe hn1 (by unfold bM;rw[if_neg Aa,if_neg Aa,if_pos Aa]);rw[aJl,aJl] at hks;rw[tH,tH] at hpk;rw[LfTs,LfTs] at hqk;have hd:=ih k (bD (j:=0) rfl) hks.1 hpk.1 hqk.1;have hd':=ih k' (bD (j:=1) rfl) hks.2.1 hpk.2.1 hqk.2.1;have h57:op=5\/op=6\/op=7:=Aa;rcases h57 with rfl|rfl|rfl
  .rw[rN];exact key_norm (key_pl _ hd hd')
  .rw[bBh];exact key_norm (key_pl _ hd hd')
  .rw[mR];exact key_norm (key_tm hd hd')
def Atm(s:List UInt8):Prop:=(∃n,fD n/\s=b8 n)\/s=b8 [112,105]
theorem lf_atm:∀t:Tr,okG t->LfT Atm t:=by
 refine eE fun t ih=>?_
 intro hok;obtain⟨op,arg,neg,l,m,name,ks⟩:=t;rw[okG] at hok;rw[LfT];obtain⟨hnb,hks⟩:=hok;refine⟨fun h=>?_,lfTs_of fun u hu=>?_⟩
 .rcases h with rfl|rfl
  .have hnm:=hnb.2.2.2.1;rw[if_pos rfl] at hnm;exact .inl ⟨name,hnm,by rw[aE];rfl⟩
  .exact .inr (by rw[aE];rfl)
 .obtain⟨j,hj⟩:=List.getElem?_of_mem hu;exact ih u (bD hj) (okGs_mem hks hu)
def Bnd(vals:List (List Nat × Rat))(s:List UInt8):Prop:=∃n x,fD n/\s=b8 n/\eN vals n=some x
end Go.Proofs.Y
/- The document's parser at one word, a name or pi: the atoms of polynomial forms. -/
namespace Go.Dig
theorem getD_drop(l:List Nat)(a i:Nat):(l.drop a).getD i 0=l.getD (a+i) 0:=by simp[bIp]
theorem while_drop{p:Nat->Bool}(l:List Nat)(a k:Nat)(hak:a<=k)(hk:k<=l.length)(h1:∀i,a<=i->i<k->p (l.getD i 0)=true)(h2:k=l.length\/¬p (l.getD k 0)=true):((l.drop a).takeWhile p).length=k-a:=
 aD8 (p:=p) (l.drop a) (k-a) (by rw[bJl];omega) (fun i hi=>by rw[getD_drop];exact h1 _ Aa Aa) (by
   rcases h2 with x|x
   .left;rw[bJl];omega
   .right;rw[getD_drop,show a+(k-a)=k by omega];exact x)
end Go.Dig
namespace Go.Proofs.Y
open Go Go.Vc Go.Dig
attribute [local irreducible] Vc.Fn
theorem aYl(h:aA)(n:Nat)(h1:1<=n)(h8:n<=8):Fn0 T F.q282 [.int .i64 n] h fun v h'=>v=.string (txt (aW.getD (n-1) [])):=by
 have hk:n=1\/n=2\/n=3\/n=4\/n=5\/n=6\/n=7\/n=8:=Aa;rcases hk with rfl|rfl|rfl|rfl|rfl|rfl|rfl|rfl
 .refine f0C ok D.q282 rfl ?_;conv=>whnf
  repeat' ((first|(show Idx _ _ _ _ _;refine Idx.one 0 rfl rfl Ae ?_)|((first|apply oI.z|apply cI.z))|intro (_:Nat)|refine WN.i64 Aa Aa ?_|refine Ld.o 0 rfl rfl ?_|(apply aB<;>intro _<;>try (exfalso;omega)))<;>conv=>whnf)
  all_goals exact RN.a rfl
 .refine f0C ok D.q282 rfl ?_;conv=>whnf
  repeat' ((first|(show Idx _ _ _ _ _;refine Idx.one 1 rfl rfl Ae ?_)|((first|apply oI.z|apply cI.z))|intro (_:Nat)|refine WN.i64 Aa Aa ?_|refine Ld.o 0 rfl rfl ?_|(apply aB<;>intro _<;>try (exfalso;omega)))<;>conv=>whnf)
  all_goals exact RN.a rfl
 .refine f0C ok D.q282 rfl ?_;conv=>whnf
  repeat' ((first|(show Idx _ _ _ _ _;refine Idx.one 2 rfl rfl Ae ?_)|((first|apply oI.z|apply cI.z))|intro (_:Nat)|refine WN.i64 Aa Aa ?_|refine Ld.o 0 rfl rfl ?_|(apply aB<;>intro _<;>try (exfalso;omega)))<;>conv=>whnf)
  all_goals exact RN.a rfl
 .refine f0C ok D.q282 rfl ?_;conv=>whnf
  repeat' ((first|(show Idx _ _ _ _ _;refine Idx.one 3 rfl rfl Ae ?_)|((first|apply oI.z|apply cI.z))|intro (_:Nat)|refine WN.i64 Aa Aa ?_|refine Ld.o 0 rfl rfl ?_|(apply aB<;>intro _<;>try (exfalso;omega)))<;>conv=>whnf)
  all_goals exact RN.a rfl
 .refine f0C ok D.q282 rfl ?_;conv=>whnf
  repeat' ((first|(show Idx _ _ _ _ _;refine Idx.one 4 rfl rfl Ae ?_)|((first|apply oI.z|apply cI.z))|intro (_:Nat)|refine WN.i64 Aa Aa ?_|refine Ld.o 0 rfl rfl ?_|(apply aB<;>intro _<;>try (exfalso;omega)))<;>conv=>whnf)
  all_goals exact RN.a rfl
 .refine f0C ok D.q282 rfl ?_;conv=>whnf
  repeat' ((first|(show Idx _ _ _ _ _;refine Idx.one 5 rfl rfl Ae ?_)|((first|apply oI.z|apply cI.z))|intro (_:Nat)|refine WN.i64 Aa Aa ?_|refine Ld.o 0 rfl rfl ?_|(apply aB<;>intro _<;>try (exfalso;omega)))<;>conv=>whnf)
  all_goals exact RN.a rfl
 .refine f0C ok D.q282 rfl ?_;conv=>whnf
  repeat' ((first|(show Idx _ _ _ _ _;refine Idx.one 6 rfl rfl Ae ?_)|((first|apply oI.z|apply cI.z))|intro (_:Nat)|refine WN.i64 Aa Aa ?_|refine Ld.o 0 rfl rfl ?_|(apply aB<;>intro _<;>try (exfalso;omega)))<;>conv=>whnf)
  all_goals exact RN.a rfl
 .refine f0C ok D.q282 rfl ?_;conv=>whnf
  repeat' ((first|(show Idx _ _ _ _ _;refine Idx.one 7 rfl rfl Ae ?_)|((first|apply oI.z|apply cI.z))|intro (_:Nat)|refine WN.i64 Aa Aa ?_|refine Ld.o 0 rfl rfl ?_|(apply aB<;>intro _<;>try (exfalso;omega)))<;>conv=>whnf)
  all_goals exact RN.a rfl
theorem Rletters_ct(h:aA)(l:List Nat)(hb:∀y∈l,y<256)(hl:l.length<=1000000)(a:Nat)(ha:a<=l.length):Fn0 T F.q257 [.string (txt l),.int .i64 a] h fun v h'=>h'=h/\v=.int .i64 ((a+((l.drop a).takeWhile aln).length:Nat):Int):=by
 have hz:=bW l;refine f0C ok D.q257 rfl ?_;conv=>whnf
 repeat ((first|apply oI.z|apply cI.z);conv=>whnf)
 skip
 refine LpN.of (fun r ρ h' L=>∃k:Nat,r=l.length-k/\h'=h/\rd ρ 1=.int .i64 k/\a<=k/\k<=l.length/\Hq (∀i,a<=i->i<k->aln (l.getD i 0)=true)) (l.length-a) ⟨a,rfl,rfl,rfl,bJf _,ha,⟨fun i hi hj=>by omega⟩⟩ ?_
 conv=>whnf
 repeat intro _
 rename_i r h1 L1 hI;obtain⟨k,rfl,rfl,e1,hak,hk,hd⟩:=hI;conv at e1=>lhs;whnf
 subst e1;have hs:=fun (x:k<l.length) (y:aln (l.getD k 0)=true) i (hi:a<=i) (hj:i<k+1)=>(by
   by_cases e:i=k
   .subst e;exact y
   .exact hd.out i hi Aa:aln (l.getD i 0)=true)
 have hw:(k=l.length\/¬aln (l.getD k 0)=true)->((l.drop a).takeWhile aln).length=k-a:=fun x=>while_drop l a k hak hk hd.out x
 obtain⟨X,hX⟩:=AH (l.getD k 0);rw[<-hX] at hs hw;have d1:(97<=X/\X<=122)\/(48<=X/\X<=57)->aln X=true:=fun a=>aGg.2 (a.imp jI.2 fY.2)
 have d2:¬((97<=X/\X<=122)\/(48<=X/\X<=57))->¬aln X=true:=fun a b=>a ((aGg.1 b).imp jI.1 fY.1)
 replace hs:=Hq.mk hs;replace hw:=Hq.mk hw;replace d1:=Hq.mk d1;replace d2:=Hq.mk d2;conv=>whnf
 repeat' first|((first|(show fP _ _ _;(refine fP.txt l rfl hb k Aa Aa ?_;rw[<-hX]))|((first|apply oI.z|apply cI.z))|refine WN.i64 Aa Aa ?_)<;>conv=>whnf)|(show cnd _ _ _;first|((first|apply aB|apply bX)<;>intro _<;>first|(exfalso;omega)|conv=>whnf))
 all_goals first
  | exact⟨rfl,l.length-(k+1),Aa,k+1,rfl,rfl,vi Aa,Aa,Aa,⟨hs.out Aa (d1.out Aa)⟩⟩
  | (refine RN.a ⟨rfl,?_⟩;rw[hw.out (by first|(left;omega)|(right;exact d2.out Aa))];exact vi Aa)
theorem RFind_ct(h:aA)(l:List Nat)(hb:∀y∈l,y<256):Fn0 T F.q309 [.string (txt l)] h fun v h'=>v=.tuple #[.int .i64 (aDf l:Nat),.bool (dec (l∈aW))]:=by
 refine f0C ok D.q309 rfl ?_;conv=>whnf
 repeat ((first|apply oI.z|apply cI.z);conv=>whnf)
 skip
 refine LpN.keepL (fun r ρ hx=>∃k:Nat,r=8-k/\rd ρ 4=.int .i64 ((k:Int)+1)/\k<=8/\Hq (∀j,j<k->aW.getD j []≠l)) 8 ⟨0,rfl,rfl,Aa,⟨fun i hi=>by omega⟩⟩ ?_
 conv=>whnf
 repeat intro _
 rename_i r h1 hle hI;obtain⟨k,rfl,e4,hk,hd⟩:=hI;conv at e4=>lhs;whnf
 subst e4;have hg:k<8->∀y∈aW.getD k [],y<256:=fun x=>aEb _ (pQ x)
 have g1:=fun (x:k<8) y=>bC1 l k x y
 have g2:=fun (x:k=8)=>bC2 l (by subst x;exact hd.out)
 have g3:k<8->aW.getD k []≠l->∀j,j<k+1->aW.getD j []≠l:=fun x y j hj=>by
  by_cases e:j=k
  .subst e;exact y
  .exact hd.out j Aa
 have c1:k<8->∀h,Fn0 T F.q282 [.int .i64 ((k:Int)+1)] h fun v h'=>v=.string (txt (aW.getD k [])):=fun x h=>aYl h (k+1) Aa Aa
 obtain⟨X,hX⟩:=AH (aW.getD k []);rw[<-hX] at hg g1 g3;simp only[<-hX] at c1;replace g1:=Hq.mk g1;replace g2:=Hq.mk g2;replace g3:=Hq.mk g3;conv=>whnf
 repeat' first|((first|(show CN _ _ _ _ _ _;(refine CN.f rfl (c1 Aa _) (fun v h' hl2 hr=>?_);subst hr))|((first|apply oI.z|apply cI.z))|refine WN.i64 Aa Aa ?_)<;>conv=>whnf)|(show cnd _ _ _;first|(refine oM (hg Aa) hb (fun _=>?_) (fun _=>?_)<;>(conv=>whnf))|(apply bX<;>intro _<;>first|(exfalso;omega)|conv=>whnf))
 all_goals first
  | exact⟨rfl,8-(k+1),Aa,Ac,rfl,k+1,rfl,vi Aa,Aa,⟨g3.out Aa Ab⟩⟩
  | (rw[(g1.out Aa Ab).2,aX (g1.out Aa Ab).1];exact RN.a Aq)
  | (rw[(g2.out Aa).2,aH (g2.out Aa).1];exact RN.a rfl)
def wkd(l:List Nat):Nat:=if l∈aW then 3 else if fD l then 2 else if vI l then 4 else 0
theorem Rkind_ct(h:aA)(l:List Nat)(hb:∀y∈l,y<256):Fn0 T F.q258 [.string (txt l)] h fun v h'=>v=.int .i64 (wkd l:Nat):=by
 obtain⟨R,hR⟩:=AH (aW++nI);have hRl:R.length=19:=by rw[hR];rfl
 have hRb:∀w∈R,∀y∈w,y<256:=by
  rw[hR];intro w hw;exact (bIx.1 hw).elim (aEb w) (aQp w)
 have hRm:l∈R↔vI l:=by rw[hR,bIx];exact Or.comm
 have c1:=aI1;rw[<-hR] at c1;have c2:=fun h=>RFind_ct h l hb
 have c3:=fun h=>oN h l hb
 have w1:l∈aW->wkd l=3:=fun x=>if_pos x
 have w2:l∉aW->fD l->wkd l=2:=fun x y=>(if_neg x).trans (if_pos y)
 have w3:l∉aW->¬fD l->l∈R->wkd l=4:=fun x y z=>(if_neg x).trans ((if_neg y).trans (if_pos (hRm.1 z)))
 have w4:l∉aW->¬fD l->l∉R->wkd l=0:=fun x y z=>(if_neg x).trans ((if_neg y).trans (if_neg fun u=>z (hRm.2 u)))
 obtain⟨K,hK⟩:=AH (wkd l);rw[<-hK] at w1 w2 w3 w4 ⊢;clear hR hRm hK;refine f0C ok D.q258 rfl ?_;conv=>whnf
 repeat' ((first|(show CN _ _ _ _ _ _;first|(refine CN.f rfl (c2 _) (fun v h' hl hr=>?_);subst hr)|(refine CN.f rfl (c3 _) (fun v h' hl hr=>?_);subst hr)|(refine CN.f rfl (c1 _) (fun v h' hl hr=>?_);obtain⟨s,rfl,hs⟩:=hr;have hsl:=hs.len))|((first|apply oI.z|apply cI.z))|(apply aU<;>intro _<;>try (exfalso;omega)))<;>conv=>whnf)
 all_goals first
  | exact RN.a (vi (by rw[w1 Ab];rfl))
  | exact RN.a (vi (by rw[w2 Ab Ab];rfl))
  | skip
 have w3:=w3 Ab Ab;have w4:=w4 Ab Ab;refine LpN.of (fun r ρ h1 L=>∃k:Nat,r=19-k/\h1=h'/\rd ρ 6=.int .i64 k/\k<=19/\Hq (∀j,j<k->R.getD j []≠l)) 19 ⟨0,rfl,rfl,vi Aa,Aa,⟨fun i hi=>by omega⟩⟩ ?_
 conv=>whnf
 repeat intro _
 rename_i r h1 L1 hI;obtain⟨k,rfl,rfl,e6,hk,hd⟩:=hI;conv at e6=>lhs;whnf
 subst e6;have hg:k<19->∀y∈R.getD k [],y<256:=fun x=>hRb _ (pQ Aa)
 have g1:=fun (x:k<19) (y:R.getD k []=l)=>w3 (y▸pQ Aa)
 have g2:=fun (x:k=19)=>w4 fun hm=>by
  obtain⟨i,hi,e⟩:=bKz hm;exact hd.out i Aa (by simp[bIp,hi,e])
 have g3:k<19->R.getD k []≠l->∀j,j<k+1->R.getD j []≠l:=fun x y j hj=>by
  by_cases e:j=k
  .subst e;exact y
  .exact hd.out j Aa
 obtain⟨X,hX⟩:=AH (R.getD k []);rw[<-hX] at hg g1 g3;replace g1:=Hq.mk g1;replace g2:=Hq.mk g2;replace g3:=Hq.mk g3;clear w1 w2 w3 w4;conv=>whnf
 repeat' first|((first|(show Idx _ _ _ _ _;refine Idx.strs hs k Aa Aa (fun ad hv=>?_))|(show Ld _ _ _ _;(refine Ld.of (by first|exact hv _|(rename_i hv;exact hv _)) ?_;rw[<-hX]))|((first|apply oI.z|apply cI.z))|refine WN.i64 Aa Aa ?_)<;>conv=>whnf)|(show cnd _ _ _;first|(refine oM (hg Aa) hb (fun _=>?_) (fun _=>?_)<;>(conv=>whnf))|(apply aB<;>intro _<;>first|(exfalso;omega)|conv=>whnf))
 all_goals first
  | exact⟨rfl,19-(k+1),Aa,k+1,rfl,rfl,vi Aa,Aa,⟨g3.out Aa Ab⟩⟩
  | exact RN.a (vi (by rw[g1.out Aa Ab];rfl))
  | exact RN.a (vi (by rw[g2.out Aa];rfl))
def W1(X:List Nat)(K:Nat)(tr:Tr):Prop:=(K=2/\fD X/\tr=gA X)\/(K=4/\X=[112,105]/\tr=.mk 3 0 false [] [] [] [])
theorem RScan1(h:aA)(X:List Nat)(hb:∀y∈X,y<256)(h8:X.length<=8)(c:Nat)(hc:X[0]?=some c)(hl:ltr c=true)(ha:(X.takeWhile aln).length=X.length)(K:Nat)(hK:wkd X=K)(hK0:K≠0):Fn0 T F.q196 [.string (txt X),.bool false] h fun v h'=>∃s:Sl,v=.tuple #[s.val,.int .i64 0,.bool true]/\Rw h' s 3 [.int .i64 K,.int .i64 0,.string (txt X)]:=by
 have hz:=bW X;have hn:=(bIr.1 hc).1;have c1:∀k,k=0->∀h,Fn0 T F.q257 [.string (txt X),.int .i64 (k:Nat)] h fun v h'=>h'=h/\v=.int .i64 (X.length:Nat):=fun k hk h=>by
  subst hk;have:=Rletters_ct h X hb Aa 0 (bJe _);rw[bKp,ha,bJc] at this;exact this
 have c4:=fun h=>Rkind_ct h X hb
 simp only[hK] at c4;have cw:∀k,k=0->(X.take X.length).drop k=X:=fun k hk=>by rw[hk,bI4,bKp]
 have hlt:=jI.1 hl;refine f0C ok D.q196 rfl ?_;conv=>whnf
 repeat ((first|apply oI.z|apply cI.z);conv=>whnf)
 skip
 refine LpN.of (fun r ρ h' L=>∃(k n:Nat) (v:Value) (xs:List Value),((k=0/\r=1/\n=0/\xs=[])\/(k=X.length/\r=0/\n=1/\xs=[.int .i64 K,.int .i64 0,.string (txt X)]))/\h.le h'/\rd ρ 8=.int .i64 k/\rd ρ 7=v/\aF Ty.ref04_Token 3 v n xs L) 1
  ⟨0,0,_,[],.inl ⟨rfl,rfl,rfl,rfl⟩,aA.lr _,rfl,rfl,aF.nil _ _ _⟩ ?_
 conv=>whnf
 repeat intro _
 rename_i r h1 L1 hI;obtain⟨k,n,v,xs,hks,hle,e8,e7,g⟩:=hI;conv at e8=>lhs;whnf
 subst e8;conv at e7=>lhs;whnf
 subst e7;rcases hks with ⟨hk,rfl,rfl,rfl⟩|⟨hk,rfl,rfl,rfl⟩
 rotate_left
 .conv=>whnf
  repeat' ((first|((first|apply oI.z|apply cI.z))|(apply aB<;>intro _<;>try (exfalso;omega)))<;>conv=>whnf)
  exact RN.growR (size:=3) Ae g fun h' s hl e w=>⟨s,by rw[e],w⟩
 .replace hc:X[k]?=some c:=by rw[hk];exact hc
  replace c1:=c1 k hk;replace cw:=cw k hk;conv=>whnf
  repeat' first|((first|(show fP _ _ _;refine fP.at X c rfl hb k Aa hc ?_)|refine Sto.l 0 rfl rfl rfl ?_)<;>conv=>whnf)|(refine cI.stopB 2 ?_)|((first|apply oI.z|apply cI.z);conv=>whnf)|(intro (_:Nat);conv=>whnf)|(apply aB<;>intro _<;>first|(exfalso;omega)|conv=>whnf)
  rename_i b9;refine⟨bJ.cut (fun ρ h' L'=>rd ρ 8=.int .i64 k/\rd ρ 11=.int .i64 X.length/\h1.le h'/\L'=(b9,.cells [.int .i64 K,.int .i64 k,.string (txt [])].toArray Ty.ref04_Token (0,0))::L1) ?_ ?_⟩
  .conv=>whnf
   repeat' first|((first|(show CN _ _ _ _ _ _;first|refine CN.quiet rfl (c1 _) ?_|(refine CN.f rfl (c4 _) (fun v h' hl hr=>?_);subst hr))|(show Cut _ _ _ _;(refine Cut.txt X k X.length Aa Aa rfl Aa Aa ?_;rw[gI,cw]))|((first|apply oI.z|apply cI.z))|refine Sto.l 0 rfl rfl rfl ?_)<;>conv=>whnf)|(show cnd _ _ _;first|((first|apply bX|apply aD)<;>intro _<;>first|(exfalso;omega)|conv=>whnf))
   all_goals exact⟨rfl,rfl,rfl,Ab,rfl⟩
  .conv=>whnf
   repeat intro _
   rename_i h2 L2 hJ;obtain⟨e8,e11,hle2,rfl⟩:=hJ;conv at e8=>lhs;whnf
   subst e8;conv at e11=>lhs;whnf
   subst e11;conv=>whnf
   repeat' ((first|(show Cut _ _ _ _;(refine Cut.txt X k X.length Aa Aa rfl Aa Aa ?_;rw[gI,cw]))|(show App _ _ _ _ _ _ _ _ _;refine App.growB (A:=[_,_]) (F:=L1) (size:=3) (bytes:=32) (z:=[.int .i64 0,.int .i64 0,.string ByteArray.empty]) rfl rfl g ⟨_,0,none⟩ 1 1 [_,_,_] rfl (Has.three _) rfl Ae Aa Aa Ae (fun v' L' g' hA=>?_))|((first|apply oI.z|apply cI.z))|intro (_:Nat)|refine LdN.o 0 rfl rfl ?_|refine Ld.o 0 rfl rfl ?_|refine Sto.l 0 rfl rfl rfl ?_|(apply aD<;>intro _<;>try (exfalso;omega)))<;>conv=>whnf)
   all_goals exact⟨rfl,0,Aa,X.length,1,v',_,.inr ⟨rfl,rfl,rfl,rfl⟩,Ac,rfl,rfl,by rw[hk] at g';exact g'⟩
def Rb1(bp:Nat)(s:Sl)(y:Int)(e:Nat):Nat × Obj:=(bp,.cells [s.val,.int .i64 y,.int .i64 e,.int .i64 (-1),.slice none 0 0].toArray Ty.ref04_Reader (0,0))
def T1(h:aA)(s:Sl)(K:Nat)(X:List Nat):Prop:=Rw h s 3 [.int .i64 K,.int .i64 0,.string (txt X)]
theorem T1.mono{h h':aA}{s:Sl}{K:Nat}{X:List Nat}(w:T1 h s K X)(hl:h.le h'):T1 h' s K X:=Rw.mono w hl
theorem T1.len{h:aA}{s:Sl}{K:Nat}{X:List Nat}(w:T1 h s K X):s.l=1:=by
 have h1:s.l*3=3:=Rw.len w;omega
theorem Idx.tok1{h:aA}{s:Sl}{K:Nat}{X:List Nat}(w:T1 h s K X){i:Int}{k:Addr->Prop}(hi:i=(0:Nat))(hk:∀b off,(∀L,Has h L ⟨b,off,none⟩ (.int .i64 K))->(∀L,Has h L ⟨b,off+1,none⟩ (.int .i64 0))->(∀L,Has h L ⟨b,off+2,none⟩ (.string (txt X)))->k ⟨b,off,none⟩):Idx s.a i s.l 3 k:=by
 have hlen:=w.len;obtain⟨b,off,c,T,fz,h1,h2,h3⟩:=Rw.mem w Aq;have get:∀m,m<3->∀L,Has h L ⟨b,off+0*3+m,none⟩ ([.int .i64 K,.int .i64 0,.string (txt X)].getD m undef):=fun m hm L=>by
  refine Has.imm h2 ?_;rw[bKi,bJz,h3 m hm]
  match m,hm with
  | 0,_=>rfl
  | 1,_=>rfl
  | 2,_=>rfl
 exact Idx.of 0 h1 hi Aa (hk _ _ (get 0 Ae) (get 1 Ae) (get 2 Ae))
theorem RNext1(h:aA)(bp:Nat)(s:Sl)(e K:Nat)(X:List Nat)(w:T1 h s K X):Vc.Fn T F.q199 [.pointer (some ⟨bp,0,none⟩)] h [Rb1 bp s 0 e] fun r h' L'=>L'=[Rb1 bp s 0 e]/\h'=h/\r=.agg #[.int .i64 K,.int .i64 0,.string (txt X)]:=by
 have hl:=w.len;refine f1C ok D.q199 rfl ?_;conv=>whnf
 repeat' ((first|(show Idx _ _ _ _ _;refine Idx.tok1 w Aa (fun tb to v0 v1 v2=>?_))|(show LdN _ _ _ _ _;first|refine LdN.hs3 (v0 _) (v1 _) (v2 _) ?_|refine LdN.o 0 rfl rfl ?_)|((first|apply oI.z|apply cI.z))|refine⟨fun hst=>(by cases (show true=false from hst)),?_⟩|intro (_:Nat)|refine Ld.o 1 rfl rfl ?_|refine Sto.l 0 rfl rfl rfl ?_|refine DrN.run Ak ?_|(apply aB<;>intro _<;>try (exfalso;omega)))<;>conv=>whnf)
 all_goals exact RN.drop0 (RN.done ⟨rfl,rfl,rfl⟩)
theorem RNext0(h:aA)(bp:Nat)(s:Sl)(e K:Nat)(X:List Nat)(w:T1 h s K X):Vc.Fn T F.q199 [.pointer (some ⟨bp,0,none⟩)] h [Rb1 bp s 1 e] fun r h' L'=>L'=[Rb1 bp s 1 e]/\h'=h/\r=.agg #[.int .i64 5,.int .i64 e,.string (txt [])]:=by
 have hl:=w.len;refine f1C ok D.q199 rfl ?_;conv=>whnf
 repeat' ((first|((first|apply oI.z|apply cI.z))|intro (_:Nat)|refine LdN.o 0 rfl rfl ?_|refine Ld.o 1 rfl rfl ?_|refine Sto.l 0 rfl rfl rfl ?_|refine DrN.run Ak ?_|(apply aB<;>intro _<;>try (exfalso;omega)))<;>conv=>whnf)
 all_goals exact RN.drop0 (RN.done ⟨rfl,rfl,rfl⟩)
theorem RAt1(h:aA)(bp:Nat)(s:Sl)(e K:Nat)(X x:List Nat)(w:T1 h s K X)(hb:∀y∈X,y<256)(hx:∀y∈x,y<256)(hne:X≠x):Vc.Fn T F.q262 [.pointer (some ⟨bp,0,none⟩),.string (txt x)] h [Rb1 bp s 0 e] fun r h' L'=>L'=[Rb1 bp s 0 e]/\h'=h/\r=.bool false:=by
 have c1:=fun h w=>RNext1 h bp s e K X w
 have sq2:seq (txt X) (txt x)=false:=by
  unfold seq;rw[beq_eq_false_iff_ne];exact fun c=>hne (aAg hb hx (toList_inj c))
 refine f1C ok D.q262 rfl ?_;conv=>whnf
 repeat' first|((first|(show CN _ _ _ _ _ _;(refine CN.own 0 rfl rfl (c1 _ w) (fun v h' La hl hr=>?_);obtain⟨rfl,rfl,rfl⟩:=hr;clear hl;refine⟨_,rfl,?_⟩))|((first|apply oI.z|apply cI.z))|intro (_:Nat)|(show Ld _ _ _ _;first|refine Ld.o 0 rfl rfl ?_|refine Ld.o 1 rfl rfl ?_)|refine Sto.l 0 rfl rfl rfl ?_)<;>conv=>whnf)|(show cnd _ _ _;first|((first|apply aB|apply aD)<;>intro _<;>first|(exfalso;omega)|conv=>whnf))
 all_goals first
  | exact RN.drop0 (RN.done ⟨rfl,rfl,rfl⟩)
  | exact RN.drop0 (RN.done ⟨rfl,rfl,congrArg Value.bool sq2⟩)
theorem RAt0(h:aA)(bp:Nat)(s:Sl)(e K:Nat)(X x:List Nat)(w:T1 h s K X):Vc.Fn T F.q262 [.pointer (some ⟨bp,0,none⟩),.string (txt x)] h [Rb1 bp s 1 e] fun r h' L'=>L'=[Rb1 bp s 1 e]/\h'=h/\r=.bool false:=by
 have c1:=fun h w=>RNext0 h bp s e K X w
 refine f1C ok D.q262 rfl ?_;conv=>whnf
 repeat' first|((first|(show CN _ _ _ _ _ _;(refine CN.own 0 rfl rfl (c1 _ w) (fun v h' La hl hr=>?_);obtain⟨rfl,rfl,rfl⟩:=hr;clear hl;refine⟨_,rfl,?_⟩))|((first|apply oI.z|apply cI.z))|intro (_:Nat)|(show Ld _ _ _ _;first|refine Ld.o 0 rfl rfl ?_|refine Ld.o 1 rfl rfl ?_)|refine Sto.l 0 rfl rfl rfl ?_)<;>conv=>whnf)|(show cnd _ _ _;first|((first|apply aB|apply aD)<;>intro _<;>first|(exfalso;omega)|conv=>whnf))
 all_goals exact RN.drop0 (RN.done ⟨rfl,rfl,rfl⟩)
theorem Rother1(h:aA)(bp:Nat)(s:Sl)(e:Nat):Vc.Fn T F.q363 [.pointer (some ⟨bp,0,none⟩),.string (txt [112,105])] h [Rb1 bp s 0 e] fun a h' L'=>L'=[Rb1 bp s 1 e]/\VE h' a (.mk 3 0 false [] [] [] []):=by
 obtain⟨X,hX⟩:=AH ([112,105]);have ht8:∀y∈X,y<256:=by rw[hX];decide
 rw[<-hX];refine f1C ok D.q363 rfl ?_;conv=>whnf
 repeat' first|((first|((first|apply oI.z|apply cI.z))|intro (_:Nat)|refine WN.i64 Aa Aa ?_|refine LdN.o 0 rfl rfl ?_|refine Ld.o 1 rfl rfl ?_|(show Sto _ _ _ _;first|refine Sto.l 0 rfl rfl rfl ?_|refine Sto.l 1 rfl rfl rfl ?_))<;>conv=>whnf)|(show cnd _ _ _;first|(refine kX X [112,105] rfl rfl ht8 Ae (fun h1=>?_) (fun h1=>?_)<;>first|exact absurd hX h1|(conv=>whnf)))
 all_goals exact RN.drop0 (RN.done ⟨rfl,3,0,false,⟨none,0,0⟩,⟨none,0,0⟩,[],⟨none,0,0⟩,rfl,IsE.node Ae Ae (IsK.nil _)⟩)
theorem Ratom1(h:aA)(bp:Nat)(s:Sl)(e K:Nat)(X:List Nat)(tr:Tr)(w:T1 h s K X)(hb:∀y∈X,y<256)(a:W1 X K tr):Vc.Fn T F.q339 [.pointer (some ⟨bp,0,none⟩)] h [Rb1 bp s 0 e] fun a h' L'=>L'=[Rb1 bp s 1 e]/\VE h' a tr:=by
 have c1:=fun h w=>RNext1 h bp s e K X w
 rcases a with ⟨rfl,-,rfl⟩|⟨rfl,rfl,rfl⟩
 .refine f1C ok D.q339 rfl ?_;conv=>whnf
  repeat' first|((first|(show CN _ _ _ _ _ _;(refine CN.own 1 rfl rfl (c1 _ (w.mono Ad)) (fun v h' La hl hr=>?_);obtain⟨rfl,rfl,rfl⟩:=hr;clear hl;refine⟨_,rfl,?_⟩))|((first|apply oI.z|apply cI.z))|intro (_:Nat)|refine WN.i64 Aa Aa ?_|refine LdN.o 1 rfl rfl ?_|(show Ld _ _ _ _;first|refine Ld.o 0 rfl rfl ?_|refine Ld.o 2 rfl rfl ?_)|(show Sto _ _ _ _;first|refine Sto.l 0 rfl rfl rfl ?_|refine Sto.l 1 rfl rfl rfl ?_|refine Sto.l 2 rfl rfl rfl ?_))<;>conv=>whnf)|(show cnd _ _ _;first|((first|apply bX|apply aD)<;>intro _<;>first|(exfalso;omega)|conv=>whnf))
  all_goals first
   | exact RN.drop0 (RN.drop0 (RN.done ⟨rfl,2,0,false,⟨none,0,0⟩,⟨none,0,0⟩,X,⟨none,0,0⟩,rfl,IsE.var hb⟩))
   | exact RN.drop0 (RN.done ⟨rfl,2,0,false,⟨none,0,0⟩,⟨none,0,0⟩,X,⟨none,0,0⟩,rfl,IsE.var hb⟩)
   | exact RN.drop0 (RN.drop0 (RN.drop0 (RN.done ⟨rfl,2,0,false,⟨none,0,0⟩,⟨none,0,0⟩,X,⟨none,0,0⟩,rfl,IsE.var hb⟩)))
 .refine f1C ok D.q339 rfl ?_;conv=>whnf
  repeat' first|((first|(show CN _ _ _ _ _ _;first|(refine CN.own 1 rfl rfl (c1 _ (w.mono Ad)) (fun v h' La hl hr=>?_);obtain⟨rfl,rfl,rfl⟩:=hr;clear hl;refine⟨_,rfl,?_⟩)|(refine CN.own 2 rfl rfl (Rother1 _ bp s e) (fun v h' La hl hr=>?_);obtain⟨rfl,op2,ar2,ng2,nn2,dd2,nm2,ss2,rfl,hE2⟩:=hr;refine⟨_,rfl,?_⟩))|((first|apply oI.z|apply cI.z))|intro (_:Nat)|refine LdN.o 1 rfl rfl ?_|(show Ld _ _ _ _;first|refine Ld.o 0 rfl rfl ?_|refine Ld.o 2 rfl rfl ?_)|(show Sto _ _ _ _;first|refine Sto.l 0 rfl rfl rfl ?_|refine Sto.l 1 rfl rfl rfl ?_))<;>conv=>whnf)|(show cnd _ _ _;first|((first|apply bX|apply aD)<;>intro _<;>first|(exfalso;omega)|conv=>whnf))
  all_goals first
   | exact RN.drop0 (RN.drop0 (RN.done ⟨rfl,op2,ar2,ng2,nn2,dd2,nm2,ss2,rfl,hE2⟩))
   | exact RN.drop0 (RN.done ⟨rfl,op2,ar2,ng2,nn2,dd2,nm2,ss2,rfl,hE2⟩)
   | exact RN.drop0 (RN.drop0 (RN.drop0 (RN.done ⟨rfl,op2,ar2,ng2,nn2,dd2,nm2,ss2,rfl,hE2⟩)))
theorem Rfac1(h:aA)(bp:Nat)(s:Sl)(e K:Nat)(X:List Nat)(tr:Tr)(w:T1 h s K X)(hb:∀y∈X,y<256)(hne:X≠[45])(a:W1 X K tr):Vc.Fn T F.q311 [.pointer (some ⟨bp,0,none⟩)] h [Rb1 bp s 0 e] fun a h' L'=>L'=[Rb1 bp s 1 e]/\VE h' a tr:=by
 have a1:=fun h w=>RAt1 h bp s e K X [45] w hb Ae hne
 have a2:=fun h w=>RAt0 h bp s e K X [94] w
 have c1:=fun h w=>Ratom1 h bp s e K X tr w hb a
 refine f1C ok D.q311 rfl ?_;conv=>whnf
 repeat' ((first|(show CN _ _ _ _ _ _;first|(refine CN.own 1 rfl rfl (a1 _ (w.mono Ad)) (fun v h' La hl hr=>?_);obtain⟨rfl,rfl,rfl⟩:=hr;clear hl;refine⟨_,rfl,?_⟩)|(refine CN.own 1 rfl rfl (c1 _ (w.mono Ad)) (fun v h' La hl hr=>?_);obtain⟨rfl,op2,ar2,ng2,nn2,dd2,nm2,ss2,rfl,hE2⟩:=hr;refine⟨_,rfl,?_⟩)|(refine CN.own 2 rfl rfl (a2 _ (w.mono Ab)) (fun v h' La hl hr=>?_);obtain⟨rfl,rfl,rfl⟩:=hr;clear hl;refine⟨_,rfl,?_⟩))|((first|apply oI.z|apply cI.z))|intro (_:Nat)|(show LdN _ _ _ _ _;first|refine LdN.o 0 rfl rfl ?_|refine LdN.o 1 rfl rfl ?_)|(show Sto _ _ _ _;first|refine Sto.l 0 rfl rfl rfl ?_|refine Sto.l 1 rfl rfl rfl ?_))<;>conv=>whnf)
 all_goals first
  | exact RN.drop0 (RN.drop0 (RN.done ⟨rfl,op2,ar2,ng2,nn2,dd2,nm2,ss2,rfl,hE2⟩))
  | exact RN.drop0 (RN.done ⟨rfl,op2,ar2,ng2,nn2,dd2,nm2,ss2,rfl,hE2⟩)
  | exact RN.drop0 (RN.drop0 (RN.drop0 (RN.done ⟨rfl,op2,ar2,ng2,nn2,dd2,nm2,ss2,rfl,hE2⟩)))
theorem Rterm1(h:aA)(bp:Nat)(s:Sl)(e K:Nat)(X:List Nat)(tr:Tr)(w:T1 h s K X)(hb:∀y∈X,y<256)(hne:X≠[45])(a:W1 X K tr):Vc.Fn T F.q261 [.pointer (some ⟨bp,0,none⟩)] h [Rb1 bp s 0 e] fun a h' L'=>L'=[Rb1 bp s 1 e]/\VE h' a tr:=by
 have a1:=fun h w=>RAt0 h bp s e K X [42] w
 have a2:=fun h w=>RAt0 h bp s e K X [47] w
 have c1:=fun h w=>Rfac1 h bp s e K X tr w hb hne a
 refine f1C ok D.q261 rfl ?_;conv=>whnf
 repeat' ((first|(show CN _ _ _ _ _ _;(refine CN.own 1 rfl rfl (c1 _ (w.mono Ad)) (fun v h' La hl hr=>?_);obtain⟨rfl,op2,ar2,ng2,nn2,dd2,nm2,ss2,rfl,hE2⟩:=hr;refine⟨_,rfl,?_⟩))|((first|apply oI.z|apply cI.z))|intro (_:Nat)|refine Sto.l 0 rfl rfl rfl ?_)<;>conv=>whnf)
 rename_i b2 b3;refine LpN.of (fun q ρ hx L=>hx=h'/\L=(b3,.cells [.int .i64 op2,.int .i64 ar2,.bool ng2,nn2.val,dd2.val,.string (txt nm2),ss2.val].toArray Ty.api_Expr (0,0))::(b2,.cells [.int .i64 0,.int .i64 0,.bool false,.slice none 0 0,.slice none 0 0,.string (txt []),.slice none 0 0].toArray Ty.api_Expr (0,0))::[Rb1 bp s 1 e]) 0 ⟨rfl,rfl⟩ ?_
 have w1:=w.mono hl;conv=>whnf
 repeat intro _
 rename_i q h3 L3 hI;obtain⟨rfl,rfl⟩:=hI;conv=>whnf
 repeat' ((first|(show CN _ _ _ _ _ _;first|(refine CN.own 2 rfl rfl (a1 _ (w1.mono Ad)) (fun v h' La hl hr=>?_);obtain⟨rfl,rfl,rfl⟩:=hr;clear hl;refine⟨_,rfl,?_⟩)|(refine CN.own 2 rfl rfl (a2 _ (w1.mono Ad)) (fun v h' La hl hr=>?_);obtain⟨rfl,rfl,rfl⟩:=hr;clear hl;refine⟨_,rfl,?_⟩))|((first|apply oI.z|apply cI.z))|(show LdN _ _ _ _ _;first|refine LdN.o 0 rfl rfl ?_|refine LdN.o 1 rfl rfl ?_)|refine Sto.l 1 rfl rfl rfl ?_)<;>conv=>whnf)
 all_goals exact RN.drop0 (RN.drop0 (RN.done ⟨rfl,op2,ar2,ng2,nn2,dd2,nm2,ss2,rfl,hE2⟩))
theorem Rsum1(h:aA)(bp:Nat)(s:Sl)(e K:Nat)(X:List Nat)(tr:Tr)(w:T1 h s K X)(hb:∀y∈X,y<256)(hne:X≠[45])(a:W1 X K tr):Vc.Fn T F.q198 [.pointer (some ⟨bp,0,none⟩)] h [Rb1 bp s 0 e] fun a h' L'=>L'=[Rb1 bp s 1 e]/\VE h' a tr:=by
 have a1:=fun h w=>RAt0 h bp s e K X [43] w
 have a2:=fun h w=>RAt0 h bp s e K X [45] w
 have c1:=fun h w=>Rterm1 h bp s e K X tr w hb hne a
 refine f1C ok D.q198 rfl ?_;conv=>whnf
 repeat' ((first|(show CN _ _ _ _ _ _;(refine CN.own 1 rfl rfl (c1 _ (w.mono Ad)) (fun v h' La hl hr=>?_);obtain⟨rfl,op2,ar2,ng2,nn2,dd2,nm2,ss2,rfl,hE2⟩:=hr;refine⟨_,rfl,?_⟩))|((first|apply oI.z|apply cI.z))|intro (_:Nat)|refine Sto.l 0 rfl rfl rfl ?_)<;>conv=>whnf)
 rename_i b2 b3;refine LpN.of (fun q ρ hx L=>hx=h'/\L=(b3,.cells [.int .i64 op2,.int .i64 ar2,.bool ng2,nn2.val,dd2.val,.string (txt nm2),ss2.val].toArray Ty.api_Expr (0,0))::(b2,.cells [.int .i64 0,.int .i64 0,.bool false,.slice none 0 0,.slice none 0 0,.string (txt []),.slice none 0 0].toArray Ty.api_Expr (0,0))::[Rb1 bp s 1 e]) 0 ⟨rfl,rfl⟩ ?_
 have w1:=w.mono hl;conv=>whnf
 repeat intro _
 rename_i q h3 L3 hI;obtain⟨rfl,rfl⟩:=hI;conv=>whnf
 repeat' ((first|(show CN _ _ _ _ _ _;first|(refine CN.own 2 rfl rfl (a1 _ (w1.mono Ad)) (fun v h' La hl hr=>?_);obtain⟨rfl,rfl,rfl⟩:=hr;clear hl;refine⟨_,rfl,?_⟩)|(refine CN.own 2 rfl rfl (a2 _ (w1.mono Ad)) (fun v h' La hl hr=>?_);obtain⟨rfl,rfl,rfl⟩:=hr;clear hl;refine⟨_,rfl,?_⟩))|((first|apply oI.z|apply cI.z))|(show LdN _ _ _ _ _;first|refine LdN.o 0 rfl rfl ?_|refine LdN.o 1 rfl rfl ?_)|refine Sto.l 1 rfl rfl rfl ?_)<;>conv=>whnf)
 all_goals exact RN.drop0 (RN.drop0 (RN.done ⟨rfl,op2,ar2,ng2,nn2,dd2,nm2,ss2,rfl,hE2⟩))
theorem RNum1(h:aA)(s:Sl)(K:Nat)(X:List Nat)(w:T1 h s K X)(hK:K≠1):Fn0 T F.q201 [s.val,.slice none 0 0] h fun v h'=>v=.tuple #[.int .i64 0,.int .i64 0]:=by
 have hl:=w.len;refine f0C ok D.q201 rfl ?_
 repeat' first|(refine cI.stopS 1 ?_)|((first|apply oI.z|apply cI.z);conv=>whnf)
 refine⟨bJ.cut (fun ρ hx Lx=>hx=h/\Lx=[]) ?_ ?_⟩
 .conv=>whnf
  repeat ((first|apply oI.z|apply cI.z);conv=>whnf)
  skip
  refine LpN.of (fun r ρ hx L=>∃j:Nat,r=1-j/\j<=1/\rd ρ 6=.int .i64 j/\hx=h/\L=[]) 1 ⟨0,rfl,bJe _,rfl,rfl,rfl⟩ ?_
  conv=>whnf
  repeat intro _
  rename_i r hx L2 hI;obtain⟨j,rfl,hj,e6,rfl,rfl⟩:=hI;conv at e6=>lhs;whnf
  subst e6;conv=>whnf
  repeat' first|((first|(show Idx _ _ _ _ _;refine Idx.tok1 w Aa (fun tb to v0 v1 v2=>?_))|(show Ld _ _ _ _;refine Ld.of (v0 _) ?_)|((first|apply oI.z|apply cI.z))|refine WN.i64 Aa Aa ?_)<;>conv=>whnf)|(show cnd _ _ _;first|((first|apply aB|apply aD)<;>intro _<;>first|(exfalso;omega)|conv=>whnf))
  all_goals first
   | exact⟨rfl,rfl,rfl⟩
   | exact⟨rfl,1-(j+1),Aa,j+1,rfl,Aa,vi Aa,rfl,rfl⟩
 conv=>whnf
 repeat intro _
 rename_i h1 L1 hJ;obtain⟨rfl,rfl⟩:=hJ
 repeat' first|(refine cI.stopS 6 ?_)
 refine⟨bJ.cut (fun ρ hx Lx=>hx=h1) ?_ ?_⟩
 .conv=>whnf
  repeat ((first|apply oI.z|apply cI.z);conv=>whnf)
  skip
  refine LpN.of (fun r ρ hx L=>∃j:Nat,r=1-j/\j<=1/\rd ρ 7=.int .i64 j/\hx=h1) 1 ⟨0,rfl,bJe _,rfl,rfl⟩ ?_
  conv=>whnf
  repeat intro _
  rename_i r hx L2 hI;obtain⟨j,rfl,hj,e7,rfl⟩:=hI;conv at e7=>lhs;whnf
  subst e7;conv=>whnf
  repeat' first|((first|(show Idx _ _ _ _ _;refine Idx.tok1 w Aa (fun tb to v0 v1 v2=>?_))|(show Ld _ _ _ _;refine Ld.of (v0 _) ?_)|((first|apply oI.z|apply cI.z))|refine WN.i64 Aa Aa ?_)<;>conv=>whnf)|(show cnd _ _ _;first|((first|apply aB|apply aD)<;>intro _<;>first|(exfalso;omega)|conv=>whnf)|(refine aI ?_))
  all_goals first
   | exact⟨rfl,rfl⟩
   | exact⟨rfl,1-(j+1),Aa,j+1,rfl,Aa,vi Aa,rfl⟩
 conv=>whnf
 repeat intro _
 rename_i h2 L2 hJ;obtain rfl:=hJ;conv=>whnf
 repeat ((first|apply oI.z|apply cI.z);conv=>whnf)
 skip
 refine LpN.of (fun r ρ hx L=>rd ρ 10=.int .i64 (0:Nat)) 0 rfl ?_
 conv=>whnf
 repeat intro _
 rename_i r hx L3 hI;conv at hI=>lhs;whnf
 subst hI;conv=>whnf
 repeat' ((first|((first|apply oI.z|apply cI.z))|(apply aB<;>intro _<;>try (exfalso;omega)))<;>conv=>whnf)
 all_goals exact RN.a rfl
theorem RBegin1(h:aA)(s:Sl)(e:Nat):Vc.Fn T F.q197 [s.val,.int .i64 e] h [] fun v h' L'=>h'=h/\∃bp,v=.pointer (some ⟨bp,0,none⟩)/\L'=[Rb1 bp s 0 e]:=by
 refine f1C ok D.q197 rfl ?_;conv=>whnf
 repeat' ((first|((first|apply oI.z|apply cI.z))|intro (_:Nat))<;>conv=>whnf)
 exact RN.done ⟨rfl,_,rfl,rfl⟩
theorem RParse1(h:aA)(X:List Nat)(K:Nat)(tr:Tr)(a:W1 X K tr):Fn0 T F.q122 [.string (txt X)] h fun v h'=>∃a,v=.tuple #[a,.int .i64 0,.int .i64 0]/\VE h' a tr:=by
 have hz:=bW X;obtain⟨c1,h8,hb,hne,hv,hK⟩:(∀h,Fn0 T F.q196 [.string (txt X),.bool false] h fun v h'=>∃s:Sl,v=.tuple #[s.val,.int .i64 0,.bool true]/\Rw h' s 3 [.int .i64 K,.int .i64 0,.string (txt X)])/\X.length<=8/\(∀y∈X,y<256)/\X≠[45]/\bB tr/\K≠1:=by
  rcases a with ⟨rfl,hn,rfl⟩|⟨rfl,rfl,rfl⟩
  .have hb:=aWn hn;obtain⟨c,r,e,hc,hr⟩:=tE hn;have hf:X∉aW:=fun x=>hn.2.2.2 (.inr x)
   refine⟨fun h=>RScan1 h X hb hn.1 c (by rw[e];rfl) hc ?_ 2 ((if_neg hf).trans (if_pos hn)) Ae,hn.1,hb,fun x=>?_,⟨aAt hn,by unfold gA;rw[szT,fO];omega⟩,Ae⟩
   .have:=hn.2.1;have hx:aln c=true:=by unfold aln;rw[hc];rfl
    rw[e,eB,if_pos hc] at this;rw[e,bLo,if_pos hx];exact this
   .rw[e] at x;injection x with x1 x2;rw[x1] at hc;revert hc;decide
  .exact⟨fun h=>RScan1 h [112,105] Ae Ae 112 rfl Ae Ae 4 Ae Ae,Ae,Ae,Ae,⟨by rw[okT,dB];exact⟨Ae,⟨rfl,Ae,Ae,by rw[if_neg Ae],by rw[if_neg Ae];exact bH _⟩,trivial⟩,by rw[szT,fO];omega⟩,Ae⟩
 have c3:=fun h s (w:T1 h s K X) bp e=>Rsum1 h bp s e K X tr w hb hne a
 have c4:=fun h s (w:T1 h s K X)=>RNum1 h s K X w hK
 have c5:=fun h vs w=>Rfits_ct tr h vs w
 rw[aX hv] at c5;have c7:=fun h bp s e w=>RNext0 h bp s e K X w
 clear a hb hne hv hK;refine f0C ok D.q122 rfl ?_;conv=>whnf
 repeat' first|((first|(apply bJ.go)|(show CN _ _ _ _ _ _;first|(refine CN.f rfl (c1 _) (fun v h' hl2 hr=>?_);obtain⟨s,rfl,wt⟩:=hr;replace wt:T1 h' s K X:=wt)|(refine CN.new rfl (RBegin1 _ s (txt X).size) (fun v h' La hl hr=>?_);obtain⟨rfl,bp,rfl,rfl⟩:=hr;clear hl)|(refine CN.own 0 rfl rfl (c3 _ s (wt.mono Ad) bp _) (fun v h' La hl hr=>?_);obtain⟨rfl,op,ar,ng,nn,dd,nm,ss,rfl,hE1⟩:=hr;refine⟨_,rfl,?_⟩)|(refine CN.own 1 rfl rfl (c7 _ bp s _ (wt.mono Ab)) (fun v h' La hl hr=>?_);obtain⟨rfl,rfl,rfl⟩:=hr;clear hl;refine⟨_,rfl,?_⟩)|(refine CN.f rfl (c4 _ s (wt.mono Ab)) (fun v h' hl6 hr=>?_);subst hr)|(refine CN.f rfl (c5 _ _ (hE1.mono Ab)) (fun v h' hl6 hr=>?_);subst hr))|((first|apply oI.z|apply cI.z))|intro (_:Nat)|(show LdN _ _ _ _ _;first|refine LdN.o 0 rfl rfl ?_|refine LdN.o 2 rfl rfl ?_)|refine Ld.o 1 rfl rfl ?_|(show Sto _ _ _ _;first|refine Sto.l 0 rfl rfl rfl ?_|refine Sto.l 2 rfl rfl rfl ?_))<;>conv=>whnf)|(show cnd _ _ _;first|((first|apply aB|apply bX|apply aD)<;>intro _<;>first|(exfalso;omega)|conv=>whnf)|(refine aI ?_))
 all_goals exact RN.a ⟨_,rfl,op,ar,ng,nn,dd,nm,ss,rfl,hE1.mono Ac⟩
end Go.Proofs.Y
/- Atoms of polynomial forms, read back by the document's parser; rows of factors with their trees: plain. -/
namespace Go.Proofs.Y
open Go Go.Vc Go.Dig
theorem atom_read{s:List UInt8}(hs:Atm s):∃K tr,W1 (s.map UInt8.toNat) K tr/\unP tr=[([(s,1)],1)]/\s.take 4≠eR:=by
 rcases hs with ⟨n,hn,rfl⟩|rfl
 .have hb:=aWn hn;obtain⟨c,r,e,hc,-⟩:=tE hn;have hne:=xM e (fun x=>by have:=jI.1 hc;omega) hb
  have htx:aE (gA n)=n:=by unfold gA;rw[aE];rfl
  refine⟨2,gA n,.inl ⟨rfl,by rw[tF hb];exact hn,by rw[tF hb]⟩,?_,hne⟩
  unfold gA;rw[unP,aHf Ae Ae];show [([(b8 (aE (gA n)),1)],(1:Rat))]=_;rw[htx]
 .have htx:aE (.mk 3 0 false [] [] [] [])=[112,105]:=by rw[aE];rfl
  exact⟨4,_,.inr ⟨rfl,rfl,rfl⟩,by rw[unP,aHf Ae Ae,htx],Ae⟩
theorem Rds2.snoc:∀{l:List (Tr × Nat)} {m:List Fac} {p:Tr × Nat} {t:Fac},Rds2 l m->p.2=t.2->unP p.1=[([(t.1,1)],1)]->t.1.take 4≠eR->Rds2 (l++[p]) (m++[t])
 | [],[],_,_,_,h1,h2,h3=>⟨h1,h2,h3,trivial⟩
 | _::_,_::_,_,_,⟨a,b,c,d⟩,h1,h2,h3=>⟨a,b,c,Rds2.snoc d h1 h2 h3⟩
 | [],_::_,_,_,h,_,_,_=>h.elim
 | _::_,[],_,_,h,_,_,_=>h.elim
theorem cf_before{m:Mon}(hm:kN m){i:Nat}{s:List UInt8}{e:Nat}(h:m[i]?=some (s,e)):cf (m.take i) s=0:=by
 refine yP fun t ht he=>?_
 have h1:=tX h;unfold kN at hm;rw[h1] at hm;have h2:=(List.pairwise_append.1 hm).2.2 t ht (s,e) (bIw ..);exact eI.irr _ (show eI.lt s s from by have h3:eI.lt t.1 s:=h2;rwa [he] at h3)
theorem less_snoc{x:List UInt8}{m:Mon}{i:Nat}{s:List UInt8}{e:Nat}(h:m[i]?=some (s,e)):lessF x (m.take (i+1))=lessF x (m.take i)++[(s,if s=x then e-1 else e)]:=by
 rw[aY h];unfold lessF;rw[bI3];rfl
theorem cf_snoc{m:Mon}{i:Nat}{s:List UInt8}{e:Nat}(h:m[i]?=some (s,e))(x:List UInt8):cf (m.take (i+1)) x=cf (m.take i) x+if s=x then e else 0:=by
 rw[aY h,kE,aV,pF]
 split<;>rfl
theorem pln_atm{m:Mon}(h:∀f∈m,Atm f.1):Pln m:=fun f hf=>by
 obtain⟨-,-,-,-,h1⟩:=atom_read (h f hf);exact h1
theorem litX_un{n:Bool}{l m:List Nat}{q:Rat}(e:aK n l m=q)(h:(aYd (iV n l m)).2=0):(aYd (iV n l m)).1=mkL q:=by
 unfold iV at h ⊢
 split at h
 .rename_i k;rw[if_pos k,e];rfl
 .cases h
end Go.Proofs.Y
/- Own memory that is never written again: ahead of an append, of a call that wants a row, of a return. -/
namespace Go.Vc
open Go Go.Dig
theorem App.keep{T:Tab}{e:TypeId}{size bytes:Nat}{s x:Value}{h:aA}{L:Vc.Own}{k:Value->aA->Vc.Own->Prop}{b:Nat}{o:Obj}(n:Nat)(hn:L[n]?=some (b,o))(hk:h.le (h.put b o)->App T e size bytes s x (h.put b o) (L.eraseIdx n) k):App T e size bytes s x h L k:=
 ⟨fun ok o' ρ K Q w0 h0 L0 w ty c h1 h2 h3 h4 h5 h6 h7 inv hout hK=>(hk (inv.le_keep hn)).ex ok o' ρ K Q w0 h0 L0 w ty c h1 h2 h3 h4 h5 h6 h7 (inv.keep hn) hout hK⟩
def PutsTo(h:aA):Vc.Own->aA->Prop
 | [],H=>H=h
 | (b,o)::J,H'=>∃H,PutsTo h J H/\H.le (H.put b o)/\H'=H.put b o
theorem PutsTo.le{h:aA}:∀{J:Vc.Own} {H:aA},PutsTo h J H->h.le H
 | [],_,e=>by rw[show _=h from e];exact aA.lr _
 | (b,o)::J,_,⟨H,w,hl,e⟩=>by rw[e];exact aA.lt w.le hl
theorem RN.keepJ{v:Value}{R:Value->aA->Vc.Own->Prop}{h:aA}{tl:Vc.Own}:∀(J A:Vc.Own),(∀H,PutsTo h J H->RN v H (A++tl) R)->RN v h (A++(J++tl)) R
 | [],A,hk=>hk h rfl
 | (b,o)::J,A,hk=>by
  have:=RN.keepJ (h:=h) (tl:=tl) (v:=v) (R:=R) J (A++[(b,o)]) fun H w=>by
   refine RN.keep A.length (b:=b) (o:=o) Aq fun hle=>?_
   have e:((A++[(b,o)])++tl).eraseIdx A.length=A++tl:=by
    rw[bIt,bLb (bJf _),bK7];rfl
   rw[e];exact hk _ ⟨H,w,hle,rfl⟩
  rw[bIt] at this;exact this
end Go.Vc
namespace Go.Proofs.Y
open Go Go.Vc Go.Dig
theorem CN.growT{e:TypeId}{v:Value}{n:Nat}{xs:List Value}{F tl:Vc.Own}{f:FuncId}{args:List Value}{h:aA}{k:Value->aA->Vc.Own->Prop}{acc:List Tr}(g:aF e 7 v n xs F)(kc:KC h xs acc)(hn:n=acc.length)(hf:T.fn f=true)
  (hk:∀h' (s:Sl) F',h.le h'->v=s.val->IsK h' s acc->CN T f args h' (F'++tl) k):CN T f args h (F++tl) k:=by
 obtain⟨g1,⟨rfl,rfl⟩|⟨i,b,cap,zs,rfl,h2,h3,h4⟩⟩:=g
 .obtain rfl:acc=[]:=bJp.1 hn.symm;exact hk h ⟨none,0,0⟩ F (aA.lr _) rfl (IsK.nil h)
 .have hlt:=(bIr.1 h2).1;refine CN.keep i (by rw[bI0 hlt];exact h2) hf fun hle=>?_
  rw[List.eraseIdx_append_of_lt_length hlt];exact hk _ ⟨some ⟨b,0,none⟩,n,cap⟩ _ hle rfl (IsK.put hle kc hn h3)
end Go.Proofs.Y