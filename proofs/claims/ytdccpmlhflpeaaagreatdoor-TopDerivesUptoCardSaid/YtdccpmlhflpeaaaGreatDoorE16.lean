/- A text cut at its first slash; a text of zeros alone. -/
import Derived.Test.YtdccpmlhflpeaaaGreatDoorE14
import Derived.Lib.Strings
import Derived.Lib.Slices
import Derived.Lib.Walk
import Derived.Lib.Bytealg
set_option linter.all false
set_option maxHeartbeats 2000000
set_option maxRecDepth 100000
namespace Go.Dig
def cD:List Nat->Nat
 | []=>0
 | c::l=>if c=47 then 0 else cD l+1
def nP(l:List Nat):Prop:=cD l<l.length/\∀c∈l.drop (cD l+1),c=48
instance (l:List Nat):Decidable (nP l):=by unfold nP;exact inferInstance
end Go.Dig
namespace Go.Vc
open Go Go.Dig
theorem aGb:∀l:List Nat,(∀y∈l,y<256)->Lib.indexByte (txt l).data.toList 47=if cD l<l.length then (cD l:Int) else -1:=by
 have key:∀l:List Nat,(∀y∈l,y<256)->Lib.indexByte (l.map UInt8.ofNat) 47=if cD l<l.length then (cD l:Int) else -1:=by
  intro l
  induction l with
  | nil=>intro _;rfl
  | cons c l ih=>
   intro hb;have h1:=ih fun y hy=>hb y (bDh _ hy)
   have hc:=hb c bDe;have e:(UInt8.ofNat c == 47)=decide (c=47):=by
    by_cases h:c=47
    .subst h;rfl
    .rw[decide_eq_false h];have:UInt8.ofNat c≠47:=fun x=>h (by
       have:=congrArg UInt8.toNat x;rw[UInt8.toNat_ofNat',bEl hc] at this;exact this)
     simpa using this
   simp only[bEe,Lib.indexByte];have hs:cD (c::l)=if c=47 then 0 else cD l+1:=rfl
   rw[e,h1,hs,bDa];clear e h1 ih hs;by_cases hx:c=47
   .rw[decide_eq_true hx,if_pos rfl,if_pos hx,if_pos Aa];rfl
   .rw[decide_eq_false hx,if_neg hx,if_neg (show ¬(false=true) by decide)]
    obtain⟨k,hk⟩:=AB (cD l);rw[<-hk];by_cases hl:k<l.length
    .have:((k:Int) == -1)=false:=by simp
     rw[if_pos hl,this,if_neg (show ¬(false=true) by decide),if_pos Aa]
     simp
    .rw[if_neg hl,if_neg (show ¬k+1<l.length+1 by omega)]
     rfl
 intro l hb;have:=key l hb;unfold txt
 simpa using this
theorem Fn0.ofCalls{T:Tab}{f:FuncId}{args:List Value}{h:aA}{v:Value}(hc:∀w,Calls T.prog f args.toArray w fun e w'=>e=.returned v/\w'=w):Fn0 T f args h fun v' h'=>h'=h/\v'=v:=by
 refine Fn0.make fun w s=>(hc w).mono fun e w' he=>?_
 obtain⟨rfl,rfl⟩:=he;exact⟨h,[],Inv.init s,rfl,rfl,rfl⟩
end Go.Vc
namespace Go.Proofs.Y
open Go Go.Vc Go.Dig
theorem aGc(s:ByteArray)(c:Int)(w:World):
  Calls Tryz.prog 213 #[.string s,.int .u8 c] w fun e w'=>e=.returned (.int .i64 (Lib.indexByte s.data.toList c.toNat.toUInt8))/\w'=w:=by
 go_enter Tryz.func213,Tryz.ntmps213
 go_wp2
 rw[run_callFunc_extern Tryz.func236 (by kernel_rfl) (by kernel_rfl) (by kernel_rfl) (e:=Extern.BytealgIndexByte.indexByte) (by kernel_rfl),Lib.run_indexByteString];simp only[Result.andThen];rw[Oper.upon_value]
 go_wp2
 go_ret
 exact⟨rfl,rfl⟩
theorem aD2(h:aA)(l:List Nat)(hb:∀y∈l,y<256):Fn0 T F.q213 [.string (txt l),.int .u8 47] h fun v h'=>h'=h/\v=.int .i64 (if cD l<l.length then (cD l:Int) else -1):=by
 rw[<-aGb l hb];exact Fn0.ofCalls fun w=>aGc (txt l) 47 w
theorem aQx(h:aA)(l:List Nat)(hb:∀y∈l,y<256):Fn0 T F.q185 [.string (txt l),.string (txt [47])] h fun v h'=>h'=h/\v=.int .i64 (if cD l<l.length then (cD l:Int) else -1):=by
 obtain⟨V,hV⟩:=AB (if cD l<l.length then (cD l:Int) else -1)
 have c1:=fun h=>aD2 h l hb
 rw[<-hV] at c1 ⊢;have hz1:((txt [47]).size:Int)=1:=rfl;refine f0C ok D.q185 rfl ?_;conv=>whnf
 repeat' first|((first|(show eB _ _ _;refine eB.txt [47] rfl Ad 0 rfl Ad ?_)|(show CN _ _ _ _ _ _;refine CN.quiet rfl (c1 _) ?_)|((first|apply oI.z|apply cI.z)))<;>conv=>whnf)|(show cnd _ _ _;first|(refine nI Ad hb (fun _=>?_) (fun _=>?_)<;>(conv=>whnf))|(apply aD<;>intro _<;>first|(exfalso;omega)|conv=>whnf))
 all_goals first
  | exact RN.a ⟨rfl,rfl⟩
  | (rename_i hx;subst hx;rw[if_pos Ad] at hV;subst hV;exact RN.a ⟨rfl,rfl⟩)
def aI4(l:List Nat):Value:=if cD l<l.length then .tuple #[.string (txt (l.take (cD l))),.string (txt (l.drop (cD l+1))),.bool true] else .tuple #[.string (txt l),.string (txt []),.bool false]
theorem aY3(h:aA)(l:List Nat)(hb:∀y∈l,y<256)(hl:l.length<=1000000):Fn0 T F.q78 [.string (txt l),.string (txt [47])] h fun v h'=>h'=h/\v=aI4 l:=by
 have hz1:((txt [47]).size:Int)=1:=rfl;have hz:=bF l;have c0:=fun h=>aQx h l hb
 have c1:∀h,Fn0 T F.q132 [.string (txt l),.string (txt [47])] h fun v h'=>h'=h/\v=aI4 l:=fun h=>by
  obtain⟨k,hk⟩:=AB (cD l);unfold aI4;rw[<-hk] at c0 ⊢;by_cases hs:k<l.length
  .rw[if_pos hs] at c0 ⊢;refine f0C ok D.q132 rfl ?_;conv=>whnf
   repeat' ((first|(show CN _ _ _ _ _ _;refine CN.quiet rfl (c0 _) ?_)|(show Cut _ _ _ _;first|(refine Cut.txt l 0 k Aa Aa rfl Aa Aa ?_;rw[eZ,bE5])|(refine Cut.txt l (k+1) l.length Aa Aa rfl Aa Aa ?_;rw[eZ,bDm]))|((first|apply oI.z|apply cI.z))|refine WN.i64 Aa Aa ?_|refine DrN.run Al ?_|(apply bI<;>intro _<;>try (exfalso;omega)))<;>conv=>whnf)
   all_goals exact RN.a ⟨rfl,rfl⟩
  .rw[if_neg hs] at c0 ⊢;refine f0C ok D.q132 rfl ?_;conv=>whnf
   repeat' ((first|(show CN _ _ _ _ _ _;refine CN.quiet rfl (c0 _) ?_)|((first|apply oI.z|apply cI.z))|(apply bI<;>intro _<;>try (exfalso;omega)))<;>conv=>whnf)
   all_goals exact RN.a ⟨rfl,rfl⟩
 by_cases hs:cD l<l.length
 .unfold aI4 at c1 ⊢;rw[if_pos hs] at c1 ⊢;refine f0C ok D.q78 rfl ?_;conv=>whnf
  repeat' ((first|(show CN _ _ _ _ _ _;refine CN.quiet rfl (c1 _) ?_)|((first|apply oI.z|apply cI.z)))<;>conv=>whnf)
  exact RN.a ⟨rfl,rfl⟩
 .unfold aI4 at c1 ⊢;rw[if_neg hs] at c1 ⊢;refine f0C ok D.q78 rfl ?_;conv=>whnf
  repeat' ((first|(show CN _ _ _ _ _ _;refine CN.quiet rfl (c1 _) ?_)|((first|apply oI.z|apply cI.z)))<;>conv=>whnf)
  exact RN.a ⟨rfl,rfl⟩
theorem aQy(h:aA)(l:List Nat)(hb:∀y∈l,y<256)(hl:l.length<=1000000):Fn0 T F.q134 [.string (txt l),.int .u8 48] h fun v h'=>h'=h/\∃k,k<=l.length/\v=.string (txt (l.take k))/\(∀i,k<=i->i<l.length->l.getD i 0=48)/\(k≠0->l.getD (k-1) 0≠48):=by
 refine f0C ok D.q134 rfl ?_;conv=>whnf
 repeat ((first|apply oI.z|apply cI.z);conv=>whnf)
 skip
 refine LpN.of (fun r ρ h' L=>r<=l.length/\h'=h/\rd ρ 0=.string (txt (l.take r))/\Hq (∀i,r<=i->i<l.length->l.getD i 0=48)) l.length ⟨bDx _,rfl,by rw[bDm];rfl,⟨fun i h1 h2=>by omega⟩⟩ ?_
 conv=>whnf
 repeat intro _
 rename_i r h1 L1 hI;obtain⟨hr,rfl,e0,hq⟩:=hI;conv at e0=>lhs;whnf
 subst e0;have hz:(txt (l.take r)).size=r:=by rw[bF,bDr,bE9 hr]
 have hb2:∀y∈l.take r,y<256:=fun y hy=>hb y (bEd hy)
 have hlen:(l.take r).length=r:=by rw[bDr,bE9 hr]
 have hX:(l.take r).getD (r-1) 0=l.getD (r-1) 0\/r=0:=by
  by_cases h0:r=0
  .exact .inr h0
  .left
   simp only[bC7,bFb];rw[if_pos Aa]
 have hcut:((l.take r).take (r-1)).drop 0=l.take (r-1):=by rw[bE5,List.take_take,bE9 Aa]
 have q1:l.getD (r-1) 0=48->∀i,r-1<=i->i<l.length->l.getD i 0=48:=fun x i h1 h2=>by
  by_cases e:i=r-1
  .rw[e];exact x
  .exact hq.out i Aa h2
 obtain⟨X,hXd⟩:=AB ((l.take r).getD (r-1) 0);obtain⟨Y,hYd⟩:=AB (l.getD (r-1) 0);rw[<-hXd,<-hYd] at hX;rw[<-hYd] at q1;replace q1:=Hq.mk q1;conv=>whnf
 repeat' first|((first|(show eB _ _ _;(refine eB.txt (l.take r) rfl hb2 (r-1) Aa Aa ?_;rw[<-hXd]))|(show Cut _ _ _ _;(refine Cut.txt (l.take r) 0 (r-1) Aa Aa rfl Aa Aa ?_;rw[eZ,hcut]))|((first|apply oI.z|apply cI.z))|refine WN.i64 Aa Aa ?_)<;>conv=>whnf)|(show cnd _ _ _;first|((first|apply aB|apply aD)<;>intro _<;>first|(exfalso;omega)|conv=>whnf))
 all_goals first
  | exact⟨rfl,r-1,Aa,Aa,rfl,rfl,⟨q1.out Aa⟩⟩
  | exact RN.a ⟨rfl,r,hr,rfl,hq.out,fun x=>by rw[<-hYd];omega⟩
theorem aQz(h:aA)(l:List Nat)(hb:∀y∈l,y<256)(hl:l.length<=1000000):Fn0 T F.q133 [.string (txt l),.int .u8 48] h fun v h'=>h'=h/\∃k,k<=l.length/\v=.string (txt (l.drop k))/\(∀i,i<k->l.getD i 0=48)/\(k<l.length->l.getD k 0≠48):=by
 refine f0C ok D.q133 rfl ?_;conv=>whnf
 repeat ((first|apply oI.z|apply cI.z);conv=>whnf)
 skip
 refine LpN.of (fun r ρ h' L=>∃k,k<=l.length/\r=l.length-k/\h'=h/\rd ρ 0=.string (txt (l.drop k))/\Hq (∀i,i<k->l.getD i 0=48)) l.length ⟨0,bDw _,rfl,rfl,by rw[bE5];rfl,⟨fun i h1=>by omega⟩⟩ ?_
 conv=>whnf
 repeat intro _
 rename_i r h1 L1 hI;obtain⟨k,hk,rfl,rfl,e0,hq⟩:=hI;conv at e0=>lhs;whnf
 subst e0;have hz:(txt (l.drop k)).size=l.length-k:=by rw[bF,bD3]
 have hb2:∀y∈l.drop k,y<256:=fun y hy=>hb y (bE2 hy)
 have hlen:(l.drop k).length=l.length-k:=bD3;have hX:(l.drop k).getD 0 0=l.getD k 0:=by simp[bC7]
 have hcut:((l.drop k).take (l.length-k)).drop 1=l.drop (k+1):=by rw[<-hlen,bDm,bG2]
 have q1:l.getD k 0=48->∀i,i<k+1->l.getD i 0=48:=fun x i h1=>by
  by_cases e:i=k
  .rw[e];exact x
  .exact hq.out i Aa
 obtain⟨X,hXd⟩:=AB (l.getD k 0);rw[<-hXd] at hX q1;replace q1:=Hq.mk q1;conv=>whnf
 repeat' first|((first|(show eB _ _ _;(refine eB.txt (l.drop k) rfl hb2 0 Aa Aa ?_;rw[hX]))|(show Cut _ _ _ _;(refine Cut.txt (l.drop k) 1 (l.length-k) Aa Aa rfl Aa Aa ?_;rw[eZ,hcut]))|((first|apply oI.z|apply cI.z)))<;>conv=>whnf)|(show cnd _ _ _;first|((first|apply aB|apply aD)<;>intro _<;>first|(exfalso;omega)|conv=>whnf))
 all_goals first
  | exact⟨rfl,l.length-(k+1),Aa,k+1,Aa,rfl,rfl,rfl,⟨q1.out Aa⟩⟩
  | exact RN.a ⟨rfl,k,hk,rfl,hq.out,fun x=>by rw[<-hXd];omega⟩
theorem aVp(h:aA)(l:List Nat)(hb:∀y∈l,y<256)(hl:l.length<=1000000):Fn0 T F.q79 [.string (txt l),.string (txt [48])] h fun v h'=>h'=h/\∃m,v=.string (txt m)/\(m=[]↔∀c∈l,c=48)/\∀y∈m,y<256:=by
 have mem:∀{l:List Nat},(∀i,i<l.length->l.getD i 0=48)->∀c∈l,c=48:=fun {l} x c hc=>by
  obtain⟨i,hi,rfl⟩:=bFh hc;have:=x i hi
  simpa[bC7,hi] using this
 have g48:[48].getD 0 0=48:=rfl;have s48:((txt [48]).size:Int)=1:=rfl;refine f0C ok D.q79 rfl ?_;conv=>whnf
 repeat' first|((first|(show eB _ _ _;refine eB.txt [48] rfl Ad 0 rfl Ad ?_)|(show CN _ _ _ _ _ _;first|(refine CN.f rfl (aQy _ l hb hl) (fun v h' hl2 hr=>?_);obtain⟨rfl,k,hk,rfl,a1,a2⟩:=hr;clear hl2)|(refine CN.f rfl (aQz _ (l.take _) (fun y hy=>hb y (bEd hy)) (by rw[bDr];omega)) (fun v h' hl2 hr=>?_);obtain⟨rfl,j,hj,rfl,b1,b2⟩:=hr;clear hl2))|((first|apply oI.z|apply cI.z))|refine⟨fun _=>aH.o (aA.lr _),?_⟩|refine DrN.run Al ?_)<;>conv=>whnf)|(show cnd _ _ _;first|(refine iO [48] rfl rfl (fun hx=>absurd hx Ad) (fun _=>?_);conv=>whnf)|(refine iO l rfl rfl (fun hx=>?_) (fun hx=>?_)<;>(conv=>whnf))|((first|apply aB|apply aD)<;>intro _<;>first|(exfalso;omega)|conv=>whnf))
 .subst hx;exact RN.a ⟨rfl,[],rfl,by simp,by simp⟩
 .refine RN.a ⟨rfl,_,rfl,⟨fun x=>?_,fun x=>?_⟩,fun y hy=>hb y (bEd (bE2 hy))⟩
  .refine mem fun i hi=>?_
   by_cases hik:k<=i
   .exact a1 i hik hi
   .have hjk:j=(l.take k).length:=by
     have:=congrArg List.length x;rw[bD3,bDd] at this;omega
    rw[bDr,bE9 hk] at hjk;have:=b1 i Aa
    simpa[bC7,bFb,show i<k by omega] using this
  .have hk0:k=0:=by
    by_cases h0:k=0
    .exact h0
    .refine absurd ?_ (a2 h0);rw[bC7,bC8 Aa];exact x _ (bFe _)
   subst hk0;simp
end Go.Proofs.Y
/- Valid trees: plain; the program's count. -/
namespace Go.Dig
mutual
def szT:Tr->Nat
 | .mk _ _ _ _ _ _ ks=>1+eF ks
def eF:List Tr->Nat
 | []=>0
 | t::ts=>szT t+eF ts
end
def aR(op:Int):Int:=
 if op=1\/op=2\/op=3 then 0 else if op=4\/op=9\/op=10\/op=11\/op=12 then 1 else if op=5\/op=6\/op=7\/op=8\/op=13\/op=14 then 2 else if op=15 then 3 else -1
def jP(op:Int):Int:=if op=9 then -32 else if op=10 then 2 else if op=11 then 1 else 0
def eO(op:Int):Int:=if op=9 then 32 else if op=10 then 8 else if op=11 then 8 else 0
end Go.Dig
namespace Go.Proofs.Y
open Go Go.Vc Go.Dig
def aI5(neg:Bool)(l m:List Nat):Prop:=okR neg l m/\0<=aN neg l m
instance (neg:Bool) (l m:List Nat):Decidable (aI5 neg l m):=by unfold aI5;exact inferInstance
def fQ(op arg:Int)(neg:Bool)(l m name:List Nat)(n:Nat):Prop:=
 (n:Int)=aR op/\jP op<=arg/\arg<=eO op/\(if op=2 then fE name else name=[])/\(if op=1 then aI5 neg l m else evl 4294967296 l=0)
instance (op arg:Int) (neg:Bool) (l m name:List Nat) (n:Nat):Decidable (fQ op arg neg l m name n):=by unfold fQ;exact inferInstance
mutual
def okT:Nat->Tr->Prop
 | d,.mk op arg neg l m name ks=>d<=30/\fQ op arg neg l m name ks.length/\dJ (d+1) ks
def dJ:Nat->List Tr->Prop
 | _,[]=>True
 | d,t::ts=>okT d t/\dJ d ts
end
mutual
def aQ0:(d:Nat)->(t:Tr)->Decidable (okT d t)
 | d,.mk op arg neg l m name ks=>by
  rw[okT];have:=aD3 (d+1) ks;exact inferInstance
def aD3:(d:Nat)->(ts:List Tr)->Decidable (dJ d ts)
 | _,[]=>by rw[dJ];exact inferInstance
 | d,t::ts=>by
  rw[dJ];have:=aQ0 d t;have:=aD3 d ts;exact inferInstance
end
instance (d:Nat) (t:Tr):Decidable (okT d t):=aQ0 d t
instance (d:Nat) (ts:List Tr):Decidable (dJ d ts):=aD3 d ts
def dN(t:Tr):Prop:=okT 1 t/\szT t<=300
instance (t:Tr):Decidable (dN t):=by unfold dN;exact inferInstance
theorem aVq:∀t:Tr,0<szT t
 | .mk _ _ _ _ _ _ ks=>by rw[szT];omega
theorem oK:∀{ts:List Tr} {t:Tr},t∈ts->szT t<=eF ts
 | t::ts,u,h=>by
  rw[eF];rcases bDp.1 h with rfl|h
  .omega
  .have:=oK h;omega
theorem iY:∀(a b:List Tr),eF (a++b)=eF a+eF b
 | [],b=>by rw[bEm,eF,bDu]
 | t::a,b=>by rw[bEn,eF,eF,iY a b];omega
theorem kX{d:Nat}:∀{a b:List Tr},dJ d (a++b)↔dJ d a/\dJ d b
 | [],b=>by rw[bEm,dJ];simp
 | t::a,b=>by rw[bEn,dJ,dJ,kX (a:=a)];exact and_assoc.symm
theorem bD{α:Type}{l:List α}{j:Nat}{t:α}(h:l[j]?=some t):l.take (j+1)=l.take j++[t]:=by
 rw[List.take_add_one,h];rfl
theorem mF{α:Type}{l:List α}{j:Nat}{t:α}(h:l[j]?=some t):l=l.take j++t::l.drop (j+1):=by
 obtain⟨hj,rfl⟩:=bC9.1 h;rw[List.getElem_cons_drop hj,bDo]
/-! a kid in memory -/
theorem iU.get{h:aA}{c:Array Value}:∀{ts:List Tr} {off j:Nat} {t:Tr},iU h c off ts->ts[j]?=some t->∃vs,vs.length=7/\(∀i,i<7->c[off+j*7+i]?=vs[i]?)/\IsE h vs t
 | [],off,j,t,_,e=>by simp at e
 | u::ts,off,0,t,w,e=>by
  rw[iU] at w;obtain⟨⟨vs,h1,h2,h3⟩,-⟩:=w;simp at e;subst e;exact⟨vs,h1,fun i hi=>by rw[bEv,bEh];exact h2 i hi,h3⟩
 | u::ts,off,j+1,t,w,e=>by
  rw[iU] at w;obtain⟨vs,h1,h2,h3⟩:=iU.get (j:=j) w.2 (by simpa using e);exact⟨vs,h1,fun i hi=>by rw[<-h2 i hi];congr 1;omega,h3⟩
theorem IsE.isK{h:aA}{op arg:Int}{neg:Bool}{l m name:List Nat}{ks:List Tr}{vs:List Value}(w:IsE h vs (.mk op arg neg l m name ks)):
  ∃a b s:Sl,vs=[.int .i64 op,.int .i64 arg,.bool neg,a.val,b.val,.string (txt name),s.val]/\(-9223372036854775808<=op/\op<=9223372036854775807)/\(-9223372036854775808<=arg/\arg<=9223372036854775807)/\bJ h a b l m/\(∀y∈name,y<256)/\IsK h s ks:=by
 rw[IsE] at w;obtain⟨a,b,s,h1,h2,h3,h4,h5,h6,h7,h8⟩:=w;exact⟨a,b,s,h1,h2,h3,h4,h5,⟨h6,h7,h8⟩⟩
theorem Sl.val_inj{s t:Sl}(h:s.val=t.val):s=t:=by
 obtain⟨a,l,c⟩:=s;obtain⟨a',l',c'⟩:=t;unfold Sl.val at h
 injection h with h1 h2 h3
 subst h1 h2 h3;rfl
theorem IsE.inv{h:aA}{op ar:Int}{ng:Bool}{nn dd ss:Sl}{nm:List Nat}{op' arg':Int}{neg':Bool}{l m name:List Nat}{ks:List Tr}(w:IsE h [.int .i64 op,.int .i64 ar,.bool ng,nn.val,dd.val,.string (txt nm),ss.val] (.mk op' arg' neg' l m name ks)):
  op=op'/\ar=arg'/\ng=neg'/\bJ h nn dd l m/\txt nm=txt name/\(∀y∈name,y<256)/\IsK h ss ks:=by
 obtain⟨a,b,s,e,-,-,hv,hb,hk⟩:=w.isK
 injection e with e1 e
 injection e with e2 e
 injection e with e3 e
 injection e with e4 e
 injection e with e5 e
 injection e with e6 e
 injection e with e7 e
 injection e1 with _ e1
 injection e2 with _ e2
 injection e3 with e3
 injection e6 with e6
 have e4:=Sl.val_inj e4;have e5:=Sl.val_inj e5;have e7:=Sl.val_inj e7;subst e4 e5 e7;exact⟨e1,e2,e3,hv,e6,hb,hk⟩
theorem LdN.of{h:aA}{L:Own}{a:Addr}{n:Nat}{k:Value->Prop}(vs:List Value)(hl:vs.length=n)(hv:∀i,i<n->Has h L (a.add i) (vs.getD i undef))(hk:k (.agg vs.toArray)):LdN h L a n k:=⟨⟨vs,hl,hv,hk⟩⟩
theorem Idx.kid{h:aA}{s:Sl}{ts:List Tr}(w:IsK h s ts){i:Int}{k:Addr->Prop}(j:Nat)(t:Tr)(hi:i=j)(ht:ts[j]?=some t)
  (hk:∀(ad:Addr) (op arg:Int) (neg:Bool) (a b:Sl) (name:List Nat) (s':Sl),IsE h [.int .i64 op,.int .i64 arg,.bool neg,a.val,b.val,.string (txt name),s'.val] t->
    (∀h' L (k':Value->Prop),h.le h'->k' (.agg #[.int .i64 op,.int .i64 arg,.bool neg,a.val,b.val,.string (txt name),s'.val])->LdN h' L ad 7 k')->k ad):Idx s.a i s.l 7 k:=by
 obtain⟨hj,-⟩:=bC9.1 ht;rcases w.mem with e|⟨bl,off,c,T,fz,e1,e2,e3⟩
 .subst e;simp at ht
 .obtain⟨vs,h1,h2,h3⟩:=iU.get e3 ht;obtain⟨op,arg,neg,l,m,name,ks⟩:=t;have h3':=h3;rw[IsE] at h3;obtain⟨a,b,s',rfl,-⟩:=h3;refine Idx.of j e1 hi (by rw[w.len];exact hj) (hk _ op arg neg a b name s' h3' fun h' L k' hl hk'=>?_)
  refine LdN.of [.int .i64 op,.int .i64 arg,.bool neg,a.val,b.val,.string (txt name),s'.val] rfl (fun i hi=>?_) hk'
  rw[bB];refine Has.imm (hl _ _ e2) ?_;rw[h2 i hi]
  match i,hi with
  | 0,_=>rfl
  | 1,_=>rfl
  | 2,_=>rfl
  | 3,_=>rfl
  | 4,_=>rfl
  | 5,_=>rfl
  | 6,_=>rfl
mutual
def aZ:Tr->Prop
 | .mk op arg _ _ _ _ ks=>((1<=op/\op<=7/\op≠3)\/(op=9/\0<=arg))/\bK ks
def bK:List Tr->Prop
 | []=>True
 | t::ts=>aZ t/\bK ts
end
theorem iE:∀{ts:List Tr} {t:Tr},bK ts->t∈ts->aZ t
 | u::ts,t,h,ht=>by
  rw[bK] at h;rcases bDp.1 ht with rfl|ht
  .exact h.1
  .exact iE h.2 ht
end Go.Proofs.Y
/- A new parser; the function that Run is handed; the check of numbers and counts. -/
namespace Go.Vc
open Go
theorem CN.new{T:Tab}{f:FuncId}{args:List Value}{h:aA}{L:Own}{k:Value->aA->Own->Prop}{R:Value->aA->Own->Prop}(ok:T.fn f=true)(hf:Fn T f args h [] R)(hk:∀v h' La,h.le h'->R v h' La->k v h' (La++L)):CN T f args h L k:=
 .of ok (.done ⟨[],L,R,by simp,hf,fun v h' La hl r=>⟨La++L,.refl _,hk v h' La hl r⟩⟩)
theorem CN.all{T:Tab}{f:FuncId}{args:List Value}{h:aA}{A Lp:Own}{k:Value->aA->Own->Prop}{R:Value->aA->Own->Prop}(ok:T.fn f=true)(hf:Fn T f args h Lp R)
  (hk:∀v h' Lp',h.le h'->R v h' Lp'->k v h' (A++Lp')):CN T f args h (A++Lp) k:=
 .of ok (.done ⟨Lp,A,R,bFo,hf,fun v h' La hl r=>⟨A++La,bFo,hk v h' La hl r⟩⟩)
end Go.Vc
namespace Go.Dig
def gV(t:Tk):Prop:=t.kind=1/\nP t.text
instance (t:Tk):Decidable (gV t):=by unfold gV;exact inferInstance
end Go.Dig
namespace Go.Proofs.Y
open Go Go.Vc Go.Dig
theorem aY4(h:aA)(s:Sl)(e:Nat):Vc.Fn T F.q33 [s.val,.int .i64 e] h [] fun v h' L'=>h'=h/\∃bp,v=.pointer (some ⟨bp,0,none⟩)/\L'=[Pst bp s 0 e (.slice none 0 0)]:=by
 refine f1C ok D.q33 rfl ?_;conv=>whnf
 repeat' ((first|((first|apply oI.z|apply cI.z))|intro (_:Nat))<;>conv=>whnf)
 exact RN.done ⟨rfl,_,rfl,rfl⟩
def rA(ts:List Tk):Pr Tr:=match qZ ts prs with
 | .ok tr i cs=>if i<ts.length then .bad i else .ok tr i cs
 | .bad j=>.bad j
theorem aNm(ts:List Tk)(bp:Nat)(s:Sl)(e:Nat)(h:aA)(v:Value)(G:Own)(ec pc:Nat)(T1:TypeId)(tb:Tb h)(w:dU h s ts)(g:aE Ty.syntax_count 4 v 0 [] G):
  FnP T F.q35 [.pointer (some ⟨pc,0,none⟩),.pointer (some ⟨ec,0,none⟩)] h ((ec,.cells [.int .i64 0,.int .i64 0,.bool false,.slice none 0 0,.slice none 0 0,.string (txt []),.slice none 0 0].toArray Ty.api_Expr (0,0))::(pc,.cells [.pointer (some ⟨bp,0,none⟩)].toArray T1 (0,0))::Pst bp s 0 e v::G)
   (fun r h' L'=>∃(tr:Tr) (i':Nat) (cs':List Cn) (v':Value) (G':Own) (op ar:Int) (ng:Bool) (nn dd:Sl) (nm:List Nat) (ss:Sl),rA ts=.ok tr i' cs'/\cs'.length<=ts.length/\L'=(ec,.cells [.int .i64 op,.int .i64 ar,.bool ng,nn.val,dd.val,.string (txt nm),ss.val].toArray Ty.api_Expr (0,0))::(pc,.cells [.pointer (some ⟨bp,0,none⟩)].toArray T1 (0,0))::Pst bp s i' e v'::G'/\aE Ty.syntax_count 4 v' cs'.length (cnc cs') G'/\IsE h' [.int .i64 op,.int .i64 ar,.bool ng,nn.val,dd.val,.string (txt nm),ss.val] tr)
   fun c _ _=>∃i:Nat,c=flt i/\∃j,rA ts=.bad j/\i=iX ts e j:=by
 have c1:=fun h tb w=>aVo ts bp s e h v G tb w g
 obtain⟨r0,hr0⟩:=AB (qZ ts prs);rw[<-hr0] at c1;have t1:∀j,r0=.bad j->rA ts=.bad j:=fun j x=>by unfold rA;rw[<-hr0,x]
 have t2:∀tr i cs,r0=.ok tr i cs->i<ts.length->rA ts=.bad i:=fun tr i cs x y=>by unfold rA;rw[<-hr0,x];exact if_pos y
 have t3:∀tr i cs,r0=.ok tr i cs->ts.length<=i->rA ts=.ok tr i cs:=fun tr i cs x y=>by unfold rA;rw[<-hr0,x];exact if_neg Aa
 refine fPC ok _ D.q35 rfl ?_;conv=>whnf
 repeat' ((first|(show CN _ _ _ _ _ _;first|(refine CN.par (A:=[_,_]) rfl (FnP.withPan (c1 _ Ab Ab)) (fun v h' Lp hl hr=>?_) (fun c h' Lp hl hs=>?_);obtain⟨tr,i1,cs1,v1,G1,hp1,hi1,hc1,rfl,g1,hv1⟩:=hr;obtain⟨op,ar,ng,nn,dd,nm,ss,rfl,hE⟩:=hv1)|(refine CN.par2 (A:=[_,_]) (B:=G1) rfl (FnP.withPan (aQt _ _ _ ts i1 e v1 Aj)) (fun v h' Lp hl hr=>?_) (fun c h' Lp hl hs=>?_);obtain⟨rfl,hi2,rfl,rfl⟩:=hr;clear hl))|((first|apply oI.z|apply cI.z))|refine Ld.o 1 rfl rfl ?_|refine Sto.l 0 rfl rfl rfl ?_)<;>conv=>whnf)
 .exact RN.done ⟨tr,i1,cs1,v1,G1,op,ar,ng,nn,dd,nm,ss,t3 tr i1 cs1 hp1 hi2,bDv hc1 hi1,rfl,g1,hE⟩
 .obtain⟨hi2,rfl⟩:=hs;exact⟨iX ts e i1,rfl,i1,t2 tr i1 cs1 hp1 hi2,rfl⟩
 .obtain⟨j,hj,rfl⟩:=hs;exact⟨iX ts e j,rfl,j,t1 j hj,rfl⟩
def fJ(t:Tk):Prop:=t.kind=1/\(parseL t.text).2≠0
instance (t:Tk):Decidable (fJ t):=by unfold fJ;exact inferInstance
def tF(c:Cn):Prop:=c.n<c.low\/c.high<c.n
instance (c:Cn):Decidable (tF c):=by unfold tF;exact inferInstance
def oM(ts:List Tk)(cs:List Cn):Nat × Nat:=match ts.find? (fun t=>decide (gV t)) with
 | some t=>(10,t.pos)
 | none=>match ts.filter (fun t=>decide (fJ t)) with
  | t::_=>(1,t.pos)
  | []=>match cs.find? (fun c=>decide (tF c)) with
   | some c=>(2,c.pos)
   | none=>(0,0)
def fzv(t:Tk):List Value:=[.int .i64 1,.int .i64 t.pos]
def fzc(ts:List Tk):List Value:=ts.flatMap fzv
end Go.Proofs.Y
namespace Go.Vc
open Go
theorem aE.block{e:TypeId}{size:Nat}{v:Value}{n:Nat}{xs:List Value}{F:Own}(g:aE e size v n xs F)(hn:0<n):
  ∃(b cap:Nat) (c:Array Value),v=.slice (some ⟨b,0,Option.none⟩) n cap/\(b,Obj.cells c e (0,0))∈F/\∀(j:Nat) (u:Value),xs[j]?=some u->c[j]?=some u:=by
 obtain⟨-,⟨-,rfl⟩|⟨i,b,cap,zs,rfl,h2,h3,h4⟩⟩:=g
 .omega
 .refine⟨b,cap,_,rfl,bDc h2,fun j u hu=>?_⟩
  have hj:=(bC9.1 hu).1;rw[bD1,bDi hj];exact hu
theorem aE.zeroLen{e:TypeId}{size:Nat}{v:Value}{xs:List Value}{F:Own}(g:aE e size v 0 xs F):∃(a:Option Addr) (cap:Nat),v=.slice a 0 cap:=by
 obtain⟨-,⟨rfl,-⟩|⟨i,b,cap,zs,rfl,h2,h3,h4⟩⟩:=g
 .exact⟨Option.none,0,rfl⟩
 .exact⟨_,cap,rfl⟩
theorem aE.lenV{e:TypeId}{size:Nat}{v:Value}{n:Nat}{xs:List Value}{F:Own}(g:aE e size v n xs F):∃(a:Option Addr) (cap:Nat),v=.slice a n cap:=by
 obtain⟨-,⟨rfl,rfl⟩|⟨i,b,cap,zs,rfl,h2,h3,h4⟩⟩:=g
 .exact⟨Option.none,0,rfl⟩
 .exact⟨_,cap,rfl⟩
theorem Sto.tl{A X tl:Own}{b off:Nat}{vs l:List Value}{T:TypeId}{k:Own->Prop}(hl:Nat.ble (off+vs.length) l.length=true)(ho:vs.all gC=true)
  (hk:yF vs l off fun l=>k (A++(X++(b,.cells l.toArray T (0,0))::tl))):Sto (A++(X++(b,.cells l.toArray T (0,0))::tl)) ⟨b,off,none⟩ vs k:=by
 rw[rQ] at hk;refine⟨rfl,A.length+X.length,l.toArray,T,?_,?_,ho,?_⟩
 .rw[bDs Aa,bEw,bDs Aa,bFr];rfl
 .have:=bG7 hl;simpa using this
 .rw[iR,bEo _ _ Aa,bEw,bEo _ _ Aa,bFr];exact hk
theorem LdN.tl{h:aA}{A F tl:Own}{b m:Nat}{k:Value->Prop}{l:List Value}{T:TypeId}(hl:l.length=m)(hk:k (.agg l.toArray)):LdN h (A++(F++(b,.cells l.toArray T (0,0))::tl)) ⟨b,0,none⟩ m k:=
 ⟨l,hl,fun i hi=>by
   rw[bB,bDu];exact⟨rfl,l.toArray,T,(0,0),.inr Ao,by simp[hl▸hi,bC7,hl,hi]⟩,hk⟩
end Go.Vc
namespace Go.Proofs.Y
open Go Go.Vc Go.Dig
theorem aVr{cs:List Cn}{m:Nat}{c:Cn}(hc:cs[m]?=some c)(q:Nat)(hq:q<4):(cnc cs)[m*4+q]?=(cnv c)[q]?:=by
 induction cs generalizing m with
 | nil=>simp at hc
 | cons u cs ih=>
  unfold cnc;rw[bHw];cases m with
  | zero=>
   simp at hc;subst hc;rw[bDi (by simp[cnv];omega),bEv,bDu]
  | succ m=>
   rw[bDs (by simp[cnv];omega)];have:=ih (m:=m) (by simpa using hc);unfold cnc at this;rw[<-this]
   congr 1
   simp[cnv];omega
theorem aQ1(h:aA)(tb:Tb h)(bp:Nat)(s:Sl)(ts:List Tk)(i e:Nat)(v:Value)(cs:List Cn)(G:Own)(w:dU h s ts)(g:aE Ty.syntax_count 4 v cs.length (cnc cs) G)(hcs:cs.length<=1000000):
  Vc.Fn T F.q38 [.pointer (some ⟨bp,0,none⟩)] h (Pst bp s i e v::G) fun r h' L'=>L'=[]/\r=.agg #[.int .i64 (oM ts cs).1,.int .i64 (oM ts cs).2]:=by
 have hl:=w.len;have hw:=w.rw;have hsz:=w.sz;obtain⟨Q,hQ⟩:=AB (oM ts cs);have k1:∀j t,ts[j]?=some t->gV t->(∀u∈ts.take j,¬gV u)->Q=(10,t.pos):=fun j t ht hb hn=>by
  have:ts.find? (fun t=>decide (gV t))=some t:=by
   rw[mF ht,List.find?_append,List.find?_eq_none.2 (fun u hu=>by simpa using hn u hu)]
   simp[hb]
  rw[hQ];unfold oM;rw[this]
 have k2:(∀u∈ts,¬gV u)->ts.find? (fun t=>decide (gV t))=none:=fun hn=>List.find?_eq_none.2 fun u hu=>by simpa using hn u hu
 have k3:(∀u∈ts,¬gV u)->∀t l,ts.filter (fun t=>decide (fJ t))=t::l->Q=(1,t.pos):=fun hn t l hf=>by
  rw[hQ];unfold oM;rw[k2 hn,hf]
 have k4:(∀u∈ts,¬gV u)->ts.filter (fun t=>decide (fJ t))=[]->∀j c,cs[j]?=some c->tF c->(∀u∈cs.take j,¬tF u)->Q=(2,c.pos):=fun hn hf j c hc hb hm=>by
  have:cs.find? (fun c=>decide (tF c))=some c:=by
   rw[mF hc,List.find?_append,List.find?_eq_none.2 (fun u hu=>by simpa using hm u hu)]
   simp[hb]
  rw[hQ];unfold oM;rw[k2 hn,hf];simp only;rw[this]
 have k5:(∀u∈ts,¬gV u)->ts.filter (fun t=>decide (fJ t))=[]->(∀u∈cs,¬tF u)->Q=(0,0):=fun hn hf hm=>by
  have:cs.find? (fun c=>decide (tF c))=none:=List.find?_eq_none.2 fun u hu=>by simpa using hm u hu
  rw[hQ];unfold oM;rw[k2 hn,hf];simp only;rw[this]
 rw[<-hQ];clear hQ;refine f1C ok D.q38 rfl ?_;conv=>whnf
 repeat' ((first|((first|apply oI.z|apply cI.z))|intro (_:Nat)|refine Ld.o 1 rfl rfl ?_)<;>conv=>whnf)
 rename_i b2;refine LpN.of (fun r ρ hx L=>∃(j:Nat) (F:Own) (vz:Value),r=ts.length-j/\h.le hx/\j<=ts.length/\rd ρ 18=.int .i64 j/\rd ρ 3=vz/\L=F++((b2,.cells [.int .i64 0,.int .i64 0].toArray Ty.syntax_Fault (0,0))::(Pst bp s i e v::G))/\((ts.take j).filter (fun t=>decide (fJ t))).length<=j/\
     aE Ty.syntax_Fault 2 vz ((ts.take j).filter (fun t=>decide (fJ t))).length (fzc ((ts.take j).filter (fun t=>decide (fJ t)))) F/\Hq (∀u∈ts.take j,¬gV u)) ts.length
  ⟨0,[],_,rfl,aA.lr _,bDw _,rfl,rfl,rfl,bDx _,aE.nil _ _ _,⟨by simp⟩⟩ ?_
 conv=>whnf
 repeat intro _
 rename_i r hx L2 hI;obtain⟨j,F,vz,rfl,hle,hj,e18,e3,rfl,hfl,gz,hn⟩:=hI;conv at e3=>lhs;whnf
 subst e3;conv at e18=>lhs;whnf
 subst e18;have wh:=w.mono hle;have hwh:=wh.rw;have tbh:=tb.mono hle;by_cases hjl:j=ts.length
 .subst hjl;rw[bDm] at hfl gz hn;replace hn:=hn.out;cases hA:ts.filter (fun t=>decide (fJ t)) with
  | cons t l=>
   rw[hA] at gz hfl;have hq:=k3 hn t l hA;obtain⟨bz,cap,c,rfl,hmem,hget⟩:=gz.block Ao;have v0:∀A tl,Has hx (A++(F++tl)) ⟨bz,0,none⟩ (.int .i64 1):=fun A tl=>⟨rfl,c,_,(0,0),.inr (by simp;exact .inr (.inl hmem)),hget 0 _ rfl⟩
   have v1:∀A tl,Has hx (A++(F++tl)) ⟨bz,1,none⟩ (.int .i64 t.pos):=fun A tl=>⟨rfl,c,_,(0,0),.inr (by simp;exact .inr (.inl hmem)),hget 1 _ rfl⟩
   obtain⟨N,hN⟩:=AB ((t::l).length);have hN0:0<N:=by rw[hN];simp
   rw[<-hN];conv=>whnf
   repeat' ((first|(show Idx _ _ _ _ _;refine Idx.of 0 rfl rfl hN0 ?_)|(show LdN _ _ _ _ _;first|refine LdN.tl (A:=[]) (F:=F) rfl ?_|(refine LdN.of [.int .i64 1,.int .i64 t.pos] rfl (fun i hi=>(by rw[bB];match i,hi with|0,_=>exact v0 [] _|1,_=>exact v1 [] _)) ?_))|(show Sto _ _ _ _;refine Sto.tl (A:=[]) (X:=F) rfl rfl ?_)|((first|apply oI.z|apply cI.z))|(apply aB<;>intro _<;>try (exfalso;omega)))<;>conv=>whnf)
   rw[hq];exact RN.a rfl
  | nil=>
   rw[hA] at gz hfl;obtain⟨az,cap,rfl⟩:=gz.zeroLen;obtain⟨aC,capC,rfl⟩:=g.lenV;have hP:∀(A X:Own) (o:Nat × Obj),Has hx (A++(X++(o::Pst bp s i e (.slice aC cs.length capC)::G))) ⟨bp,3,none⟩ (.slice aC cs.length capC):=fun A X o=>⟨rfl,[s.val,.int .i64 i,.int .i64 e,.slice aC cs.length capC].toArray,Ty.syntax_Parser,(0,0),.inr (by unfold Pst;simp),rfl⟩
   conv=>whnf
   repeat' ((first|(show Ld _ _ _ _;refine Ld.of (hP [] F _) ?_)|((first|apply oI.z|apply cI.z))|(apply aB<;>intro _<;>try (exfalso;omega)))<;>conv=>whnf)
   refine LpN.of (fun r ρ hy L=>∃(m:Nat) (X:Own),r=cs.length-m/\hy=hx/\m<=cs.length/\rd ρ 67=.int .i64 m/\L=X++((b2,.cells [.int .i64 0,.int .i64 0].toArray Ty.syntax_Fault (0,0))::(Pst bp s i e (.slice aC cs.length capC)::G))/\Hq (∀u∈cs.take m,¬tF u)) cs.length
    ⟨0,F,rfl,rfl,bDw _,rfl,rfl,⟨by simp⟩⟩ ?_
   conv=>whnf
   repeat intro _
   rename_i r hy L3 hJ;obtain⟨m,X,rfl,rfl,hm,e67,rfl,hc⟩:=hJ;conv at e67=>lhs;whnf
   subst e67;by_cases hmc:m=cs.length
   .subst hmc;rw[bDm] at hc;rw[k5 hn hA hc.out];conv=>whnf
    repeat' ((first|(show Sto _ _ _ _;refine Sto.tl (A:=[]) (X:=X) rfl rfl ?_)|(show LdN _ _ _ _ _;refine LdN.tl (A:=[]) (F:=X) rfl ?_)|((first|apply oI.z|apply cI.z))|(apply aB<;>intro _<;>try (exfalso;omega)))<;>conv=>whnf)
    exact RN.a rfl
   .obtain⟨c,hcm⟩:∃c,cs[m]?=some c:=⟨_,bC8 Aa⟩
    obtain⟨bC,capC',cC,eC,hmC,hgC⟩:=g.block Aa;cases eC;have hcg:∀q,q<4->cC[m*4+q]?=(cnv c)[q]?:=fun q hq=>by
     rw[hgC (m*4+q) _ (by rw[aVr hcm q hq];exact bC8 (by simpa[cnv] using hq))]
     exact (bC8 (by simpa[cnv] using hq)).symm
    have hH:∀(A X:Own) (o:Nat × Obj) (q:Nat) (hq:q<4),Has hy (A++(X++(o::Pst bp s i e (.slice (some ⟨bC,0,none⟩) cs.length capC)::G))) ⟨bC,0+m*4+q,none⟩ ((cnv c).getD q undef):=fun A X o q hq=>⟨rfl,cC,_,(0,0),.inr (by simp;exact .inr (.inr (.inr (.inr hmC)))),by
      rw[show 0+m*4+q=m*4+q by omega,hcg q hq,bC7,bC8 (by simpa[cnv] using hq)];rfl⟩
    have kk:=k4 hn hA m c hcm;have kc:tF c↔c.n<c.low\/c.high<c.n:=Iff.rfl;have kt:¬tF c->∀u∈cs.take (m+1),¬tF u:=fun x u hu=>by
     rw[bD hcm] at hu;rcases bDf.1 hu with hu|hu
     .exact hc.out u hu
     .obtain rfl:u=c:=by simpa using hu
      exact x
    replace kk:=fun x=>kk x hc.out
    clear hc k1 k2 k3 k4 k5 hgC hcg;obtain⟨cp,cl,ch,cn⟩:=c;simp only at kk kc;replace hH:∀(A X:Own) (o:Nat × Obj) (q:Nat) (hq:q<4),Has hy (A++(X++(o::Pst bp s i e (.slice (some ⟨bC,0,none⟩) cs.length capC)::G))) ⟨bC,0+m*4+q,none⟩ ([.int .i64 cp,.int .i64 cl,.int .i64 ch,.int .i64 cn].getD q undef):=hH
    conv=>whnf
    repeat' ((first|(show Idx _ _ _ _ _;refine Idx.of m rfl rfl Aa ?_)|(show LdN _ _ _ _ _;first|refine LdN.tl (A:=[_]) (F:=X) rfl ?_|(refine LdN.of [.int .i64 cp,.int .i64 cl,.int .i64 ch,.int .i64 cn] rfl (fun q hq=>(by rw[bB];exact hH [] X _ q hq)) ?_))|(show Sto _ _ _ _;first|refine Sto.tl (A:=[_]) (X:=X) rfl rfl ?_|refine Sto.l 0 rfl rfl rfl ?_)|((first|apply oI.z|apply cI.z))|intro (_:Nat)|refine WN.i64 Aa Aa ?_|refine Ld.o 0 rfl rfl ?_|(apply aB<;>intro _<;>try (exfalso;omega)))<;>conv=>whnf)
    .rw[kk (kc.2 (.inl Aa))];exact RN.a rfl
    .rw[kk (kc.2 (.inr Aa))];exact RN.a rfl
    .exact⟨rfl,cs.length-(m+1),Aa,m+1,_::X,rfl,rfl,Aa,vi Aa,rfl,⟨kt fun x=>by have:=kc.1 x;omega⟩⟩
 .obtain⟨t,ht⟩:∃t,ts[j]?=some t:=⟨_,bC8 Aa⟩
  have ht8:=w.lt t (bDc ht);have hps:=w.ps t (bDc ht);have htk:=bD ht;have q1:gV t->Q=(10,t.pos):=fun x=>k1 j t ht x hn.out
  have q2:¬gV t->∀u∈ts.take (j+1),¬gV u:=fun x u hu=>by
   rw[htk] at hu;rcases bDf.1 hu with hu|hu
   .exact hn.out u hu
   .obtain rfl:u=t:=by simpa using hu
    exact x
  have q3:¬fJ t->(ts.take (j+1)).filter (fun t=>decide (fJ t))=(ts.take j).filter (fun t=>decide (fJ t)):=fun x=>by
   rw[htk,bF6];simp[x]
  have q4:fJ t->(ts.take (j+1)).filter (fun t=>decide (fJ t))=(ts.take j).filter (fun t=>decide (fJ t))++[t]:=fun x=>by
   rw[htk,bF6];simp[x]
  obtain⟨A,hA⟩:=AB ((ts.take j).filter (fun t=>decide (fJ t)))
  obtain⟨B,hB⟩:=AB ((ts.take (j+1)).filter (fun t=>decide (fJ t)))
  rw[<-hA] at q3 q4 gz hfl;rw[<-hB] at q3 q4;have hn2:=hn.out;have goN:∀F' vz',¬gV t->B.length<=j+1->aE Ty.syntax_Fault 2 vz' B.length (fzc B) F'->((ts.take (j+1)).filter (fun t=>decide (fJ t))).length<=j+1/\aE Ty.syntax_Fault 2 vz' ((ts.take (j+1)).filter (fun t=>decide (fJ t))).length (fzc ((ts.take (j+1)).filter (fun t=>decide (fJ t)))) F'/\Hq (∀u∈ts.take (j+1),¬gV u):=fun F' vz' x y z=>by
   rw[<-hB];exact⟨y,z,⟨q2 x⟩⟩
  clear k1 k2 k3 k4 k5 hn hn2 q2;have b1:t.kind≠1->¬gV t/\¬fJ t:=fun x=>⟨fun y=>x y.1,fun y=>x y.1⟩
  have b2':t.kind=1->nP t.text->gV t:=fun x y=>⟨x,y⟩
  have b3:¬nP t.text->¬gV t:=fun x y=>x y.2
  have b4:t.kind=1->(parseL t.text).2≠0->fJ t:=fun x y=>⟨x,y⟩
  have b5:(parseL t.text).2=0->¬fJ t:=fun x y=>y.2 x
  have b6:cD t.text<t.text.length->(nP t.text↔∀c∈t.text.drop (cD t.text+1),c=48):=fun x=>⟨fun y=>y.2,fun y=>⟨x,y⟩⟩
  have b7:¬cD t.text<t.text.length->¬nP t.text:=fun x y=>x y.1
  obtain⟨bd1,hbd1⟩:=AB (gV t);obtain⟨bd2,hbd2⟩:=AB (fJ t);obtain⟨ng,hng⟩:=AB (nP t.text);rw[<-hbd1] at q1 goN b1 b2' b3;rw[<-hbd2] at q3 q4 b1 b4 b5;rw[<-hng] at b2' b3 b6 b7;clear hbd1 hbd2 hng hA hB htk;obtain⟨K,hK⟩:=AB t.kind;obtain⟨tx,htx⟩:=AB t.text;obtain⟨tp,htp⟩:=AB t.pos;have hT:∀{i:Int} {k:Addr->Prop},i=j->(∀b off,(∀L,Has hx L ⟨b,off,none⟩ (.int .i64 K))->(∀L,Has hx L ⟨b,off+1,none⟩ (.string (txt tx)))->(∀L,Has hx L ⟨b,off+2,none⟩ (.int .i64 tp))->k ⟨b,off,none⟩)->Idx s.a i s.l 3 k:=fun {i k} a f=>Idx.tok hwh j t a ht fun b off v0 v1 v2=>f b off (by rw[hK];exact v0) (by rw[htx];exact v1) (by rw[htp];exact v2)
  rw[<-htp] at q1 hps;rw[<-hK] at b1 b2' b4 hps;rw[<-htx] at b4 b5 b6 b7 ht8 hps;have c1:=fun h=>aY3 h tx ht8 hps.2.2
  have c3:=fun h tb=>aF3 h tb tx ht8
  obtain⟨pq,hpq⟩:=AB (parseL tx);rw[<-hpq] at b4 b5 c3;have fzc_append:∀a b:List Tk,fzc (a++b)=fzc a++fzc b:=fun a b=>by unfold fzc;simp
  have hfz:fzc [t]=[.int .i64 1,.int .i64 tp]:=by rw[htp];rfl
  by_cases hs:cD tx<tx.length
  .unfold aI4 at c1;rw[if_pos hs] at c1;replace b6:=b6 hs;have c2:=fun h=>aVp h (tx.drop (cD tx+1)) (fun y hy=>ht8 y (bE2 hy)) (by rw[bD3];omega)
   conv=>whnf
   repeat' first|((first|(apply aQ.go)|refine hT Aa (fun tb to v0 v1 v2=>?_)|((first|apply oI.z|apply cI.z))|intro (_:Nat)|(show LdN _ _ _ _ _;first|refine LdN.hs3 (v0 _) (v1 _) (v2 _) ?_|refine LdN.tl (A:=[_]) (F:=F) rfl ?_)|(show CN _ _ _ _ _ _;first|refine CN.quiet rfl (c1 _) ?_|(refine CN.f rfl (c2 _) (fun v h' hl2 hr=>?_);obtain⟨rfl,m,rfl,hm,hmb⟩:=hr;clear hl2)|(refine CN.f rfl (c3 _ tbh) (fun v h' hl2 hr=>?_);obtain⟨ra,rb,rfl,hres⟩:=hr))|(show Sto _ _ _ _;first|refine Sto.tl (A:=[_]) (X:=F) rfl rfl ?_|refine Sto.l 0 rfl rfl rfl ?_)|(show App _ _ _ _ _ _ _ _ _;refine App.growA (A:=[_,_,_]) (F:=F) (size:=2) (bytes:=16) (z:=[.int .i64 0,.int .i64 0]) rfl rfl gz ⟨_,0,none⟩ 1 1 [_,_] rfl (Has.front _) rfl Ad Aa Aa Ad (fun v' F' g' hsub=>?_))|refine WN.i64 Aa Aa ?_|(show Ld _ _ _ _;first|refine Ld.o 0 rfl rfl ?_|refine Ld.o 1 rfl rfl ?_))<;>conv=>whnf)|(show cnd _ _ _;first|(refine iO _ rfl rfl (fun hx=>?_) (fun hx=>?_)<;>(conv=>whnf))|((first|apply aB|apply aD)<;>intro _<;>first|(exfalso;omega)|conv=>whnf)|(refine aJ ?_))
   .rw[q1 (b2' Aa (b6.2 (hm.1 Ab)))];exact RN.a rfl
   .have x1:=b3 fun x=>absurd (hm.2 (b6.1 x)) Ab
    have x2:=b5 Aa;have hlx:=aA.lt hle hl2;exact⟨rfl,ts.length-(j+1),Aa,j+1,_::_::F,_,rfl,hlx,Aa,vi Aa,rfl,rfl,goN _ _ x1 (by rw[q3 x2];omega) (by rw[q3 x2];exact (gz.cons _).cons _)⟩
   .have x1:=b3 fun x=>absurd (hm.2 (b6.1 x)) Ab
    have x2:=b4 Aa Aa;have hlx:=aA.lt hle hl2;exact⟨rfl,ts.length-(j+1),Aa,j+1,F',_,rfl,hlx,Aa,vi Aa,rfl,rfl,goN _ _ x1 (by rw[q4 x2,bC6,bD4];omega) (by rw[q4 x2,bC6,bD4,fzc_append,hfz];exact g')⟩
   .obtain⟨x1,x2⟩:=b1 Aa;exact⟨rfl,ts.length-(j+1),Aa,j+1,_::F,_,rfl,hle,Aa,vi Aa,rfl,rfl,goN _ _ x1 (by rw[q3 x2];omega) (by rw[q3 x2];exact gz.cons _)⟩
  .unfold aI4 at c1;rw[if_neg hs] at c1;have b7:=b3 (b7 hs);conv=>whnf
   repeat' first|((first|(apply aQ.go)|refine hT Aa (fun tb to v0 v1 v2=>?_)|((first|apply oI.z|apply cI.z))|intro (_:Nat)|(show LdN _ _ _ _ _;refine LdN.hs3 (v0 _) (v1 _) (v2 _) ?_)|(show CN _ _ _ _ _ _;first|refine CN.quiet rfl (c1 _) ?_|(refine CN.f rfl (c3 _ tbh) (fun v h' hl2 hr=>?_);obtain⟨ra,rb,rfl,hres⟩:=hr))|(show App _ _ _ _ _ _ _ _ _;refine App.growA (A:=[_,_,_]) (F:=F) (size:=2) (bytes:=16) (z:=[.int .i64 0,.int .i64 0]) rfl rfl gz ⟨_,0,none⟩ 1 1 [_,_] rfl (Has.front _) rfl Ad Aa Aa Ad (fun v' F' g' hsub=>?_))|refine WN.i64 Aa Aa ?_|(show Ld _ _ _ _;first|refine Ld.o 0 rfl rfl ?_|refine Ld.o 1 rfl rfl ?_)|refine Sto.l 0 rfl rfl rfl ?_)<;>conv=>whnf)|(show cnd _ _ _;first|((first|apply aB|apply aD)<;>intro _<;>first|(exfalso;omega)|conv=>whnf)|(refine aJ ?_))
   .have x2:=b5 Aa;have hlx:=aA.lt hle hl2;exact⟨rfl,ts.length-(j+1),Aa,j+1,_::_::F,_,rfl,hlx,Aa,vi Aa,rfl,rfl,goN _ _ b7 (by rw[q3 x2];omega) (by rw[q3 x2];exact (gz.cons _).cons _)⟩
   .have x2:=b4 Aa Aa;have hlx:=aA.lt hle hl2;exact⟨rfl,ts.length-(j+1),Aa,j+1,F',_,rfl,hlx,Aa,vi Aa,rfl,rfl,goN _ _ b7 (by rw[q4 x2,bC6,bD4];omega) (by rw[q4 x2,bC6,bD4,fzc_append,hfz];exact g')⟩
   .obtain⟨x1,x2⟩:=b1 Aa;exact⟨rfl,ts.length-(j+1),Aa,j+1,_::F,_,rfl,hle,Aa,vi Aa,rfl,rfl,goN _ _ x1 (by rw[q3 x2];omega) (by rw[q3 x2];exact gz.cons _)⟩
end Go.Proofs.Y