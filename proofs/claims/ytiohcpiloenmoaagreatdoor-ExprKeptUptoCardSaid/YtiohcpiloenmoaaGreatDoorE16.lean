/- A text cut at its first slash; a text of zeros alone. -/
import Derived.Test.YtiohcpiloenmoaaGreatDoorE14
import Derived.Lib.Strings
import Derived.Lib.Slices
import Derived.Lib.Walk
import Derived.Lib.Bytealg
set_option linter.all false
set_option maxHeartbeats 2000000
set_option maxRecDepth 100000
namespace Go.Dig
def dJ:List Nat->Nat
 | []=>0
 | c::l=>if c=47 then 0 else dJ l+1
def pL(l:List Nat):Prop:=dJ l<l.length/\∀c∈l.drop (dJ l+1),c=48
instance (l:List Nat):Decidable (pL l):=by unfold pL;exact inferInstance
end Go.Dig
namespace Go.Vc
open Go Go.Dig
theorem aD4:∀l:List Nat,(∀y∈l,y<256)->Lib.indexByte (txt l).data.toList 47=if dJ l<l.length then (dJ l:Int) else -1:=by
 have key:∀l:List Nat,(∀y∈l,y<256)->Lib.indexByte (l.map UInt8.ofNat) 47=if dJ l<l.length then (dJ l:Int) else -1:=by
  intro l
  induction l with
  | nil=>intro _;rfl
  | cons c l ih=>
   intro hb;have h1:=ih fun y hy=>hb y (aZd _ hy)
   have hc:=hb c aZa;have e:(UInt8.ofNat c == 47)=decide (c=47):=by
    by_cases h:c=47
    .subst h;rfl
    .rw[decide_eq_false h];have:UInt8.ofNat c≠47:=fun x=>h (by
       have:=congrArg UInt8.toNat x;rw[UInt8.toNat_ofNat',bAm hc] at this;exact this)
     simpa using this
   simp only[bAa,Lib.indexByte];have hs:dJ (c::l)=if c=47 then 0 else dJ l+1:=rfl
   rw[e,h1,hs,aY6];clear e h1 ih hs;by_cases hx:c=47
   .rw[decide_eq_true hx,if_pos rfl,if_pos hx,if_pos Aa];rfl
   .rw[decide_eq_false hx,if_neg hx,if_neg (show ¬(false=true) by decide)]
    obtain⟨k,hk⟩:=AE (dJ l);rw[<-hk];by_cases hl:k<l.length
    .have:((k:Int) == -1)=false:=by simp
     rw[if_pos hl,this,if_neg (show ¬(false=true) by decide),if_pos Aa]
     simp
    .rw[if_neg hl,if_neg (show ¬k+1<l.length+1 by omega)]
     rfl
 intro l hb;have:=key l hb;unfold txt
 simpa using this
theorem Fn0.ofCalls{T:Tab}{f:FuncId}{args:List Value}{h:aA}{v:Value}(hc:∀w,Calls T.prog f args.toArray w fun e w'=>e=.returned v/\w'=w):Fn0 T f args h fun v' h'=>h'=h/\v'=v:=by
 refine Fn0.make fun w s=>(hc w).mono fun e w' he=>?_
 obtain⟨rfl,rfl⟩:=he;exact⟨h,[],Inv.init s,rfl,rfl,rfl⟩
end Go.Vc
namespace Go.Proofs.Y
open Go Go.Vc Go.Dig
theorem aD5(s:ByteArray)(c:Int)(w:World):
  Calls Tryz.prog 232 #[.string s,.int .u8 c] w fun e w'=>e=.returned (.int .i64 (Lib.indexByte s.data.toList c.toNat.toUInt8))/\w'=w:=by
 go_enter Tryz.func232,Tryz.ntmps232
 go_wp2
 rw[run_callFunc_extern Tryz.func252 (by kernel_rfl) (by kernel_rfl) (by kernel_rfl) (e:=Extern.BytealgIndexByte.indexByte) (by kernel_rfl),Lib.run_indexByteString];simp only[Result.andThen];rw[Oper.upon_value]
 go_wp2
 go_ret
 exact⟨rfl,rfl⟩
theorem aB0(h:aA)(l:List Nat)(hb:∀y∈l,y<256):Fn0 T F.q232 [.string (txt l),.int .u8 47] h fun v h'=>h'=h/\v=.int .i64 (if dJ l<l.length then (dJ l:Int) else -1):=by
 rw[<-aD4 l hb];exact Fn0.ofCalls fun w=>aD5 (txt l) 47 w
theorem aNv(h:aA)(l:List Nat)(hb:∀y∈l,y<256):Fn0 T F.q199 [.string (txt l),.string (txt [47])] h fun v h'=>h'=h/\v=.int .i64 (if dJ l<l.length then (dJ l:Int) else -1):=by
 obtain⟨V,hV⟩:=AE (if dJ l<l.length then (dJ l:Int) else -1)
 have c1:=fun h=>aB0 h l hb
 rw[<-hV] at c1 ⊢;have hz1:((txt [47]).size:Int)=1:=rfl;refine f0C ok D.q199 rfl ?_;conv=>whnf
 repeat' first|((first|(show eF _ _ _;refine eF.txt [47] rfl Ag 0 rfl Ag ?_)|(show CN _ _ _ _ _ _;refine CN.quiet rfl (c1 _) ?_)|((first|apply oI.z|apply cI.z)))<;>conv=>whnf)|(show cnd _ _ _;first|(refine jV Ag hb (fun _=>?_) (fun _=>?_)<;>(conv=>whnf))|(apply aD<;>intro _<;>first|(exfalso;omega)|conv=>whnf))
 all_goals first
  | exact RN.a ⟨rfl,rfl⟩
  | (rename_i hx;subst hx;rw[if_pos Ag] at hV;subst hV;exact RN.a ⟨rfl,rfl⟩)
def aGh(l:List Nat):Value:=if dJ l<l.length then .tuple #[.string (txt (l.take (dJ l))),.string (txt (l.drop (dJ l+1))),.bool true] else .tuple #[.string (txt l),.string (txt []),.bool false]
theorem aVf(h:aA)(l:List Nat)(hb:∀y∈l,y<256)(hl:l.length<=1000000):Fn0 T F.q95 [.string (txt l),.string (txt [47])] h fun v h'=>h'=h/\v=aGh l:=by
 have hz1:((txt [47]).size:Int)=1:=rfl;have hz:=bF l;have c0:=fun h=>aNv h l hb
 have c1:∀h,Fn0 T F.q154 [.string (txt l),.string (txt [47])] h fun v h'=>h'=h/\v=aGh l:=fun h=>by
  obtain⟨k,hk⟩:=AE (dJ l);unfold aGh;rw[<-hk] at c0 ⊢;by_cases hs:k<l.length
  .rw[if_pos hs] at c0 ⊢;refine f0C ok D.q154 rfl ?_;conv=>whnf
   repeat' ((first|(show CN _ _ _ _ _ _;refine CN.quiet rfl (c0 _) ?_)|(show Cut _ _ _ _;first|(refine Cut.txt l 0 k Aa Aa rfl Aa Aa ?_;rw[eY,bA2])|(refine Cut.txt l (k+1) l.length Aa Aa rfl Aa Aa ?_;rw[eY,aZi]))|((first|apply oI.z|apply cI.z))|refine WN.i64 Aa Aa ?_|refine DrN.run Al ?_|(apply bH<;>intro _<;>try (exfalso;omega)))<;>conv=>whnf)
   all_goals exact RN.a ⟨rfl,rfl⟩
  .rw[if_neg hs] at c0 ⊢;refine f0C ok D.q154 rfl ?_;conv=>whnf
   repeat' ((first|(show CN _ _ _ _ _ _;refine CN.quiet rfl (c0 _) ?_)|((first|apply oI.z|apply cI.z))|(apply bH<;>intro _<;>try (exfalso;omega)))<;>conv=>whnf)
   all_goals exact RN.a ⟨rfl,rfl⟩
 by_cases hs:dJ l<l.length
 .unfold aGh at c1 ⊢;rw[if_pos hs] at c1 ⊢;refine f0C ok D.q95 rfl ?_;conv=>whnf
  repeat' ((first|(show CN _ _ _ _ _ _;refine CN.quiet rfl (c1 _) ?_)|((first|apply oI.z|apply cI.z)))<;>conv=>whnf)
  exact RN.a ⟨rfl,rfl⟩
 .unfold aGh at c1 ⊢;rw[if_neg hs] at c1 ⊢;refine f0C ok D.q95 rfl ?_;conv=>whnf
  repeat' ((first|(show CN _ _ _ _ _ _;refine CN.quiet rfl (c1 _) ?_)|((first|apply oI.z|apply cI.z)))<;>conv=>whnf)
  exact RN.a ⟨rfl,rfl⟩
theorem aNw(h:aA)(l:List Nat)(hb:∀y∈l,y<256)(hl:l.length<=1000000):Fn0 T F.q156 [.string (txt l),.int .u8 48] h fun v h'=>h'=h/\∃k,k<=l.length/\v=.string (txt (l.take k))/\(∀i,k<=i->i<l.length->l.getD i 0=48)/\(k≠0->l.getD (k-1) 0≠48):=by
 refine f0C ok D.q156 rfl ?_;conv=>whnf
 repeat ((first|apply oI.z|apply cI.z);conv=>whnf)
 skip
 refine LpN.of (fun r ρ h' L=>r<=l.length/\h'=h/\rd ρ 0=.string (txt (l.take r))/\Hq (∀i,r<=i->i<l.length->l.getD i 0=48)) l.length ⟨aZt _,rfl,by rw[aZi];rfl,⟨fun i h1 h2=>by omega⟩⟩ ?_
 conv=>whnf
 repeat intro _
 rename_i r h1 L1 hI;obtain⟨hr,rfl,e0,hq⟩:=hI;conv at e0=>lhs;whnf
 subst e0;have hz:(txt (l.take r)).size=r:=by rw[bF,aZn,bAz hr]
 have hb2:∀y∈l.take r,y<256:=fun y hy=>hb y (aZ9 hy)
 have hlen:(l.take r).length=r:=by rw[aZn,bAz hr]
 have hX:(l.take r).getD (r-1) 0=l.getD (r-1) 0\/r=0:=by
  by_cases h0:r=0
  .exact .inr h0
  .left
   simp only[aY3,bA5];rw[if_pos Aa]
 have hcut:((l.take r).take (r-1)).drop 0=l.take (r-1):=by rw[bA2,List.take_take,bAz Aa]
 have q1:l.getD (r-1) 0=48->∀i,r-1<=i->i<l.length->l.getD i 0=48:=fun x i h1 h2=>by
  by_cases e:i=r-1
  .rw[e];exact x
  .exact hq.out i Aa h2
 obtain⟨X,hXd⟩:=AE ((l.take r).getD (r-1) 0);obtain⟨Y,hYd⟩:=AE (l.getD (r-1) 0);rw[<-hXd,<-hYd] at hX;rw[<-hYd] at q1;replace q1:=Hq.mk q1;conv=>whnf
 repeat' first|((first|(show eF _ _ _;(refine eF.txt (l.take r) rfl hb2 (r-1) Aa Aa ?_;rw[<-hXd]))|(show Cut _ _ _ _;(refine Cut.txt (l.take r) 0 (r-1) Aa Aa rfl Aa Aa ?_;rw[eY,hcut]))|((first|apply oI.z|apply cI.z))|refine WN.i64 Aa Aa ?_)<;>conv=>whnf)|(show cnd _ _ _;first|((first|apply aB|apply aD)<;>intro _<;>first|(exfalso;omega)|conv=>whnf))
 all_goals first
  | exact⟨rfl,r-1,Aa,Aa,rfl,rfl,⟨q1.out Aa⟩⟩
  | exact RN.a ⟨rfl,r,hr,rfl,hq.out,fun x=>by rw[<-hYd];omega⟩
theorem aNx(h:aA)(l:List Nat)(hb:∀y∈l,y<256)(hl:l.length<=1000000):Fn0 T F.q155 [.string (txt l),.int .u8 48] h fun v h'=>h'=h/\∃k,k<=l.length/\v=.string (txt (l.drop k))/\(∀i,i<k->l.getD i 0=48)/\(k<l.length->l.getD k 0≠48):=by
 refine f0C ok D.q155 rfl ?_;conv=>whnf
 repeat ((first|apply oI.z|apply cI.z);conv=>whnf)
 skip
 refine LpN.of (fun r ρ h' L=>∃k,k<=l.length/\r=l.length-k/\h'=h/\rd ρ 0=.string (txt (l.drop k))/\Hq (∀i,i<k->l.getD i 0=48)) l.length ⟨0,aZs _,rfl,rfl,by rw[bA2];rfl,⟨fun i h1=>by omega⟩⟩ ?_
 conv=>whnf
 repeat intro _
 rename_i r h1 L1 hI;obtain⟨k,hk,rfl,rfl,e0,hq⟩:=hI;conv at e0=>lhs;whnf
 subst e0;have hz:(txt (l.drop k)).size=l.length-k:=by rw[bF,aZz]
 have hb2:∀y∈l.drop k,y<256:=fun y hy=>hb y (bA0 hy)
 have hlen:(l.drop k).length=l.length-k:=aZz;have hX:(l.drop k).getD 0 0=l.getD k 0:=by simp[aY3]
 have hcut:((l.drop k).take (l.length-k)).drop 1=l.drop (k+1):=by rw[<-hlen,aZi,List.drop_drop]
 have q1:l.getD k 0=48->∀i,i<k+1->l.getD i 0=48:=fun x i h1=>by
  by_cases e:i=k
  .rw[e];exact x
  .exact hq.out i Aa
 obtain⟨X,hXd⟩:=AE (l.getD k 0);rw[<-hXd] at hX q1;replace q1:=Hq.mk q1;conv=>whnf
 repeat' first|((first|(show eF _ _ _;(refine eF.txt (l.drop k) rfl hb2 0 Aa Aa ?_;rw[hX]))|(show Cut _ _ _ _;(refine Cut.txt (l.drop k) 1 (l.length-k) Aa Aa rfl Aa Aa ?_;rw[eY,hcut]))|((first|apply oI.z|apply cI.z)))<;>conv=>whnf)|(show cnd _ _ _;first|((first|apply aB|apply aD)<;>intro _<;>first|(exfalso;omega)|conv=>whnf))
 all_goals first
  | exact⟨rfl,l.length-(k+1),Aa,k+1,Aa,rfl,rfl,rfl,⟨q1.out Aa⟩⟩
  | exact RN.a ⟨rfl,k,hk,rfl,hq.out,fun x=>by rw[<-hXd];omega⟩
theorem aR8(h:aA)(l:List Nat)(hb:∀y∈l,y<256)(hl:l.length<=1000000):Fn0 T F.q96 [.string (txt l),.string (txt [48])] h fun v h'=>h'=h/\∃m,v=.string (txt m)/\(m=[]↔∀c∈l,c=48)/\∀y∈m,y<256:=by
 have mem:∀{l:List Nat},(∀i,i<l.length->l.getD i 0=48)->∀c∈l,c=48:=fun {l} x c hc=>by
  obtain⟨i,hi,rfl⟩:=bBe hc;have:=x i hi
  simpa[aY3,hi] using this
 have g48:[48].getD 0 0=48:=rfl;have s48:((txt [48]).size:Int)=1:=rfl;refine f0C ok D.q96 rfl ?_;conv=>whnf
 repeat' first|((first|(show eF _ _ _;refine eF.txt [48] rfl Ag 0 rfl Ag ?_)|(show CN _ _ _ _ _ _;first|(refine CN.f rfl (aNw _ l hb hl) (fun v h' hl2 hr=>?_);obtain⟨rfl,k,hk,rfl,a1,a2⟩:=hr;clear hl2)|(refine CN.f rfl (aNx _ (l.take _) (fun y hy=>hb y (aZ9 hy)) (by rw[aZn];omega)) (fun v h' hl2 hr=>?_);obtain⟨rfl,j,hj,rfl,b1,b2⟩:=hr;clear hl2))|((first|apply oI.z|apply cI.z))|refine⟨fun _=>aF.o (aA.lr _),?_⟩|refine DrN.run Al ?_)<;>conv=>whnf)|(show cnd _ _ _;first|(refine iK [48] rfl rfl (fun hx=>absurd hx Ag) (fun _=>?_);conv=>whnf)|(refine iK l rfl rfl (fun hx=>?_) (fun hx=>?_)<;>(conv=>whnf))|((first|apply aB|apply aD)<;>intro _<;>first|(exfalso;omega)|conv=>whnf))
 .subst hx;exact RN.a ⟨rfl,[],rfl,by simp,by simp⟩
 .refine RN.a ⟨rfl,_,rfl,⟨fun x=>?_,fun x=>?_⟩,fun y hy=>hb y (aZ9 (bA0 hy))⟩
  .refine mem fun i hi=>?_
   by_cases hik:k<=i
   .exact a1 i hik hi
   .have hjk:j=(l.take k).length:=by
     have:=congrArg List.length x;rw[aZz,aY9] at this;omega
    rw[aZn,bAz hk] at hjk;have:=b1 i Aa
    simpa[aY3,bA5,show i<k by omega] using this
  .have hk0:k=0:=by
    by_cases h0:k=0
    .exact h0
    .refine absurd ?_ (a2 h0);rw[aY3,aY4 Aa];exact x _ (bBb _)
   subst hk0;simp
end Go.Proofs.Y
/- Valid trees: plain; the program's count. -/
namespace Go.Dig
mutual
def szT:Tr->Nat
 | .mk _ _ _ _ _ _ ks=>1+dA ks
def dA:List Tr->Nat
 | []=>0
 | t::ts=>szT t+dA ts
end
def aV(op:Int):Int:=
 if op=1\/op=2\/op=3 then 0 else if op=4\/op=9\/op=10\/op=11\/op=12 then 1 else if op=5\/op=6\/op=7\/op=8\/op=13\/op=14 then 2 else if op=15 then 3 else -1
def jO(op:Int):Int:=if op=9 then -32 else if op=10 then 2 else if op=11 then 1 else 0
def fJ(op:Int):Int:=if op=9 then 32 else if op=10 then 8 else if op=11 then 8 else 0
end Go.Dig
namespace Go.Proofs.Y
open Go Go.Vc Go.Dig
def aGi(neg:Bool)(l m:List Nat):Prop:=okR neg l m/\0<=aK neg l m
instance (neg:Bool) (l m:List Nat):Decidable (aGi neg l m):=by unfold aGi;exact inferInstance
def dW(op arg:Int)(neg:Bool)(l m name:List Nat)(n:Nat):Prop:=
 (n:Int)=aV op/\jO op<=arg/\arg<=fJ op/\(if op=2 then dH name else name=[])/\(if op=1 then aGi neg l m else evl 4294967296 l=0)
instance (op arg:Int) (neg:Bool) (l m name:List Nat) (n:Nat):Decidable (dW op arg neg l m name n):=by unfold dW;exact inferInstance
mutual
def okT:Nat->Tr->Prop
 | d,.mk op arg neg l m name ks=>d<=30/\dW op arg neg l m name ks.length/\bZ (d+1) ks
def bZ:Nat->List Tr->Prop
 | _,[]=>True
 | d,t::ts=>okT d t/\bZ d ts
end
mutual
def aNy:(d:Nat)->(t:Tr)->Decidable (okT d t)
 | d,.mk op arg neg l m name ks=>by
  rw[okT];have:=aB1 (d+1) ks;exact inferInstance
def aB1:(d:Nat)->(ts:List Tr)->Decidable (bZ d ts)
 | _,[]=>by rw[bZ];exact inferInstance
 | d,t::ts=>by
  rw[bZ];have:=aNy d t;have:=aB1 d ts;exact inferInstance
end
instance (d:Nat) (t:Tr):Decidable (okT d t):=aNy d t
instance (d:Nat) (ts:List Tr):Decidable (bZ d ts):=aB1 d ts
def aS(t:Tr):Prop:=okT 1 t/\szT t<=300
instance (t:Tr):Decidable (aS t):=by unfold aS;exact inferInstance
theorem sI:∀t:Tr,0<szT t
 | .mk _ _ _ _ _ _ ks=>by rw[szT];omega
theorem nA:∀{ts:List Tr} {t:Tr},t∈ts->szT t<=dA ts
 | t::ts,u,h=>by
  rw[dA];rcases aZl.1 h with rfl|h
  .omega
  .have:=nA h;omega
theorem iP:∀(a b:List Tr),dA (a++b)=dA a+dA b
 | [],b=>by rw[bAi,dA,aZq]
 | t::a,b=>by rw[bAk,dA,dA,iP a b];omega
theorem kE{d:Nat}:∀{a b:List Tr},bZ d (a++b)↔bZ d a/\bZ d b
 | [],b=>by rw[bAi,bZ];simp
 | t::a,b=>by rw[bAk,bZ,bZ,kE (a:=a)];exact and_assoc.symm
theorem bB{α:Type}{l:List α}{j:Nat}{t:α}(h:l[j]?=some t):l.take (j+1)=l.take j++[t]:=by
 rw[bDb,h];rfl
theorem kU{α:Type}{l:List α}{j:Nat}{t:α}(h:l[j]?=some t):l=l.take j++t::l.drop (j+1):=by
 obtain⟨hj,rfl⟩:=aY5.1 h;rw[List.getElem_cons_drop hj,aZk]
/-! a kid in memory -/
theorem fL.get{h:aA}{c:Array Value}:∀{ts:List Tr} {off j:Nat} {t:Tr},fL h c off ts->ts[j]?=some t->∃vs,vs.length=7/\(∀i,i<7->c[off+j*7+i]?=vs[i]?)/\IsE h vs t
 | [],off,j,t,_,e=>by simp at e
 | u::ts,off,0,t,w,e=>by
  rw[fL] at w;obtain⟨⟨vs,h1,h2,h3⟩,-⟩:=w;simp at e;subst e;exact⟨vs,h1,fun i hi=>by rw[bAs,bAg];exact h2 i hi,h3⟩
 | u::ts,off,j+1,t,w,e=>by
  rw[fL] at w;obtain⟨vs,h1,h2,h3⟩:=fL.get (j:=j) w.2 (by simpa using e);exact⟨vs,h1,fun i hi=>by rw[<-h2 i hi];congr 1;omega,h3⟩
theorem IsE.isK{h:aA}{op arg:Int}{neg:Bool}{l m name:List Nat}{ks:List Tr}{vs:List Value}(w:IsE h vs (.mk op arg neg l m name ks)):
  ∃a b s:Sl,vs=[.int .i64 op,.int .i64 arg,.bool neg,a.val,b.val,.string (txt name),s.val]/\(-9223372036854775808<=op/\op<=9223372036854775807)/\(-9223372036854775808<=arg/\arg<=9223372036854775807)/\aY h a b l m/\(∀y∈name,y<256)/\IsK h s ks:=by
 rw[IsE] at w;obtain⟨a,b,s,h1,h2,h3,h4,h5,h6,h7,h8⟩:=w;exact⟨a,b,s,h1,h2,h3,h4,h5,⟨h6,h7,h8⟩⟩
theorem Sl.val_inj{s t:Sl}(h:s.val=t.val):s=t:=by
 obtain⟨a,l,c⟩:=s;obtain⟨a',l',c'⟩:=t;unfold Sl.val at h
 injection h with h1 h2 h3
 subst h1 h2 h3;rfl
theorem IsE.inv{h:aA}{op ar:Int}{ng:Bool}{nn dd ss:Sl}{nm:List Nat}{op' arg':Int}{neg':Bool}{l m name:List Nat}{ks:List Tr}(w:IsE h [.int .i64 op,.int .i64 ar,.bool ng,nn.val,dd.val,.string (txt nm),ss.val] (.mk op' arg' neg' l m name ks)):
  op=op'/\ar=arg'/\ng=neg'/\aY h nn dd l m/\txt nm=txt name/\(∀y∈name,y<256)/\IsK h ss ks:=by
 obtain⟨a,b,s,e,-,-,hv,hb,hk⟩:=w.isK
 injection e with e1 e
 injection e with e2 e
 injection e with e3 e
 injection e with e4 e
 injection e with e5 e
 injection e with e6 e
 injection e with e7 e
 injection e1 with _ e1
 injection e2 with _ e2
 injection e3 with e3
 injection e6 with e6
 have e4:=Sl.val_inj e4;have e5:=Sl.val_inj e5;have e7:=Sl.val_inj e7;subst e4 e5 e7;exact⟨e1,e2,e3,hv,e6,hb,hk⟩
theorem LdN.of{h:aA}{L:Own}{a:Addr}{n:Nat}{k:Value->Prop}(vs:List Value)(hl:vs.length=n)(hv:∀i,i<n->Has h L (a.add i) (vs.getD i undef))(hk:k (.agg vs.toArray)):LdN h L a n k:=⟨⟨vs,hl,hv,hk⟩⟩
theorem Idx.kid{h:aA}{s:Sl}{ts:List Tr}(w:IsK h s ts){i:Int}{k:Addr->Prop}(j:Nat)(t:Tr)(hi:i=j)(ht:ts[j]?=some t)
  (hk:∀(ad:Addr) (op arg:Int) (neg:Bool) (a b:Sl) (name:List Nat) (s':Sl),IsE h [.int .i64 op,.int .i64 arg,.bool neg,a.val,b.val,.string (txt name),s'.val] t->
    (∀h' L (k':Value->Prop),h.le h'->k' (.agg #[.int .i64 op,.int .i64 arg,.bool neg,a.val,b.val,.string (txt name),s'.val])->LdN h' L ad 7 k')->k ad):Idx s.a i s.l 7 k:=by
 obtain⟨hj,-⟩:=aY5.1 ht;rcases w.mem with e|⟨bl,off,c,T,fz,e1,e2,e3⟩
 .subst e;simp at ht
 .obtain⟨vs,h1,h2,h3⟩:=fL.get e3 ht;obtain⟨op,arg,neg,l,m,name,ks⟩:=t;have h3':=h3;rw[IsE] at h3;obtain⟨a,b,s',rfl,-⟩:=h3;refine Idx.of j e1 hi (by rw[w.len];exact hj) (hk _ op arg neg a b name s' h3' fun h' L k' hl hk'=>?_)
  refine LdN.of [.int .i64 op,.int .i64 arg,.bool neg,a.val,b.val,.string (txt name),s'.val] rfl (fun i hi=>?_) hk'
  rw[aZ];refine Has.imm (hl _ _ e2) ?_;rw[h2 i hi]
  match i,hi with
  | 0,_=>rfl
  | 1,_=>rfl
  | 2,_=>rfl
  | 3,_=>rfl
  | 4,_=>rfl
  | 5,_=>rfl
  | 6,_=>rfl
end Go.Proofs.Y
/- A new parser; the function that Run is handed; the check of numbers and counts. -/
namespace Go.Vc
open Go
theorem CN.new{T:Tab}{f:FuncId}{args:List Value}{h:aA}{L:Own}{k:Value->aA->Own->Prop}{R:Value->aA->Own->Prop}(ok:T.fn f=true)(hf:Fn T f args h [] R)(hk:∀v h' La,h.le h'->R v h' La->k v h' (La++L)):CN T f args h L k:=
 .of ok (.done ⟨[],L,R,by simp,hf,fun v h' La hl r=>⟨La++L,.refl _,hk v h' La hl r⟩⟩)
theorem CN.all{T:Tab}{f:FuncId}{args:List Value}{h:aA}{A Lp:Own}{k:Value->aA->Own->Prop}{R:Value->aA->Own->Prop}(ok:T.fn f=true)(hf:Fn T f args h Lp R)
  (hk:∀v h' Lp',h.le h'->R v h' Lp'->k v h' (A++Lp')):CN T f args h (A++Lp) k:=
 .of ok (.done ⟨Lp,A,R,bBn,hf,fun v h' La hl r=>⟨A++La,bBn,hk v h' La hl r⟩⟩)
end Go.Vc
namespace Go.Dig
def iB(t:Tk):Prop:=t.kind=1/\pL t.text
instance (t:Tk):Decidable (iB t):=by unfold iB;exact inferInstance
end Go.Dig
namespace Go.Proofs.Y
open Go Go.Vc Go.Dig
theorem aVg(h:aA)(s:Sl)(e:Nat):Vc.Fn T F.q43 [s.val,.int .i64 e] h [] fun v h' L'=>h'=h/\∃bp,v=.pointer (some ⟨bp,0,none⟩)/\L'=[Pst bp s 0 e (.slice none 0 0)]:=by
 refine f1C ok D.q43 rfl ?_;conv=>whnf
 repeat' ((first|((first|apply oI.z|apply cI.z))|intro (_:Nat))<;>conv=>whnf)
 exact RN.done ⟨rfl,_,rfl,rfl⟩
def sJ(ts:List Tk):Pr Tr:=match tX ts prs with
 | .ok tr i cs=>if i<ts.length then .bad i else .ok tr i cs
 | .bad j=>.bad j
theorem aKa(ts:List Tk)(bp:Nat)(s:Sl)(e:Nat)(h:aA)(v:Value)(G:Own)(ec pc:Nat)(T1:TypeId)(tb:Tb h)(w:eH h s ts)(g:aE Ty.syntax_count 4 v 0 [] G):
  FnP T F.q45 [.pointer (some ⟨pc,0,none⟩),.pointer (some ⟨ec,0,none⟩)] h ((ec,.cells [.int .i64 0,.int .i64 0,.bool false,.slice none 0 0,.slice none 0 0,.string (txt []),.slice none 0 0].toArray Ty.api_Expr (0,0))::(pc,.cells [.pointer (some ⟨bp,0,none⟩)].toArray T1 (0,0))::Pst bp s 0 e v::G)
   (fun r h' L'=>∃(tr:Tr) (i':Nat) (cs':List Cn) (v':Value) (G':Own) (op ar:Int) (ng:Bool) (nn dd:Sl) (nm:List Nat) (ss:Sl),sJ ts=.ok tr i' cs'/\cs'.length<=ts.length/\L'=(ec,.cells [.int .i64 op,.int .i64 ar,.bool ng,nn.val,dd.val,.string (txt nm),ss.val].toArray Ty.api_Expr (0,0))::(pc,.cells [.pointer (some ⟨bp,0,none⟩)].toArray T1 (0,0))::Pst bp s i' e v'::G'/\aE Ty.syntax_count 4 v' cs'.length (cnc cs') G'/\IsE h' [.int .i64 op,.int .i64 ar,.bool ng,nn.val,dd.val,.string (txt nm),ss.val] tr)
   fun c _ _=>∃i:Nat,c=flt i/\∃j,sJ ts=.bad j/\i=jA ts e j:=by
 have c1:=fun h tb w=>aR7 ts bp s e h v G tb w g
 obtain⟨r0,hr0⟩:=AE (tX ts prs);rw[<-hr0] at c1;have t1:∀j,r0=.bad j->sJ ts=.bad j:=fun j x=>by unfold sJ;rw[<-hr0,x]
 have t2:∀tr i cs,r0=.ok tr i cs->i<ts.length->sJ ts=.bad i:=fun tr i cs x y=>by unfold sJ;rw[<-hr0,x];exact if_pos y
 have t3:∀tr i cs,r0=.ok tr i cs->ts.length<=i->sJ ts=.ok tr i cs:=fun tr i cs x y=>by unfold sJ;rw[<-hr0,x];exact if_neg Aa
 refine fPC ok _ D.q45 rfl ?_;conv=>whnf
 repeat' ((first|(show CN _ _ _ _ _ _;first|(refine CN.par (A:=[_,_]) rfl (FnP.withPan (c1 _ Ab Ab)) (fun v h' Lp hl hr=>?_) (fun c h' Lp hl hs=>?_);obtain⟨tr,i1,cs1,v1,G1,hp1,hi1,hc1,rfl,g1,hv1⟩:=hr;obtain⟨op,ar,ng,nn,dd,nm,ss,rfl,hE⟩:=hv1)|(refine CN.par2 (A:=[_,_]) (B:=G1) rfl (FnP.withPan (aNp _ _ _ ts i1 e v1 Ak)) (fun v h' Lp hl hr=>?_) (fun c h' Lp hl hs=>?_);obtain⟨rfl,hi2,rfl,rfl⟩:=hr;clear hl))|((first|apply oI.z|apply cI.z))|refine Ld.o 1 rfl rfl ?_|refine Sto.l 0 rfl rfl rfl ?_)<;>conv=>whnf)
 .exact RN.done ⟨tr,i1,cs1,v1,G1,op,ar,ng,nn,dd,nm,ss,t3 tr i1 cs1 hp1 hi2,aZr hc1 hi1,rfl,g1,hE⟩
 .obtain⟨hi2,rfl⟩:=hs;exact⟨jA ts e i1,rfl,i1,t2 tr i1 cs1 hp1 hi2,rfl⟩
 .obtain⟨j,hj,rfl⟩:=hs;exact⟨jA ts e j,rfl,j,t1 j hj,rfl⟩
def fO(t:Tk):Prop:=t.kind=1/\(parseL t.text).2≠0
instance (t:Tk):Decidable (fO t):=by unfold fO;exact inferInstance
def uV(c:Cn):Prop:=c.n<c.low\/c.high<c.n
instance (c:Cn):Decidable (uV c):=by unfold uV;exact inferInstance
def pM(ts:List Tk)(cs:List Cn):Nat × Nat:=match ts.find? (fun t=>decide (iB t)) with
 | some t=>(10,t.pos)
 | none=>match ts.filter (fun t=>decide (fO t)) with
  | t::_=>(1,t.pos)
  | []=>match cs.find? (fun c=>decide (uV c)) with
   | some c=>(2,c.pos)
   | none=>(0,0)
def fzv(t:Tk):List Value:=[.int .i64 1,.int .i64 t.pos]
def fzc(ts:List Tk):List Value:=ts.flatMap fzv
end Go.Proofs.Y
namespace Go.Vc
open Go
theorem aE.block{e:TypeId}{size:Nat}{v:Value}{n:Nat}{xs:List Value}{F:Own}(g:aE e size v n xs F)(hn:0<n):
  ∃(b cap:Nat) (c:Array Value),v=.slice (some ⟨b,0,Option.none⟩) n cap/\(b,Obj.cells c e (0,0))∈F/\∀(j:Nat) (u:Value),xs[j]?=some u->c[j]?=some u:=by
 obtain⟨-,⟨-,rfl⟩|⟨i,b,cap,zs,rfl,h2,h3,h4⟩⟩:=g
 .omega
 .refine⟨b,cap,_,rfl,aY8 h2,fun j u hu=>?_⟩
  have hj:=(aY5.1 hu).1;rw[aZx,aZe hj];exact hu
theorem aE.zeroLen{e:TypeId}{size:Nat}{v:Value}{xs:List Value}{F:Own}(g:aE e size v 0 xs F):∃(a:Option Addr) (cap:Nat),v=.slice a 0 cap:=by
 obtain⟨-,⟨rfl,-⟩|⟨i,b,cap,zs,rfl,h2,h3,h4⟩⟩:=g
 .exact⟨Option.none,0,rfl⟩
 .exact⟨_,cap,rfl⟩
theorem aE.lenV{e:TypeId}{size:Nat}{v:Value}{n:Nat}{xs:List Value}{F:Own}(g:aE e size v n xs F):∃(a:Option Addr) (cap:Nat),v=.slice a n cap:=by
 obtain⟨-,⟨rfl,rfl⟩|⟨i,b,cap,zs,rfl,h2,h3,h4⟩⟩:=g
 .exact⟨Option.none,0,rfl⟩
 .exact⟨_,cap,rfl⟩
theorem Sto.tl{A X tl:Own}{b off:Nat}{vs l:List Value}{T:TypeId}{k:Own->Prop}(hl:Nat.ble (off+vs.length) l.length=true)(ho:vs.all eS=true)
  (hk:vU vs l off fun l=>k (A++(X++(b,.cells l.toArray T (0,0))::tl))):Sto (A++(X++(b,.cells l.toArray T (0,0))::tl)) ⟨b,off,none⟩ vs k:=by
 rw[pZ] at hk;refine⟨rfl,A.length+X.length,l.toArray,T,?_,?_,ho,?_⟩
 .rw[aZo Aa,bAo,aZo Aa,bBv];rfl
 .have:=bCs hl;simpa using this
 .rw[gR,bAj _ _ Aa,bAo,bAj _ _ Aa,bBv];exact hk
theorem LdN.tl{h:aA}{A F tl:Own}{b m:Nat}{k:Value->Prop}{l:List Value}{T:TypeId}(hl:l.length=m)(hk:k (.agg l.toArray)):LdN h (A++(F++(b,.cells l.toArray T (0,0))::tl)) ⟨b,0,none⟩ m k:=
 ⟨l,hl,fun i hi=>by
   rw[aZ,aZq];exact⟨rfl,l.toArray,T,(0,0),.inr Ar,by simp[hl▸hi,aY3,hl,hi]⟩,hk⟩
end Go.Vc
namespace Go.Proofs.Y
open Go Go.Vc Go.Dig
theorem aR9{cs:List Cn}{m:Nat}{c:Cn}(hc:cs[m]?=some c)(q:Nat)(hq:q<4):(cnc cs)[m*4+q]?=(cnv c)[q]?:=by
 induction cs generalizing m with
 | nil=>simp at hc
 | cons u cs ih=>
  unfold cnc;rw[bDc];cases m with
  | zero=>
   simp at hc;subst hc;rw[aZe (by simp[cnv];omega),bAs,aZq]
  | succ m=>
   rw[aZo (by simp[cnv];omega)];have:=ih (m:=m) (by simpa using hc);unfold cnc at this;rw[<-this]
   congr 1
   simp[cnv];omega
theorem aNz(h:aA)(tb:Tb h)(bp:Nat)(s:Sl)(ts:List Tk)(i e:Nat)(v:Value)(cs:List Cn)(G:Own)(w:eH h s ts)(g:aE Ty.syntax_count 4 v cs.length (cnc cs) G)(hcs:cs.length<=1000000):
  Vc.Fn T F.q48 [.pointer (some ⟨bp,0,none⟩)] h (Pst bp s i e v::G) fun r h' L'=>L'=[]/\r=.agg #[.int .i64 (pM ts cs).1,.int .i64 (pM ts cs).2]:=by
 have hl:=w.len;have hw:=w.rw;have hsz:=w.sz;obtain⟨Q,hQ⟩:=AE (pM ts cs);have k1:∀j t,ts[j]?=some t->iB t->(∀u∈ts.take j,¬iB u)->Q=(10,t.pos):=fun j t ht hb hn=>by
  have:ts.find? (fun t=>decide (iB t))=some t:=by
   rw[kU ht,List.find?_append,List.find?_eq_none.2 (fun u hu=>by simpa using hn u hu)]
   simp[hb]
  rw[hQ];unfold pM;rw[this]
 have k2:(∀u∈ts,¬iB u)->ts.find? (fun t=>decide (iB t))=none:=fun hn=>List.find?_eq_none.2 fun u hu=>by simpa using hn u hu
 have k3:(∀u∈ts,¬iB u)->∀t l,ts.filter (fun t=>decide (fO t))=t::l->Q=(1,t.pos):=fun hn t l hf=>by
  rw[hQ];unfold pM;rw[k2 hn,hf]
 have k4:(∀u∈ts,¬iB u)->ts.filter (fun t=>decide (fO t))=[]->∀j c,cs[j]?=some c->uV c->(∀u∈cs.take j,¬uV u)->Q=(2,c.pos):=fun hn hf j c hc hb hm=>by
  have:cs.find? (fun c=>decide (uV c))=some c:=by
   rw[kU hc,List.find?_append,List.find?_eq_none.2 (fun u hu=>by simpa using hm u hu)]
   simp[hb]
  rw[hQ];unfold pM;rw[k2 hn,hf];simp only;rw[this]
 have k5:(∀u∈ts,¬iB u)->ts.filter (fun t=>decide (fO t))=[]->(∀u∈cs,¬uV u)->Q=(0,0):=fun hn hf hm=>by
  have:cs.find? (fun c=>decide (uV c))=none:=List.find?_eq_none.2 fun u hu=>by simpa using hm u hu
  rw[hQ];unfold pM;rw[k2 hn,hf];simp only;rw[this]
 rw[<-hQ];clear hQ;refine f1C ok D.q48 rfl ?_;conv=>whnf
 repeat' ((first|((first|apply oI.z|apply cI.z))|intro (_:Nat)|refine Ld.o 1 rfl rfl ?_)<;>conv=>whnf)
 rename_i b2;refine LpN.of (fun r ρ hx L=>∃(j:Nat) (F:Own) (vz:Value),r=ts.length-j/\h.le hx/\j<=ts.length/\rd ρ 18=.int .i64 j/\rd ρ 3=vz/\L=F++((b2,.cells [.int .i64 0,.int .i64 0].toArray Ty.syntax_Fault (0,0))::(Pst bp s i e v::G))/\((ts.take j).filter (fun t=>decide (fO t))).length<=j/\
     aE Ty.syntax_Fault 2 vz ((ts.take j).filter (fun t=>decide (fO t))).length (fzc ((ts.take j).filter (fun t=>decide (fO t)))) F/\Hq (∀u∈ts.take j,¬iB u)) ts.length
  ⟨0,[],_,rfl,aA.lr _,aZs _,rfl,rfl,rfl,aZt _,aE.nil _ _ _,⟨by simp⟩⟩ ?_
 conv=>whnf
 repeat intro _
 rename_i r hx L2 hI;obtain⟨j,F,vz,rfl,hle,hj,e18,e3,rfl,hfl,gz,hn⟩:=hI;conv at e3=>lhs;whnf
 subst e3;conv at e18=>lhs;whnf
 subst e18;have wh:=w.mono hle;have hwh:=wh.rw;have tbh:=tb.mono hle;by_cases hjl:j=ts.length
 .subst hjl;rw[aZi] at hfl gz hn;replace hn:=hn.out;cases hA:ts.filter (fun t=>decide (fO t)) with
  | cons t l=>
   rw[hA] at gz hfl;have hq:=k3 hn t l hA;obtain⟨bz,cap,c,rfl,hmem,hget⟩:=gz.block Ar;have v0:∀A tl,Has hx (A++(F++tl)) ⟨bz,0,none⟩ (.int .i64 1):=fun A tl=>⟨rfl,c,_,(0,0),.inr (by simp;exact .inr (.inl hmem)),hget 0 _ rfl⟩
   have v1:∀A tl,Has hx (A++(F++tl)) ⟨bz,1,none⟩ (.int .i64 t.pos):=fun A tl=>⟨rfl,c,_,(0,0),.inr (by simp;exact .inr (.inl hmem)),hget 1 _ rfl⟩
   obtain⟨N,hN⟩:=AE ((t::l).length);have hN0:0<N:=by rw[hN];simp
   rw[<-hN];conv=>whnf
   repeat' ((first|(show Idx _ _ _ _ _;refine Idx.of 0 rfl rfl hN0 ?_)|(show LdN _ _ _ _ _;first|refine LdN.tl (A:=[]) (F:=F) rfl ?_|(refine LdN.of [.int .i64 1,.int .i64 t.pos] rfl (fun i hi=>(by rw[aZ];match i,hi with|0,_=>exact v0 [] _|1,_=>exact v1 [] _)) ?_))|(show Sto _ _ _ _;refine Sto.tl (A:=[]) (X:=F) rfl rfl ?_)|((first|apply oI.z|apply cI.z))|(apply aB<;>intro _<;>try (exfalso;omega)))<;>conv=>whnf)
   rw[hq];exact RN.a rfl
  | nil=>
   rw[hA] at gz hfl;obtain⟨az,cap,rfl⟩:=gz.zeroLen;obtain⟨aC,capC,rfl⟩:=g.lenV;have hP:∀(A X:Own) (o:Nat × Obj),Has hx (A++(X++(o::Pst bp s i e (.slice aC cs.length capC)::G))) ⟨bp,3,none⟩ (.slice aC cs.length capC):=fun A X o=>⟨rfl,[s.val,.int .i64 i,.int .i64 e,.slice aC cs.length capC].toArray,Ty.syntax_Parser,(0,0),.inr (by unfold Pst;simp),rfl⟩
   conv=>whnf
   repeat' ((first|(show Ld _ _ _ _;refine Ld.of (hP [] F _) ?_)|((first|apply oI.z|apply cI.z))|(apply aB<;>intro _<;>try (exfalso;omega)))<;>conv=>whnf)
   refine LpN.of (fun r ρ hy L=>∃(m:Nat) (X:Own),r=cs.length-m/\hy=hx/\m<=cs.length/\rd ρ 67=.int .i64 m/\L=X++((b2,.cells [.int .i64 0,.int .i64 0].toArray Ty.syntax_Fault (0,0))::(Pst bp s i e (.slice aC cs.length capC)::G))/\Hq (∀u∈cs.take m,¬uV u)) cs.length
    ⟨0,F,rfl,rfl,aZs _,rfl,rfl,⟨by simp⟩⟩ ?_
   conv=>whnf
   repeat intro _
   rename_i r hy L3 hJ;obtain⟨m,X,rfl,rfl,hm,e67,rfl,hc⟩:=hJ;conv at e67=>lhs;whnf
   subst e67;by_cases hmc:m=cs.length
   .subst hmc;rw[aZi] at hc;rw[k5 hn hA hc.out];conv=>whnf
    repeat' ((first|(show Sto _ _ _ _;refine Sto.tl (A:=[]) (X:=X) rfl rfl ?_)|(show LdN _ _ _ _ _;refine LdN.tl (A:=[]) (F:=X) rfl ?_)|((first|apply oI.z|apply cI.z))|(apply aB<;>intro _<;>try (exfalso;omega)))<;>conv=>whnf)
    exact RN.a rfl
   .obtain⟨c,hcm⟩:∃c,cs[m]?=some c:=⟨_,aY4 Aa⟩
    obtain⟨bC,capC',cC,eC,hmC,hgC⟩:=g.block Aa;cases eC;have hcg:∀q,q<4->cC[m*4+q]?=(cnv c)[q]?:=fun q hq=>by
     rw[hgC (m*4+q) _ (by rw[aR9 hcm q hq];exact aY4 (by simpa[cnv] using hq))]
     exact (aY4 (by simpa[cnv] using hq)).symm
    have hH:∀(A X:Own) (o:Nat × Obj) (q:Nat) (hq:q<4),Has hy (A++(X++(o::Pst bp s i e (.slice (some ⟨bC,0,none⟩) cs.length capC)::G))) ⟨bC,0+m*4+q,none⟩ ((cnv c).getD q undef):=fun A X o q hq=>⟨rfl,cC,_,(0,0),.inr (by simp;exact .inr (.inr (.inr (.inr hmC)))),by
      rw[show 0+m*4+q=m*4+q by omega,hcg q hq,aY3,aY4 (by simpa[cnv] using hq)];rfl⟩
    have kk:=k4 hn hA m c hcm;have kc:uV c↔c.n<c.low\/c.high<c.n:=Iff.rfl;have kt:¬uV c->∀u∈cs.take (m+1),¬uV u:=fun x u hu=>by
     rw[bB hcm] at hu;rcases aZb.1 hu with hu|hu
     .exact hc.out u hu
     .obtain rfl:u=c:=by simpa using hu
      exact x
    replace kk:=fun x=>kk x hc.out
    clear hc k1 k2 k3 k4 k5 hgC hcg;obtain⟨cp,cl,ch,cn⟩:=c;simp only at kk kc;replace hH:∀(A X:Own) (o:Nat × Obj) (q:Nat) (hq:q<4),Has hy (A++(X++(o::Pst bp s i e (.slice (some ⟨bC,0,none⟩) cs.length capC)::G))) ⟨bC,0+m*4+q,none⟩ ([.int .i64 cp,.int .i64 cl,.int .i64 ch,.int .i64 cn].getD q undef):=hH
    conv=>whnf
    repeat' ((first|(show Idx _ _ _ _ _;refine Idx.of m rfl rfl Aa ?_)|(show LdN _ _ _ _ _;first|refine LdN.tl (A:=[_]) (F:=X) rfl ?_|(refine LdN.of [.int .i64 cp,.int .i64 cl,.int .i64 ch,.int .i64 cn] rfl (fun q hq=>(by rw[aZ];exact hH [] X _ q hq)) ?_))|(show Sto _ _ _ _;first|refine Sto.tl (A:=[_]) (X:=X) rfl rfl ?_|refine Sto.l 0 rfl rfl rfl ?_)|((first|apply oI.z|apply cI.z))|intro (_:Nat)|refine WN.i64 Aa Aa ?_|refine Ld.o 0 rfl rfl ?_|(apply aB<;>intro _<;>try (exfalso;omega)))<;>conv=>whnf)
    .rw[kk (kc.2 (.inl Aa))];exact RN.a rfl
    .rw[kk (kc.2 (.inr Aa))];exact RN.a rfl
    .exact⟨rfl,cs.length-(m+1),Aa,m+1,_::X,rfl,rfl,Aa,vi Aa,rfl,⟨kt fun x=>by have:=kc.1 x;omega⟩⟩
 .obtain⟨t,ht⟩:∃t,ts[j]?=some t:=⟨_,aY4 Aa⟩
  have ht8:=w.lt t (aY8 ht);have hps:=w.ps t (aY8 ht);have htk:=bB ht;have q1:iB t->Q=(10,t.pos):=fun x=>k1 j t ht x hn.out
  have q2:¬iB t->∀u∈ts.take (j+1),¬iB u:=fun x u hu=>by
   rw[htk] at hu;rcases aZb.1 hu with hu|hu
   .exact hn.out u hu
   .obtain rfl:u=t:=by simpa using hu
    exact x
  have q3:¬fO t->(ts.take (j+1)).filter (fun t=>decide (fO t))=(ts.take j).filter (fun t=>decide (fO t)):=fun x=>by
   rw[htk,bBu];simp[x]
  have q4:fO t->(ts.take (j+1)).filter (fun t=>decide (fO t))=(ts.take j).filter (fun t=>decide (fO t))++[t]:=fun x=>by
   rw[htk,bBu];simp[x]
  obtain⟨A,hA⟩:=AE ((ts.take j).filter (fun t=>decide (fO t)))
  obtain⟨B,hB⟩:=AE ((ts.take (j+1)).filter (fun t=>decide (fO t)))
  rw[<-hA] at q3 q4 gz hfl;rw[<-hB] at q3 q4;have hn2:=hn.out;have goN:∀F' vz',¬iB t->B.length<=j+1->aE Ty.syntax_Fault 2 vz' B.length (fzc B) F'->((ts.take (j+1)).filter (fun t=>decide (fO t))).length<=j+1/\aE Ty.syntax_Fault 2 vz' ((ts.take (j+1)).filter (fun t=>decide (fO t))).length (fzc ((ts.take (j+1)).filter (fun t=>decide (fO t)))) F'/\Hq (∀u∈ts.take (j+1),¬iB u):=fun F' vz' x y z=>by
   rw[<-hB];exact⟨y,z,⟨q2 x⟩⟩
  clear k1 k2 k3 k4 k5 hn hn2 q2;have b1:t.kind≠1->¬iB t/\¬fO t:=fun x=>⟨fun y=>x y.1,fun y=>x y.1⟩
  have b2':t.kind=1->pL t.text->iB t:=fun x y=>⟨x,y⟩
  have b3:¬pL t.text->¬iB t:=fun x y=>x y.2
  have b4:t.kind=1->(parseL t.text).2≠0->fO t:=fun x y=>⟨x,y⟩
  have b5:(parseL t.text).2=0->¬fO t:=fun x y=>y.2 x
  have b6:dJ t.text<t.text.length->(pL t.text↔∀c∈t.text.drop (dJ t.text+1),c=48):=fun x=>⟨fun y=>y.2,fun y=>⟨x,y⟩⟩
  have b7:¬dJ t.text<t.text.length->¬pL t.text:=fun x y=>x y.1
  obtain⟨bd1,hbd1⟩:=AE (iB t);obtain⟨bd2,hbd2⟩:=AE (fO t);obtain⟨ng,hng⟩:=AE (pL t.text);rw[<-hbd1] at q1 goN b1 b2' b3;rw[<-hbd2] at q3 q4 b1 b4 b5;rw[<-hng] at b2' b3 b6 b7;clear hbd1 hbd2 hng hA hB htk;obtain⟨K,hK⟩:=AE t.kind;obtain⟨tx,htx⟩:=AE t.text;obtain⟨tp,htp⟩:=AE t.pos;have hT:∀{i:Int} {k:Addr->Prop},i=j->(∀b off,(∀L,Has hx L ⟨b,off,none⟩ (.int .i64 K))->(∀L,Has hx L ⟨b,off+1,none⟩ (.string (txt tx)))->(∀L,Has hx L ⟨b,off+2,none⟩ (.int .i64 tp))->k ⟨b,off,none⟩)->Idx s.a i s.l 3 k:=fun {i k} a f=>Idx.tok hwh j t a ht fun b off v0 v1 v2=>f b off (by rw[hK];exact v0) (by rw[htx];exact v1) (by rw[htp];exact v2)
  rw[<-htp] at q1 hps;rw[<-hK] at b1 b2' b4 hps;rw[<-htx] at b4 b5 b6 b7 ht8 hps;have c1:=fun h=>aVf h tx ht8 hps.2.2
  have c3:=fun h tb=>aDv h tb tx ht8
  obtain⟨pq,hpq⟩:=AE (parseL tx);rw[<-hpq] at b4 b5 c3;have fzc_append:∀a b:List Tk,fzc (a++b)=fzc a++fzc b:=fun a b=>by unfold fzc;simp
  have hfz:fzc [t]=[.int .i64 1,.int .i64 tp]:=by rw[htp];rfl
  by_cases hs:dJ tx<tx.length
  .unfold aGh at c1;rw[if_pos hs] at c1;replace b6:=b6 hs;have c2:=fun h=>aR8 h (tx.drop (dJ tx+1)) (fun y hy=>ht8 y (bA0 hy)) (by rw[aZz];omega)
   conv=>whnf
   repeat' first|((first|(apply aO.go)|refine hT Aa (fun tb to v0 v1 v2=>?_)|((first|apply oI.z|apply cI.z))|intro (_:Nat)|(show LdN _ _ _ _ _;first|refine LdN.hs3 (v0 _) (v1 _) (v2 _) ?_|refine LdN.tl (A:=[_]) (F:=F) rfl ?_)|(show CN _ _ _ _ _ _;first|refine CN.quiet rfl (c1 _) ?_|(refine CN.f rfl (c2 _) (fun v h' hl2 hr=>?_);obtain⟨rfl,m,rfl,hm,hmb⟩:=hr;clear hl2)|(refine CN.f rfl (c3 _ tbh) (fun v h' hl2 hr=>?_);obtain⟨ra,rb,rfl,hres⟩:=hr))|(show Sto _ _ _ _;first|refine Sto.tl (A:=[_]) (X:=F) rfl rfl ?_|refine Sto.l 0 rfl rfl rfl ?_)|(show App _ _ _ _ _ _ _ _ _;refine App.growA (A:=[_,_,_]) (F:=F) (size:=2) (bytes:=16) (z:=[.int .i64 0,.int .i64 0]) rfl rfl gz ⟨_,0,none⟩ 1 1 [_,_] rfl (Has.front _) rfl Ag Aa Aa Ag (fun v' F' g' hsub=>?_))|refine WN.i64 Aa Aa ?_|(show Ld _ _ _ _;first|refine Ld.o 0 rfl rfl ?_|refine Ld.o 1 rfl rfl ?_))<;>conv=>whnf)|(show cnd _ _ _;first|(refine iK _ rfl rfl (fun hx=>?_) (fun hx=>?_)<;>(conv=>whnf))|((first|apply aB|apply aD)<;>intro _<;>first|(exfalso;omega)|conv=>whnf)|(refine aI ?_))
   .rw[q1 (b2' Aa (b6.2 (hm.1 Ab)))];exact RN.a rfl
   .have x1:=b3 fun x=>absurd (hm.2 (b6.1 x)) Ab
    have x2:=b5 Aa;have hlx:=aA.lt hle hl2;exact⟨rfl,ts.length-(j+1),Aa,j+1,_::_::F,_,rfl,hlx,Aa,vi Aa,rfl,rfl,goN _ _ x1 (by rw[q3 x2];omega) (by rw[q3 x2];exact (gz.cons _).cons _)⟩
   .have x1:=b3 fun x=>absurd (hm.2 (b6.1 x)) Ab
    have x2:=b4 Aa Aa;have hlx:=aA.lt hle hl2;exact⟨rfl,ts.length-(j+1),Aa,j+1,F',_,rfl,hlx,Aa,vi Aa,rfl,rfl,goN _ _ x1 (by rw[q4 x2,aY2,aZ0];omega) (by rw[q4 x2,aY2,aZ0,fzc_append,hfz];exact g')⟩
   .obtain⟨x1,x2⟩:=b1 Aa;exact⟨rfl,ts.length-(j+1),Aa,j+1,_::F,_,rfl,hle,Aa,vi Aa,rfl,rfl,goN _ _ x1 (by rw[q3 x2];omega) (by rw[q3 x2];exact gz.cons _)⟩
  .unfold aGh at c1;rw[if_neg hs] at c1;have b7:=b3 (b7 hs);conv=>whnf
   repeat' first|((first|(apply aO.go)|refine hT Aa (fun tb to v0 v1 v2=>?_)|((first|apply oI.z|apply cI.z))|intro (_:Nat)|(show LdN _ _ _ _ _;refine LdN.hs3 (v0 _) (v1 _) (v2 _) ?_)|(show CN _ _ _ _ _ _;first|refine CN.quiet rfl (c1 _) ?_|(refine CN.f rfl (c3 _ tbh) (fun v h' hl2 hr=>?_);obtain⟨ra,rb,rfl,hres⟩:=hr))|(show App _ _ _ _ _ _ _ _ _;refine App.growA (A:=[_,_,_]) (F:=F) (size:=2) (bytes:=16) (z:=[.int .i64 0,.int .i64 0]) rfl rfl gz ⟨_,0,none⟩ 1 1 [_,_] rfl (Has.front _) rfl Ag Aa Aa Ag (fun v' F' g' hsub=>?_))|refine WN.i64 Aa Aa ?_|(show Ld _ _ _ _;first|refine Ld.o 0 rfl rfl ?_|refine Ld.o 1 rfl rfl ?_)|refine Sto.l 0 rfl rfl rfl ?_)<;>conv=>whnf)|(show cnd _ _ _;first|((first|apply aB|apply aD)<;>intro _<;>first|(exfalso;omega)|conv=>whnf)|(refine aI ?_))
   .have x2:=b5 Aa;have hlx:=aA.lt hle hl2;exact⟨rfl,ts.length-(j+1),Aa,j+1,_::_::F,_,rfl,hlx,Aa,vi Aa,rfl,rfl,goN _ _ b7 (by rw[q3 x2];omega) (by rw[q3 x2];exact (gz.cons _).cons _)⟩
   .have x2:=b4 Aa Aa;have hlx:=aA.lt hle hl2;exact⟨rfl,ts.length-(j+1),Aa,j+1,F',_,rfl,hlx,Aa,vi Aa,rfl,rfl,goN _ _ b7 (by rw[q4 x2,aY2,aZ0];omega) (by rw[q4 x2,aY2,aZ0,fzc_append,hfz];exact g')⟩
   .obtain⟨x1,x2⟩:=b1 Aa;exact⟨rfl,ts.length-(j+1),Aa,j+1,_::F,_,rfl,hle,Aa,vi Aa,rfl,rfl,goN _ _ x1 (by rw[q3 x2];omega) (by rw[q3 x2];exact gz.cons _)⟩
end Go.Proofs.Y