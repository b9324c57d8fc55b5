/- The document's text of a tree. -/
import Derived.Test.YtieblmbjldlaeaaGreatDoorVcStop
import Derived.Test.YtieblmbjldlaeaaGreatDoorE66
set_option linter.all false
set_option maxHeartbeats 4000000
set_option maxRecDepth 20000
namespace Go.Proofs.Y
open Go Go.Vc Go.Dig
theorem aL7 (n:Int):iW (n:Rat)=itT n:=by
 unfold iW itT
 rw [xY,tL,pG,if_pos rfl,aVy]
 by_cases h:n<0
 ·rw [if_pos (decide_eq_true h),if_pos h];rfl
 ·rw [if_neg (by rw [decide_eq_false h];exact Bool.noConfusion),if_neg h]
attribute [local irreducible] Vc.Fn
theorem aHr (t:Tr) (h:aA) (vs:List Value) (w:IsE h vs t):Fn0 T F.q125 [.agg vs.toArray] h fun v h'=>v=.int .i64 (aU t.op):=by
 obtain ⟨op,arg,neg,l,m,name,ks⟩:=t
 obtain ⟨a,b,s,rfl,ho,ha,hv,hb,hk⟩:=w.isK
 show Fn0 T _ _ _ fun v h'=>v=.int .i64 (aU op)
 have k0:op=5∨op=6→aU op=1:=fun x=>if_pos x
 have k1:op=7∨op=8→aU op=2:=fun x=>by unfold aU;rw [if_neg (by omega),if_pos x]
 have k2:op=4→aU op=3:=fun x=>by unfold aU;rw [if_neg (by omega),if_neg (by omega),if_pos x]
 have k3:op=9→aU op=4:=fun x=>by unfold aU;rw [if_neg (by omega),if_neg (by omega),if_neg (by omega),if_pos x]
 have k4:¬(op=5∨op=6)→¬(op=7∨op=8)→op≠4→op≠9→aU op=5:=fun x y z u=>by unfold aU;rw [if_neg x,if_neg y,if_neg z,if_neg u]
 obtain ⟨R,hR⟩:∃R,R=aU op:=⟨_,rfl⟩
 rw [← hR] at k0 k1 k2 k3 k4 ⊢
 replace k0:=Hq.mk k0
 replace k1:=Hq.mk k1
 replace k2:=Hq.mk k2
 replace k3:=Hq.mk k3
 replace k4:=Hq.mk k4
 clear hR
 refine f0C ok D.q125 rfl ?_
 conv=>whnf
 repeat' first|((first|(apply aX.go)|((first|apply oI.z|apply cI.z))|intro (_:Nat)|refine Ld.o 0 rfl rfl ?_) <;> (conv=>whnf))|(apply aE<;>intro _<;>first|(exfalso;omega)|conv=>whnf)
 all_goals first
  | (rw [k0.out (by omega)];exact RN.a rfl)
  | (rw [k1.out (by omega)];exact RN.a rfl)
  | (rw [k2.out (by omega)];exact RN.a rfl)
  | (rw [k3.out (by omega)];exact RN.a rfl)
  | (rw [k4.out (by omega) (by omega) (by omega) (by omega)];exact RN.a rfl)
def Txs (t:Tr):Prop:=∀(h:aA) (vs:List Value),IsE h vs t→Fn0 T F.q41 [.agg vs.toArray] h fun v h'=>v=.string (txt (aF t))
theorem dK (t:Tr) (c:Txs t) (hl:(aF t).length≤900000) (low:Int) (h:aA) (vs:List Value) (w:IsE h vs t):Fn0 T F.q74 [.agg vs.toArray,.int .i64 low] h fun v h'=>v=.string (txt (aN (aF t,aU t.op) low)):=by
 have c1:=fun h vs w=>c h vs w
 have c2:=fun h vs w=>aHr t h vs w
 have k0:low≤aU t.op→aN (aF t,aU t.op) low=aF t:=fun x=>if_pos x
 have k1:¬low≤aU t.op→aN (aF t,aU t.op) low=[40]++aF t++[41]:=fun x=>if_neg x
 obtain ⟨R,hR⟩:∃R,R=aN (aF t,aU t.op) low:=⟨_,rfl⟩
 obtain ⟨X,hX⟩:∃X,X=aF t:=⟨_,rfl⟩
 obtain ⟨V,hV⟩:∃V,V=aU t.op:=⟨_,rfl⟩
 rw [← hR]
 rw [← hR,← hX,← hV] at k0 k1
 rw [← hX] at hl
 simp only [← hX] at c1
 simp only [← hV] at c2
 clear hR hX hV c
 replace k0:=Hq.mk k0
 replace k1:=Hq.mk k1
 obtain ⟨⟨op,arg,neg,l,m,name,ks⟩,ht⟩:∃x,x=t:=⟨_,rfl⟩
 obtain ⟨a,b,s,hvs,-⟩:=(ht.symm▸w:IsE h vs (.mk op arg neg l m name ks)).isK
 subst hvs
 refine f0C ok D.q74 rfl ?_
 conv=>whnf
 repeat' first|((first|(show LdN _ _ _ _ _;refine LdN.oA 0 rfl rfl ?_)|(show CN _ _ _ _ _ _;first|(refine CN.f rfl (c1 _ _ (by assumption)) (fun v h' hl2 hr=>?_);subst hr)|(refine CN.f rfl (c2 _ _ (by (iterate 30 try first|assumption|refine IsE.mono ?_ (by assumption));first|done|assumption)) (fun v h' hl2 hr=>?_);subst hr))|(show Cat _ _ _;first|(refine Cat.txt (a:=[40]) rfl rfl (by simp;omega) ?_)|(refine Cat.txt (b:=[41]) rfl rfl (by simp;omega) ?_))|((first|apply oI.z|apply cI.z))|intro (_:Nat)) <;> (conv=>whnf))|(apply aB<;>intro _<;>first|(exfalso;omega)|conv=>whnf)
 all_goals first
  | (rw [k0.out (by omega)];exact RN.a rfl)
  | (rw [k1.out (by omega)];exact RN.a rfl)
theorem uT (h:aA) (n:Int) (h1:-100≤n) (h2:n≤100):Fn0 T F.q75 [.int .i64 n] h fun v h'=>v=.string (txt (itT n)):=by
 have hf:=aAz n (by omega) (by omega)
 have c1:=fun h=>pJ h n (by omega) (by omega)
 have c2:=fun h (a b:Sl) w=>aA1 h a b (n:Rat) w ⟨hf.1,hf.2⟩
 simp only [aL7] at c2
 obtain ⟨Q,hQ⟩:∃Q,Q=(n:Rat):=⟨_,rfl⟩
 simp only [← hQ] at c1 c2
 clear hQ hf
 refine f0C ok D.q75 rfl ?_
 conv=>whnf
 repeat' first|((first|(show CN _ _ _ _ _ _;first|(refine CN.f rfl (c1 _) (fun v h' hl2 hr=>?_);obtain ⟨s5,t5,rfl,hq5⟩:=hr)|(refine CN.f rfl (c2 _ _ _ hq5) (fun v h' hl2 hr=>?_);subst hr))|((first|apply oI.z|apply cI.z))) <;> (conv=>whnf))
 all_goals exact RN.a rfl
end Go.Proofs.Y
/- Subst on both sides; its law. -/
namespace Go.Vc
open Go Go.Dig
end Go.Vc
namespace Go.Proofs.Y
open Go Go.Vc Go.Dig
def MsR {α:Type} (ms ps:List (List Nat × α)):Prop:=(∀n,n∈ms.map (·.1)↔n∈ps.map (·.1))∧((ps.map (·.1)).Nodup→ms=ps)
end Go.Proofs.Y
/- Numbers as values: what the program's operations on them answer. -/
namespace Go.Proofs.Y
open Go Go.Vc Go.Dig
theorem aU3:((0:Int):Rat)=0:=rfl
theorem aU4:((1:Int):Rat)=1:=rfl
def aUq (h:aA) (v:Value) (q:Rat):Prop:=∃n,∃a b:Sl,v=.agg #[.bool n,a.val,b.val]∧aA0 h n a b (some q)
instance:UpV aUq:=⟨fun hl ⟨n,a,b,e,w⟩=>⟨n,a,b,e,by obtain ⟨l,m,v,e2⟩:=w.ex;exact ⟨l,m,v.mono hl,e2⟩⟩⟩
def VQ (h:aA) (v:Value) (x:Option Rat):Prop:=∃n,∃a b:Sl,∃bb,v=.tuple #[.agg #[.bool n,a.val,b.val],.bool bb]∧(bb=true→∃q,x=some q∧aA0 h n a b (some q))∧(bb=false→x=none)
def NQ (h:aA) (v:Value) (p:Rat × Int):Prop:=∃n,∃a b:Sl,v=.tuple #[.agg #[.bool n,a.val,b.val],.int .i64 p.2]∧aA0 h n a b (some p.1)
def aVl (p:Rat × Int) (x:Option Rat):Prop:=(p.2=0→x=some p.1)∧(p.2≠0→x=none)
def aVm (q:Rat) (arg:Int):Rat × Int:=if arg<0∧q=0 then (0,10) else iA (aMv q arg)
end Go.Proofs.Y
/- Values of variables that come in: a slice of them in memory. -/
namespace Go.Vc
open Go Go.Dig
theorem LdN.hasN {h:aA} {L:Vc.Own} {b o m:Nat} {k:Value→Prop} (vs:List Value) (hl:vs.length=m) (hv:∀(i:Nat) v,vs[i]?=some v→Has h L ⟨b,o+i,none⟩ v) (hk:k (.agg vs.toArray)):LdN h L ⟨b,o,none⟩ m k:=
 ⟨vs,hl,fun i hi=>by
   rw [bD]
   exact hv i _ (by rw [aVp,aVq (by omega)];rfl),hk⟩
end Go.Vc
namespace Go.Proofs.Y
open Go Go.Vc Go.Dig
def aTj (h:aA) (c:Array Value):Nat→List (List Nat × Option Rat)→Prop
 | _,[]=>True
 | off,(n,x)::bs=>(c[off]?=some (.string (txt n))∧(∀y∈n,y<256)∧∃ng,∃a b:Sl,(∀i v,[Value.bool ng,a.val,b.val][i]?=some v→c[off+1+i]?=some v)∧aA0 h ng a b x)∧aTj h c (off+4) bs
structure IsV (h:aA) (s:Sl) (bs:List (List Nat × Option Rat)):Prop where
 len:s.l=bs.length
 cap:s.l≤s.c
 mem:bs=[]∨∃bl off c T fz,s.a=some ⟨bl,off,none⟩∧h bl=some (.cells c T fz)∧aTj h c off bs
def aRc (bs:List (List Nat × Option Rat)):List (List Nat × Rat):=bs.map fun b=>(b.1,b.2.getD 0)
def aRd (bs:List (List Nat × Option Rat)):Prop:=∀b∈bs,b.2.isSome=true
instance (bs:List (List Nat × Option Rat)):Decidable (aRd bs):=by unfold aRd;exact inferInstance
def aVn (bs:List (List Nat × Option Rat)) (t:Tr):Rat × Bool × Int:=
 if ¬dJ t then (0,false,40) else if ¬aK6 bs then (0,false,41) else if ¬aRd bs then (0,false,1) else match aK7 (aRc bs) t with
  | none=>(0,false,0)
  | some q=>(q,true,0)
end Go.Proofs.Y
/- The document's text of a tree: words with operands, the whole, what Print answers. -/
namespace Go.Proofs.Y
open Go Go.Vc Go.Dig
attribute [local irreducible] Vc.Fn
theorem aL8 (h:aA) (n:Nat) (h1:1≤n) (h8:n≤8):Fn0 T F.q126 [.int .i64 n] h fun v h'=>v=.string (txt (bA.getD (n-1) [])):=by
 have hk:n=1∨n=2∨n=3∨n=4∨n=5∨n=6∨n=7∨n=8:=by omega
 rcases hk with rfl|rfl|rfl|rfl|rfl|rfl|rfl|rfl
 ·refine f0C ok D.q126 rfl ?_
  conv=>whnf
  repeat' first|((first|(show Idx _ _ _ _ _;refine Idx.one 0 rfl rfl (by decide) ?_)|((first|apply oI.z|apply cI.z))|intro (_:Nat)|refine WN.i64 (by omega) (by omega) ?_|refine Ld.o 0 rfl rfl ?_) <;> (conv=>whnf))|(apply aB<;>intro _<;>first|(exfalso;omega)|conv=>whnf)
  all_goals exact RN.a rfl
 ·refine f0C ok D.q126 rfl ?_
  conv=>whnf
  repeat' first|((first|(show Idx _ _ _ _ _;refine Idx.one 1 rfl rfl (by decide) ?_)|((first|apply oI.z|apply cI.z))|intro (_:Nat)|refine WN.i64 (by omega) (by omega) ?_|refine Ld.o 0 rfl rfl ?_) <;> (conv=>whnf))|(apply aB<;>intro _<;>first|(exfalso;omega)|conv=>whnf)
  all_goals exact RN.a rfl
 ·refine f0C ok D.q126 rfl ?_
  conv=>whnf
  repeat' first|((first|(show Idx _ _ _ _ _;refine Idx.one 2 rfl rfl (by decide) ?_)|((first|apply oI.z|apply cI.z))|intro (_:Nat)|refine WN.i64 (by omega) (by omega) ?_|refine Ld.o 0 rfl rfl ?_) <;> (conv=>whnf))|(apply aB<;>intro _<;>first|(exfalso;omega)|conv=>whnf)
  all_goals exact RN.a rfl
 ·refine f0C ok D.q126 rfl ?_
  conv=>whnf
  repeat' first|((first|(show Idx _ _ _ _ _;refine Idx.one 3 rfl rfl (by decide) ?_)|((first|apply oI.z|apply cI.z))|intro (_:Nat)|refine WN.i64 (by omega) (by omega) ?_|refine Ld.o 0 rfl rfl ?_) <;> (conv=>whnf))|(apply aB<;>intro _<;>first|(exfalso;omega)|conv=>whnf)
  all_goals exact RN.a rfl
 ·refine f0C ok D.q126 rfl ?_
  conv=>whnf
  repeat' first|((first|(show Idx _ _ _ _ _;refine Idx.one 4 rfl rfl (by decide) ?_)|((first|apply oI.z|apply cI.z))|intro (_:Nat)|refine WN.i64 (by omega) (by omega) ?_|refine Ld.o 0 rfl rfl ?_) <;> (conv=>whnf))|(apply aB<;>intro _<;>first|(exfalso;omega)|conv=>whnf)
  all_goals exact RN.a rfl
 ·refine f0C ok D.q126 rfl ?_
  conv=>whnf
  repeat' first|((first|(show Idx _ _ _ _ _;refine Idx.one 5 rfl rfl (by decide) ?_)|((first|apply oI.z|apply cI.z))|intro (_:Nat)|refine WN.i64 (by omega) (by omega) ?_|refine Ld.o 0 rfl rfl ?_) <;> (conv=>whnf))|(apply aB<;>intro _<;>first|(exfalso;omega)|conv=>whnf)
  all_goals exact RN.a rfl
 ·refine f0C ok D.q126 rfl ?_
  conv=>whnf
  repeat' first|((first|(show Idx _ _ _ _ _;refine Idx.one 6 rfl rfl (by decide) ?_)|((first|apply oI.z|apply cI.z))|intro (_:Nat)|refine WN.i64 (by omega) (by omega) ?_|refine Ld.o 0 rfl rfl ?_) <;> (conv=>whnf))|(apply aB<;>intro _<;>first|(exfalso;omega)|conv=>whnf)
  all_goals exact RN.a rfl
 ·refine f0C ok D.q126 rfl ?_
  conv=>whnf
  repeat' first|((first|(show Idx _ _ _ _ _;refine Idx.one 7 rfl rfl (by decide) ?_)|((first|apply oI.z|apply cI.z))|intro (_:Nat)|refine WN.i64 (by omega) (by omega) ?_|refine Ld.o 0 rfl rfl ?_) <;> (conv=>whnf))|(apply aB<;>intro _<;>first|(exfalso;omega)|conv=>whnf)
  all_goals exact RN.a rfl
theorem aHs {ks:List Tr} (hw:∀t∈ks,Txs t) (hks:ks.length≤3) (h:aA) (op arg:Int) (hop:10≤op∧op≤15) (harg:-100≤arg∧arg≤100) (harg11:op=11→1≤arg∧arg≤8) (neg:Bool) (a b':Sl) (name:List Nat) (s:Sl)
  (hk:IsK h s ks) (hl:(cH op arg).length+(bM true (aG ks)).length+1≤900000):
  Fn0 T F.q76 [.agg #[.int .i64 op,.int .i64 arg,.bool neg,a.val,b'.val,.string (txt name),s.val]] h fun v h'=>v=.string (txt (cH op arg++bM true (aG ks)++[41])):=by
 have hkl:=hk.len
 have c1:=fun h=>uT h arg (by omega) (by omega)
 have hil:=nM harg.1 harg.2
 have hhl:=rE (op:=op) harg.1 harg.2
 have k1:op=10→arg=2→cH op arg=[115,113,114,116,40]:=fun e f=>by rw [cH,if_pos e,if_pos f]
 have k2:op=10→arg≠2→cH op arg=[114,111,111,116,40]++itT arg++[44,32]:=fun e f=>by rw [cH,if_pos e,if_neg f]
 have k3:op=11→cH op arg=bA.getD (arg.toNat-1) []++[40]:=fun e=>by subst e;rfl
 have k4:op=12→cH op arg=[97,98,115,40]:=fun e=>by subst e;rfl
 have k5:op=13→cH op arg=[109,105,110,40]:=fun e=>by subst e;rfl
 have k6:op=14→cH op arg=[109,97,120,40]:=fun e=>by subst e;rfl
 have k7:op=15→cH op arg=[105,102,40]:=fun e=>by subst e;rfl
 obtain ⟨HD,hHD⟩:∃x,x=cH op arg:=⟨_,rfl⟩
 rw [← hHD] at hl hhl k1 k2 k3 k4 k5 k6 k7 ⊢
 clear hHD
 have c3:op=11→∀h,Fn0 T F.q126 [.int .i64 arg] h fun v h'=>v=.string (txt (bA.getD (arg.toNat-1) [])):=fun e h=>by
  have:=aL8 h arg.toNat (by have:=(harg11 e).1;omega) (by have:=(harg11 e).2;omega)
  rw [Int.toNat_of_nonneg (by have:=(harg11 e).1;omega)] at this;exact this
 have hfl:=rD (arg.toNat-1)
 obtain ⟨FN,hFN⟩:∃x,x=bA.getD (arg.toNat-1) []:=⟨_,rfl⟩
 rw [← hFN] at c3 k3 hfl
 clear hFN
 refine f0C ok D.q76 rfl ?_
 conv=>whnf
 repeat' first|(refine cI.stopS 2 ?_)|((first|apply oI.z|apply cI.z);conv=>whnf)|(intro (_:Nat);conv=>whnf)
 rename_i bE
 refine ⟨aX.cut (fun ρ hx Lx=>rd ρ 3=.string (txt HD)∧h.le hx∧Lx=[(bE,.cells [.int .i64 op,.int .i64 arg,.bool neg,a.val,b'.val,.string (txt name),s.val].toArray Ty.api_Expr (0,0))]) ?_ ?_⟩
 ·conv=>whnf
  repeat' first|((first|(show CN _ _ _ _ _ _;first|(refine CN.f rfl (c1 _) (fun v h' hl2 hr=>?_);subst hr)|(refine CN.f rfl (c3 (by omega) _) (fun v h' hl2 hr=>?_);subst hr))|(show Cat _ _ _;first|(refine Cat.txt (a:=[114,111,111,116,40]) (b:=itT arg) rfl rfl (by first|omega|(simp only [aVo,aVs,aVv];omega)) ?_)|(refine Cat.txt (a:=[114,111,111,116,40]++itT arg) (b:=[44,32]) rfl rfl (by first|omega|(simp only [aVo,aVs,aVv];omega)) ?_)|(refine Cat.txt (a:=FN) (b:=[40]) rfl rfl (by first|omega|(simp only [aVo,aVs,aVv];omega)) ?_))|((first|apply oI.z|apply cI.z))|refine Ld.o 0 rfl rfl ?_) <;> (conv=>whnf))|(show cnd _ _ _;first|(apply aE<;>intro _<;>first|(exfalso;omega)|conv=>whnf)|(refine aI ?_))
  all_goals first
   | exact ⟨rfl,by rw [k1 (by omega) (by omega)];rfl,by first|exact aA.lr _|assumption,rfl⟩
   | exact ⟨rfl,by rw [k2 (by omega) (by omega)];rfl,by first|exact aA.lr _|assumption,rfl⟩
   | exact ⟨rfl,by rw [k3 (by omega)];rfl,by assumption,rfl⟩
   | exact ⟨rfl,by rw [k4 (by omega)];rfl,aA.lr _,rfl⟩
   | exact ⟨rfl,by rw [k5 (by omega)];rfl,aA.lr _,rfl⟩
   | exact ⟨rfl,by rw [k6 (by omega)];rfl,aA.lr _,rfl⟩
   | exact ⟨rfl,by rw [k7 (by omega)];rfl,aA.lr _,rfl⟩
 conv=>whnf
 repeat intro _
 rename_i h1 L1 hJ
 obtain ⟨e4,hle1,rfl⟩:=hJ
 conv at e4=>lhs;whnf
 subst e4
 have hk1:=hk.mono hle1
 have htl:=lY ks
 have hjl:=lC true (aG ks)
 clear k1 k2 k3 k4 k5 k6 k7 c1 c3
 conv=>whnf
 repeat ((first|apply oI.z|apply cI.z);conv=>whnf)
 skip
 refine LpN.keepL (fun r ρ hx=>∃j:Nat,r=ks.length-j∧j≤ks.length∧rd ρ 4=.int .i64 j∧rd ρ 3=.string (txt (HD++bM true ((aG ks).take j)))) ks.length
  ⟨0,rfl,aWe _,vi rfl,by rw [List.take_zero,bM,aVy];rfl⟩ ?_
 conv=>whnf
 repeat intro _
 rename_i r hx hle hI
 obtain ⟨j,rfl,hj,e5,e4⟩:=hI
 conv at e5=>lhs;whnf
 subst e5
 obtain ⟨Y,hY⟩:∃Y,Y=HD++bM true ((aG ks).take j):=⟨_,rfl⟩
 rw [← hY] at e4
 conv at e4=>lhs;whnf
 subst e4
 have hkx:=hk1.mono hle
 have hYl:=congrArg List.length hY
 rw [aVo] at hYl
 by_cases hjk:j=ks.length
 ·subst hjk
  rw [← htl,aV4] at hY hYl
  conv=>whnf
  repeat' first|((first|(show Cat _ _ _;(refine Cat.txt (a:=Y) (b:=[41]) rfl rfl (by first|omega|(simp only [aVo,aVs,aVv];omega)) ?_))|((first|apply oI.z|apply cI.z))|refine Ld.o 0 rfl rfl ?_) <;> (conv=>whnf))|(apply aB<;>intro _<;>first|(exfalso;omega)|conv=>whnf)
  all_goals exact RN.a (by rw [hY])
 ·obtain ⟨t,ht⟩:∃t,ks[j]?=some t:=⟨_,aVq (by omega)⟩
  have hgt:=cV ht
  have hsp:=wJ hgt
  have hjj:=fU true (j+1) (aG ks)
  have hj0:=fU true j (aG ks)
  have htk:(aG ks).take (j+1)=(aG ks).take j++[(aF t,aU t.op)]:=aZ hgt
  have hjs:bM true ((aG ks).take j++[(aF t,aU t.op)])=bM true ((aG ks).take j)++(if true=true∧(aG ks).take j=[] then [] else [44,32])++aF t:=mA true ((aG ks).take j) (aF t,aU t.op)
  rw [← htk] at hjs
  have hlt:((aG ks).take j).length=j:=by rw [aV9,htl];omega
  have hne:(aG ks).take j=[]↔j=0:=by rw [← List.length_eq_zero_iff,hlt]
  have c2:=fun h vs w=>hw t (aVu ht) h vs w
  have h1s:j=0→Y++aF t=HD++bM true ((aG ks).take (j+1)):=fun e=>by rw [hjs,if_pos ⟨rfl,hne.2 e⟩,hY,aVy,aVt]
  have h2s:j≠0→Y++[44,32]++aF t=HD++bM true ((aG ks).take (j+1)):=fun e=>by rw [hjs,if_neg (fun y=>e (hne.1 y.2)),hY];simp only [aVt]
  obtain ⟨X,hX⟩:∃X,X=aF t:=⟨_,rfl⟩
  simp only [← hX] at c2 h1s h2s hsp
  have hl2:=congrArg List.length hjs
  rw [← hX,aVo,aVo] at hl2
  clear hjs htk hX hgt hne
  replace h1s:=Hq.mk h1s
  replace h2s:=Hq.mk h2s
  conv=>whnf
  repeat' first|((first|(apply aX.go)|(show Idx _ _ _ _ _;refine Idx.kid hkx j t (by omega) ht (fun ad op2 arg2 neg2 a2 b2 name2 s2 hE hld=>?_))|refine hld _ _ _ (aA.lr _) ?_|((first|apply oI.z|apply cI.z))|(show CN _ _ _ _ _ _;(refine CN.f rfl (c2 _ _ (hE.mono (by first|assumption|exact aA.lr _))) (fun v h' hl2 hr=>?_);subst hr))|(show Cat _ _ _;first|(refine Cat.txt (a:=Y) (b:=[44,32]) rfl rfl (by first|omega|(simp only [aVo,aVs,aVv];omega)) ?_)|(refine Cat.txt (a:=Y) (b:=X) rfl rfl (by first|omega|(simp only [aVo,aVs,aVv];omega)) ?_)|(refine Cat.txt (a:=Y++[44,32]) (b:=X) rfl rfl (by first|omega|(simp only [aVo,aVs,aVv];omega)) ?_))|refine WN.i64 (by omega) (by omega) ?_|refine Ld.o 0 rfl rfl ?_) <;> (conv=>whnf))|(apply aB<;>intro _<;>first|(exfalso;omega)|conv=>whnf)
  all_goals first
   | exact ⟨rfl,ks.length-(j+1),by omega,(by (iterate 30 try first|assumption|refine aA.lt ?_ (by assumption));first|done|assumption),rfl,j+1,rfl,by omega,vi (by omega),by rw [← h1s.out (by omega)];rfl⟩
   | exact ⟨rfl,ks.length-(j+1),by omega,(by (iterate 30 try first|assumption|refine aA.lt ?_ (by assumption));first|done|assumption),rfl,j+1,rfl,by omega,vi (by omega),by rw [← h2s.out (by omega)];rfl⟩
theorem aL9 {op arg:Int} {neg:Bool} {l m name:List Nat} {n:Nat} (h:cX op arg neg l m name n):op=1∨op=2∨op=3∨op=4∨op=5∨op=6∨op=7∨op=8∨op=9∨(10≤op∧op≤15):=by
 have h1:=h.1
 unfold cG at h1
 repeat' split at h1
 all_goals omega
theorem wZ:∀(t:Tr) (d:Nat),okT d t→szT t≤300→Txs t:=by
 refine iM fun t ih=>?_
 intro d hok hsz h vs w
 have hlen:=jC t d hok
 obtain ⟨op,arg,neg,l,m,name,ks⟩:=t
 obtain ⟨a,b,s,rfl,ho,ha,hv,hb,hk⟩:=w.isK
 rw [okT] at hok
 obtain ⟨hd,hnb,hoks⟩:=hok
 have hx1:∀k,szT k<szT (.mk op arg neg l m name ks)→k∈ks→Txs k∧(aF k).length≤450000:=fun k hz hm=>by
  have ok1:okT (d+1) k:=cZ hoks hm
  have:=jC k (d+1) ok1
  exact ⟨ih k hz (d+1) ok1 (by omega),by omega⟩
 have kn:=aL9 hnb
 rcases kn with rfl|rfl|rfl|rfl|rfl|rfl|rfl|rfl|rfl|hop
 ·rw [aF]
  show Fn0 T _ _ _ fun v h'=>v=.string (txt (iW (aR neg l m)))
  have c1:=fun h hv=>oG h neg a b l m hv
  have c2:=fun h (c d:Sl) w=>aA1 h c d (aR neg l m) w (aOl hnb)
  obtain ⟨q,hq⟩:∃q,q=aR neg l m:=⟨_,rfl⟩
  simp only [← hq] at c1 c2 ⊢
  clear hq
  refine f0C ok D.q41 rfl ?_
  conv=>whnf
  repeat' first|((first|(show LdN _ _ _ _ _;refine LdN.oA 0 rfl rfl ?_)|(show CN _ _ _ _ _ _;first|(refine CN.f rfl (c1 _ (by assumption)) (fun v h' hl2 hr=>?_);obtain ⟨cc,dd,rfl,hfr⟩:=hr)|(refine CN.f rfl (c2 _ _ _ hfr) (fun v h' hl2 hr=>?_);subst hr))|((first|apply oI.z|apply cI.z))|intro (_:Nat)|refine Ld.o 0 rfl rfl ?_) <;> (conv=>whnf))|(apply aE<;>intro _<;>first|(exfalso;omega)|conv=>whnf)
  all_goals exact RN.a rfl
 ·rw [aF]
  show Fn0 T _ _ _ fun v h'=>v=.string (txt name)
  refine f0C ok D.q41 rfl ?_
  conv=>whnf
  repeat' first|((first|((first|apply oI.z|apply cI.z))|intro (_:Nat)|refine Ld.o 0 rfl rfl ?_) <;> (conv=>whnf))|(apply aE<;>intro _<;>first|(exfalso;omega)|conv=>whnf)
  all_goals exact RN.a rfl
 ·rw [aF]
  show Fn0 T _ _ _ fun v h'=>v=.string (txt [112,105])
  refine f0C ok D.q41 rfl ?_
  conv=>whnf
  repeat' first|((first|((first|apply oI.z|apply cI.z))|intro (_:Nat)|refine Ld.o 0 rfl rfl ?_) <;> (conv=>whnf))|(apply aE<;>intro _<;>first|(exfalso;omega)|conv=>whnf)
  all_goals exact RN.a rfl
 ·obtain ⟨k,rfl⟩:=aFe hnb.1 (by decide)
  obtain ⟨bl1,off1,op1,ar1,ng1,nn1,dd1,nm1,ss1,hE1,hld1,hln1,hix1⟩:=hk.kidP 0 _ rfl
  have hk1:=hx1 k (dB (j:=0) rfl) (aVw ..)
  have q1:=fun h vs low w=>dK k hk1.1 (by have:=hk1.2;omega) low h vs w
  have l1:=cW (aF k,aU k.op) 3
  rw [aF,aG,aG]
  show Fn0 T _ _ _ fun v h'=>v=.string (txt ([45]++aN (aF k,aU k.op) 3))
  have hl1:=hk1.2
  clear hk1
  replace q1:=fun h vs w=>q1 h vs 3 w
  obtain ⟨P1,hP1⟩:∃P,P=aN (aF k,aU k.op) 3:=⟨_,rfl⟩
  simp only [← hP1] at q1 l1 ⊢
  clear hP1
  have hkl:s.l=1:=hk.len
  refine f0C ok D.q41 rfl ?_
  conv=>whnf
  repeat' first|((first|refine hix1 _ _ rfl ?_|((first|apply oI.z|apply cI.z))|intro (_:Nat)|(show LdN _ _ _ _ _;(refine LdN.hasN [.int .i64 op1,.int .i64 ar1,.bool ng1,nn1.val,dd1.val,.string (txt nm1),ss1.val] rfl (fun i v hv=>hld1 _ _ i v (by first|assumption|exact aA.lr _) hv) ?_))|(show CN _ _ _ _ _ _;(refine CN.f rfl (q1 _ _ (hE1.mono (by first|assumption|exact aA.lr _))) (fun v h' hl2 hr=>?_);subst hr))|(show Cat _ _ _;(refine Cat.txt (a:=[45]) (b:=P1) rfl rfl (by first|omega|(simp only [aVo,aVs,aVv];omega)) ?_))|refine Ld.o 0 rfl rfl ?_) <;> (conv=>whnf))|(apply aE<;>intro _<;>first|(exfalso;omega)|conv=>whnf)
  all_goals exact RN.a rfl
 ·obtain ⟨k,k',rfl⟩:=qJ hnb.1 (by decide)
  obtain ⟨bl1,off1,op1,ar1,ng1,nn1,dd1,nm1,ss1,hE1,hld1,hln1,hix1⟩:=hk.kidP 0 _ rfl
  obtain ⟨bl2,off2,op2,ar2,ng2,nn2,dd2,nm2,ss2,hE2,hld2,hln2,hix2⟩:=hk.kidP 1 _ rfl
  have hk1:=hx1 k (dB (j:=0) rfl) (aVw ..)
  have hk2:=hx1 k' (dB (j:=1) rfl) (aVz _ (aVw ..))
  have q1:=fun h vs w=>dK k hk1.1 (by have:=hk1.2;omega) 1 h vs w
  have q2:=fun h vs w=>dK k' hk2.1 (by have:=hk2.2;omega) 2 h vs w
  have l1:=cW (aF k,aU k.op) 1
  have l2:=cW (aF k',aU k'.op) 2
  have hl1:=hk1.2
  have hl2:=hk2.2
  rw [aF,aG,aG,aG]
  show Fn0 T _ _ _ fun v h'=>v=.string (txt (aN (aF k,aU k.op) 1++[32,43,32]++aN (aF k',aU k'.op) 2))
  clear hk1 hk2
  obtain ⟨P1,hP1⟩:∃P,P=aN (aF k,aU k.op) 1:=⟨_,rfl⟩
  obtain ⟨P2,hP2⟩:∃P,P=aN (aF k',aU k'.op) 2:=⟨_,rfl⟩
  simp only [← hP1] at q1 l1 ⊢
  simp only [← hP2] at q2 l2 ⊢
  clear hP1 hP2
  have hkl:s.l=2:=hk.len
  refine f0C ok D.q41 rfl ?_
  conv=>whnf
  repeat' first|((first|refine hix1 _ _ rfl ?_|refine hix2 _ _ rfl ?_|((first|apply oI.z|apply cI.z))|refine ⟨fun _=>aH.o (by assumption),?_⟩|intro (_:Nat)|(show LdN _ _ _ _ _;first|(refine LdN.hasN [.int .i64 op1,.int .i64 ar1,.bool ng1,nn1.val,dd1.val,.string (txt nm1),ss1.val] rfl (fun i v hv=>hld1 _ _ i v (by first|assumption|exact aA.lr _) hv) ?_)|(refine LdN.hasN [.int .i64 op2,.int .i64 ar2,.bool ng2,nn2.val,dd2.val,.string (txt nm2),ss2.val] rfl (fun i v hv=>hld2 _ _ i v (by first|assumption|exact aA.lr _) hv) ?_))|(show CN _ _ _ _ _ _;first|(refine CN.f rfl (q1 _ _ (hE1.mono (by first|assumption|exact aA.lr _))) (fun v h' hl2 hr=>?_);subst hr)|(refine CN.f rfl (q2 _ _ (hE2.mono (by assumption))) (fun v h' hl2 hr=>?_);subst hr))|(show Cat _ _ _;first|(refine Cat.txt (a:=P1) (b:=[32,43,32]) rfl rfl (by first|omega|(simp only [aVo,aVs,aVv];omega)) ?_)|(refine Cat.txt (a:=P1++[32,43,32]) (b:=P2) rfl rfl (by first|omega|(simp only [aVo,aVs,aVv];omega)) ?_))|refine Ld.o 0 rfl rfl ?_|refine DrN.run (by decide +kernel) ?_) <;> (conv=>whnf))|(apply aE<;>intro _<;>first|(exfalso;omega)|conv=>whnf)
  all_goals exact RN.a rfl
 ·obtain ⟨k,k',rfl⟩:=qJ hnb.1 (by decide)
  obtain ⟨bl1,off1,op1,ar1,ng1,nn1,dd1,nm1,ss1,hE1,hld1,hln1,hix1⟩:=hk.kidP 0 _ rfl
  obtain ⟨bl2,off2,op2,ar2,ng2,nn2,dd2,nm2,ss2,hE2,hld2,hln2,hix2⟩:=hk.kidP 1 _ rfl
  have hk1:=hx1 k (dB (j:=0) rfl) (aVw ..)
  have hk2:=hx1 k' (dB (j:=1) rfl) (aVz _ (aVw ..))
  have q1:=fun h vs w=>dK k hk1.1 (by have:=hk1.2;omega) 1 h vs w
  have q2:=fun h vs w=>dK k' hk2.1 (by have:=hk2.2;omega) 2 h vs w
  have l1:=cW (aF k,aU k.op) 1
  have l2:=cW (aF k',aU k'.op) 2
  have hl1:=hk1.2
  have hl2:=hk2.2
  rw [aF,aG,aG,aG]
  show Fn0 T _ _ _ fun v h'=>v=.string (txt (aN (aF k,aU k.op) 1++[32,45,32]++aN (aF k',aU k'.op) 2))
  clear hk1 hk2
  obtain ⟨P1,hP1⟩:∃P,P=aN (aF k,aU k.op) 1:=⟨_,rfl⟩
  obtain ⟨P2,hP2⟩:∃P,P=aN (aF k',aU k'.op) 2:=⟨_,rfl⟩
  simp only [← hP1] at q1 l1 ⊢
  simp only [← hP2] at q2 l2 ⊢
  clear hP1 hP2
  have hkl:s.l=2:=hk.len
  refine f0C ok D.q41 rfl ?_
  conv=>whnf
  repeat' first|((first|refine hix1 _ _ rfl ?_|refine hix2 _ _ rfl ?_|((first|apply oI.z|apply cI.z))|refine ⟨fun _=>aH.o (by assumption),?_⟩|intro (_:Nat)|(show LdN _ _ _ _ _;first|(refine LdN.hasN [.int .i64 op1,.int .i64 ar1,.bool ng1,nn1.val,dd1.val,.string (txt nm1),ss1.val] rfl (fun i v hv=>hld1 _ _ i v (by first|assumption|exact aA.lr _) hv) ?_)|(refine LdN.hasN [.int .i64 op2,.int .i64 ar2,.bool ng2,nn2.val,dd2.val,.string (txt nm2),ss2.val] rfl (fun i v hv=>hld2 _ _ i v (by first|assumption|exact aA.lr _) hv) ?_))|(show CN _ _ _ _ _ _;first|(refine CN.f rfl (q1 _ _ (hE1.mono (by first|assumption|exact aA.lr _))) (fun v h' hl2 hr=>?_);subst hr)|(refine CN.f rfl (q2 _ _ (hE2.mono (by assumption))) (fun v h' hl2 hr=>?_);subst hr))|(show Cat _ _ _;first|(refine Cat.txt (a:=P1) (b:=[32,45,32]) rfl rfl (by first|omega|(simp only [aVo,aVs,aVv];omega)) ?_)|(refine Cat.txt (a:=P1++[32,45,32]) (b:=P2) rfl rfl (by first|omega|(simp only [aVo,aVs,aVv];omega)) ?_))|refine Ld.o 0 rfl rfl ?_|refine DrN.run (by decide +kernel) ?_) <;> (conv=>whnf))|(apply aE<;>intro _<;>first|(exfalso;omega)|conv=>whnf)
  all_goals exact RN.a rfl
 ·obtain ⟨k,k',rfl⟩:=qJ hnb.1 (by decide)
  obtain ⟨bl1,off1,op1,ar1,ng1,nn1,dd1,nm1,ss1,hE1,hld1,hln1,hix1⟩:=hk.kidP 0 _ rfl
  obtain ⟨bl2,off2,op2,ar2,ng2,nn2,dd2,nm2,ss2,hE2,hld2,hln2,hix2⟩:=hk.kidP 1 _ rfl
  have hk1:=hx1 k (dB (j:=0) rfl) (aVw ..)
  have hk2:=hx1 k' (dB (j:=1) rfl) (aVz _ (aVw ..))
  have q1:=fun h vs w=>dK k hk1.1 (by have:=hk1.2;omega) 2 h vs w
  have q2:=fun h vs w=>dK k' hk2.1 (by have:=hk2.2;omega) 3 h vs w
  have l1:=cW (aF k,aU k.op) 2
  have l2:=cW (aF k',aU k'.op) 3
  have hl1:=hk1.2
  have hl2:=hk2.2
  rw [aF,aG,aG,aG]
  show Fn0 T _ _ _ fun v h'=>v=.string (txt (aN (aF k,aU k.op) 2++[32,42,32]++aN (aF k',aU k'.op) 3))
  clear hk1 hk2
  obtain ⟨P1,hP1⟩:∃P,P=aN (aF k,aU k.op) 2:=⟨_,rfl⟩
  obtain ⟨P2,hP2⟩:∃P,P=aN (aF k',aU k'.op) 3:=⟨_,rfl⟩
  simp only [← hP1] at q1 l1 ⊢
  simp only [← hP2] at q2 l2 ⊢
  clear hP1 hP2
  have hkl:s.l=2:=hk.len
  refine f0C ok D.q41 rfl ?_
  conv=>whnf
  repeat' first|((first|refine hix1 _ _ rfl ?_|refine hix2 _ _ rfl ?_|((first|apply oI.z|apply cI.z))|refine ⟨fun _=>aH.o (by assumption),?_⟩|intro (_:Nat)|(show LdN _ _ _ _ _;first|(refine LdN.hasN [.int .i64 op1,.int .i64 ar1,.bool ng1,nn1.val,dd1.val,.string (txt nm1),ss1.val] rfl (fun i v hv=>hld1 _ _ i v (by first|assumption|exact aA.lr _) hv) ?_)|(refine LdN.hasN [.int .i64 op2,.int .i64 ar2,.bool ng2,nn2.val,dd2.val,.string (txt nm2),ss2.val] rfl (fun i v hv=>hld2 _ _ i v (by first|assumption|exact aA.lr _) hv) ?_))|(show CN _ _ _ _ _ _;first|(refine CN.f rfl (q1 _ _ (hE1.mono (by first|assumption|exact aA.lr _))) (fun v h' hl2 hr=>?_);subst hr)|(refine CN.f rfl (q2 _ _ (hE2.mono (by assumption))) (fun v h' hl2 hr=>?_);subst hr))|(show Cat _ _ _;first|(refine Cat.txt (a:=P1) (b:=[32,42,32]) rfl rfl (by first|omega|(simp only [aVo,aVs,aVv];omega)) ?_)|(refine Cat.txt (a:=P1++[32,42,32]) (b:=P2) rfl rfl (by first|omega|(simp only [aVo,aVs,aVv];omega)) ?_))|refine Ld.o 0 rfl rfl ?_|refine DrN.run (by decide +kernel) ?_) <;> (conv=>whnf))|(apply aE<;>intro _<;>first|(exfalso;omega)|conv=>whnf)
  all_goals exact RN.a rfl
 ·obtain ⟨k,k',rfl⟩:=qJ hnb.1 (by decide)
  obtain ⟨bl1,off1,op1,ar1,ng1,nn1,dd1,nm1,ss1,hE1,hld1,hln1,hix1⟩:=hk.kidP 0 _ rfl
  obtain ⟨bl2,off2,op2,ar2,ng2,nn2,dd2,nm2,ss2,hE2,hld2,hln2,hix2⟩:=hk.kidP 1 _ rfl
  have hk1:=hx1 k (dB (j:=0) rfl) (aVw ..)
  have hk2:=hx1 k' (dB (j:=1) rfl) (aVz _ (aVw ..))
  have q1:=fun h vs w=>dK k hk1.1 (by have:=hk1.2;omega) 2 h vs w
  have q2:=fun h vs w=>dK k' hk2.1 (by have:=hk2.2;omega) 3 h vs w
  have l1:=cW (aF k,aU k.op) 2
  have l2:=cW (aF k',aU k'.op) 3
  have hl1:=hk1.2
  have hl2:=hk2.2
  rw [aF,aG,aG,aG]
  show Fn0 T _ _ _ fun v h'=>v=.string (txt (aN (aF k,aU k.op) 2++[32,47,32]++aN (aF k',aU k'.op) 3))
  clear hk1 hk2
  obtain ⟨P1,hP1⟩:∃P,P=aN (aF k,aU k.op) 2:=⟨_,rfl⟩
  obtain ⟨P2,hP2⟩:∃P,P=aN (aF k',aU k'.op) 3:=⟨_,rfl⟩
  simp only [← hP1] at q1 l1 ⊢
  simp only [← hP2] at q2 l2 ⊢
  clear hP1 hP2
  have hkl:s.l=2:=hk.len
  refine f0C ok D.q41 rfl ?_
  conv=>whnf
  repeat' first|((first|refine hix1 _ _ rfl ?_|refine hix2 _ _ rfl ?_|((first|apply oI.z|apply cI.z))|refine ⟨fun _=>aH.o (by assumption),?_⟩|intro (_:Nat)|(show LdN _ _ _ _ _;first|(refine LdN.hasN [.int .i64 op1,.int .i64 ar1,.bool ng1,nn1.val,dd1.val,.string (txt nm1),ss1.val] rfl (fun i v hv=>hld1 _ _ i v (by first|assumption|exact aA.lr _) hv) ?_)|(refine LdN.hasN [.int .i64 op2,.int .i64 ar2,.bool ng2,nn2.val,dd2.val,.string (txt nm2),ss2.val] rfl (fun i v hv=>hld2 _ _ i v (by first|assumption|exact aA.lr _) hv) ?_))|(show CN _ _ _ _ _ _;first|(refine CN.f rfl (q1 _ _ (hE1.mono (by first|assumption|exact aA.lr _))) (fun v h' hl2 hr=>?_);subst hr)|(refine CN.f rfl (q2 _ _ (hE2.mono (by assumption))) (fun v h' hl2 hr=>?_);subst hr))|(show Cat _ _ _;first|(refine Cat.txt (a:=P1) (b:=[32,47,32]) rfl rfl (by first|omega|(simp only [aVo,aVs,aVv];omega)) ?_)|(refine Cat.txt (a:=P1++[32,47,32]) (b:=P2) rfl rfl (by first|omega|(simp only [aVo,aVs,aVv];omega)) ?_))|refine Ld.o 0 rfl rfl ?_|refine DrN.run (by decide +kernel) ?_) <;> (conv=>whnf))|(apply aE<;>intro _<;>first|(exfalso;omega)|conv=>whnf)
  all_goals exact RN.a rfl
 ·obtain ⟨k,rfl⟩:=aFe hnb.1 (by decide)
  obtain ⟨bl1,off1,op1,ar1,ng1,nn1,dd1,nm1,ss1,hE1,hld1,hln1,hix1⟩:=hk.kidP 0 _ rfl
  have hk1:=hx1 k (dB (j:=0) rfl) (aVw ..)
  have q1:=fun h vs low w=>dK k hk1.1 (by have:=hk1.2;omega) low h vs w
  have l1:=cW (aF k,aU k.op) 5
  rw [aF,aG,aG]
  show Fn0 T _ _ _ fun v h'=>v=.string (txt ( aN (aF k,aU k.op) 5++([94]++itT arg)))
  have hl1:=hk1.2
  clear hk1
  replace q1:=fun h vs w=>q1 h vs 5 w
  obtain ⟨P1,hP1⟩:∃P,P=aN (aF k,aU k.op) 5:=⟨_,rfl⟩
  simp only [← hP1] at q1 l1 ⊢
  clear hP1
  have hkl:s.l=1:=hk.len
  have n2:=hnb.2.1
  have n3:=hnb.2.2.1
  rw [show oN 9=-32 by decide] at n2
  rw [show jL 9=32 by decide] at n3
  have hil:=nM (n:=arg) (by omega) (by omega)
  have dg:=fun h=>uT h arg (by omega) (by omega)
  rw [← aVt]
  refine f0C ok D.q41 rfl ?_
  conv=>whnf
  repeat' first|((first|refine hix1 _ _ rfl ?_|((first|apply oI.z|apply cI.z))|refine ⟨fun _=>aH.o (by assumption),?_⟩|intro (_:Nat)|(show LdN _ _ _ _ _;(refine LdN.hasN [.int .i64 op1,.int .i64 ar1,.bool ng1,nn1.val,dd1.val,.string (txt nm1),ss1.val] rfl (fun i v hv=>hld1 _ _ i v (by first|assumption|exact aA.lr _) hv) ?_))|(show CN _ _ _ _ _ _;first|(refine CN.f rfl (q1 _ _ (hE1.mono (by first|assumption|exact aA.lr _))) (fun v h' hl2 hr=>?_);subst hr)|(refine CN.f rfl (dg _) (fun v h' hl2 hr=>?_);subst hr))|(show Cat _ _ _;first|(refine Cat.txt (a:=P1) (b:=[94]) rfl rfl (by first|omega|(simp only [aVo,aVs,aVv];omega)) ?_)|(refine Cat.txt (a:=P1++[94]) (b:=itT arg) rfl rfl (by first|omega|(simp only [aVo,aVs,aVv];omega)) ?_))|refine Ld.o 0 rfl rfl ?_|refine DrN.run (by decide +kernel) ?_) <;> (conv=>whnf))|(apply aE<;>intro _<;>first|(exfalso;omega)|conv=>whnf)
  all_goals exact RN.a rfl
 ·have hks:ks.length≤3:=by
   have h1:=hnb.1
   have h2:=fD op
   omega
  have harg:-100≤arg∧arg≤100:=by
   have n2:=hnb.2.1
   have n3:=hnb.2.2.1
   unfold oN at n2
   unfold jL at n3
   repeat' split at n2
   all_goals (repeat' split at n3)
   all_goals omega
  have h11:op=11→1≤arg∧arg≤8:=fun e=>by
   have n2:=hnb.2.1
   have n3:=hnb.2.2.1
   rw [e] at n2 n3
   rw [show oN 11=1 by decide] at n2
   rw [show jL 11=8 by decide] at n3
   exact ⟨n2,n3⟩
  have e:aF (.mk op arg neg l m name ks)=cH op arg++bM true (aG ks)++[41]:=by
   rw [aF,pW,if_neg (by omega),if_neg (by omega),if_neg (by omega),if_neg (by omega),if_neg (by omega),if_neg (by omega),if_neg (by omega)]
  rw [e] at hlen ⊢
  rw [aVo,aVo] at hlen
  have cc:=fun h hk=>aHs (fun k hm=>(hx1 k (by obtain ⟨i,hi,rfl⟩:=List.mem_iff_getElem.1 hm;exact dB (aVq hi)) hm).1) hks h op arg hop harg h11 neg a b name s hk (by simp only [aVs,aVv] at hlen;omega)
  obtain ⟨X,hX⟩:∃X,X=cH op arg++bM true (aG ks)++[41]:=⟨_,rfl⟩
  simp only [← hX] at cc ⊢
  clear hX hx1 hlen e
  refine f0C ok D.q41 rfl ?_
  conv=>whnf
  repeat' first|((first|(show LdN _ _ _ _ _;refine LdN.oA 0 rfl rfl ?_)|(show CN _ _ _ _ _ _;(refine CN.f rfl (cc _ (hk.mono (by first|assumption|exact aA.lr _))) (fun v h' hl2 hr=>?_);subst hr))|((first|apply oI.z|apply cI.z))|intro (_:Nat)|refine Ld.o 0 rfl rfl ?_) <;> (conv=>whnf))|(apply aE<;>intro _<;>first|(exfalso;omega)|conv=>whnf)
  all_goals exact RN.a rfl
end Go.Proofs.Y
/- ExprNormal: its law. -/
namespace Go.Proofs.Y
open Go Go.Vc Go.Dig
attribute [local irreducible] Vc.Fn
end Go.Proofs.Y
/- ExprPrints: its law. -/
namespace Go.Proofs.Y
open Go Go.Vc Go.Dig
attribute [local irreducible] Vc.Fn
end Go.Proofs.Y