/- Maps of the call's own; decimal texts of small ints; names of functions; levels. -/
import Derived.Test.YtiohcpiloenmoaaGreatDoorE21
import Derived.MapKept
import Derived.Carry
import Derived.Test.YtiohcpiloenmoaaGreatDoorSh
import Derived.Lib.AppendIntMem
set_option linter.all false
set_option maxRecDepth 20000
namespace Go.Vc
open Go Go.Dig
theorem Ext.makeMap{T:Tab}{t:TypeId}{h:aA}{L:Own}{k:Value->aA->Own->Prop}(hk:∀b,k (.map (some b)) h ((b,.map #[] 0)::L)):Ext T (.makeMap t none) [] [] h L k:=by
 refine⟨fun ok o ρ K Q w0 h0' L0 w hop hargs inv hout hP hK=>.inl ?_⟩
 refine bA (v:=.map (some w.heap.size)) (w':=w.alloc (.map #[] 0)) ?_ (hK _ _ _ _ (inv.alloc _ rfl) (hk _));simp only[execOp,hop,bCq];rw[bAc,RowKit.run_makeMap]
 rfl
theorem vM{w:World}{b:Nat}{es:Array MapEntry}{clock:Nat}(o:Obj)(hb:w.heap[b]?=some (.map es clock)):Upd w b o { w with heap:=w.heap.setIfInBounds b o }:=
 ⟨(MapKept.heap_set hb).1,fun x hx=>(MapKept.heap_set hb).2 x hx,by simp,rfl,rfl,rfl,rfl⟩
theorem Ext.mapNew{T:Tab}{op:Op}{t kt et:TypeId}{d:TypeDesc}{m kO vO:Operand}{key v:Value}{b:Nat}{es:Array MapEntry}{clock:Nat}{h:aA}{L:Own}{k:Value->aA->Own->Prop}(n:Nat)(hop:op=.insert t m kO vO\/op=.mapUpdate t m kO vO)
  (hL:L[n]?=some (b,.map es clock)) (hm:T.und t=some (.map kt et)) (hd:T.und kt=some d) (hkey:MapKept.IsKey d key) (hf:Instr.findNow d key es.toList 0=some none)
  (hk:k undef h (L.set n (b,.map (es.push { key:=key,val:=v,born:=clock }) (clock+1)))):Ext T op [m,kO,vO] [.map (some b),key,v] h L k:=by
 refine⟨fun ok o ρ K Q w0 h0' L0 w hop' hargs inv hout hP hK=>.inl ?_⟩
 simp only[bAa,bBd,List.cons.injEq,and_true] at hargs;obtain⟨a1,a2,a3⟩:=hargs;have hg:w.heap[b]?=some (.map es clock):=inv.own _ (aY8 hL);have hr:(Instr.mapUpdate t (.map (some b)) key v).run T.prog w=.ok () { w with heap:=w.heap.setIfInBounds b (.map (es.push { key:=key,val:=v,born:=clock }) (clock+1)) }:=by
  simp[Instr.mapUpdate,run_underlying (ok.und _ _ hm),MapKept.run_getObj_map hg,MapKept.run_checkKey (ok.und _ _ hd) hkey false 9999,MapKept.run_findKey (ok.und _ _ hd) hf,MapKept.run_setObj_map _ hg,Result.andThen]
 refine oZ (w':=_) ?_ (hK undef _ _ _ (inv.upd hL (vM _ hg)) hk);rcases hop with rfl|rfl <;>
 .simp only[execOp,hop',a1,a2,a3,bAc,hr]
  rfl
theorem Ext.mapGet{T:Tab}{t kt et:TypeId}{d:TypeDesc}{m kO:Operand}{key v:Value}{b i:Nat}{es:Array MapEntry}{clock:Nat}{h:aA}{L:Own}{k:Value->aA->Own->Prop}(n:Nat)
  (hL:L[n]?=some (b,.map es clock)) (hm:T.und t=some (.map kt et)) (hd:T.und kt=some d) (hkey:MapKept.IsKey d key) (hf:Instr.findNow d key es.toList 0=some (some (i,v)))
  (hk:k v h L):Ext T (.lookup t m kO false) [m,kO] [.map (some b),key] h L k:=by
 refine⟨fun ok o ρ K Q w0 h0' L0 w hop' hargs inv hout hP hK=>.inl ?_⟩
 simp only[bAa,bBd,List.cons.injEq,and_true] at hargs;obtain⟨a1,a2⟩:=hargs;have hg:w.heap[b]?=some (.map es clock):=inv.own _ (aY8 hL);have hr:(Instr.lookup t (.map (some b)) key false).run T.prog w=.ok v w:=by
  have hck:=MapKept.run_checkKey (P:=T.prog) (w:=w) (ok.und _ _ hd) hkey es.isEmpty 9999;simp[Instr.lookup,run_underlying (ok.und _ _ hm),MapKept.run_getObj_map hg,hck,MapKept.run_findKey (ok.und _ _ hd) hf,Result.andThen]
 refine bA (w':=w) (v:=v) ?_ (hK _ _ _ _ inv hk);simp only[execOp,hop',a1,a2,bAc,hr]
 rfl
end Go.Vc
namespace Go.Proofs.Y
open Go Go.Vc Go.Dig
def itT(n:Int):List Nat:=if n<0 then 45::kP n.natAbs else kP n.natAbs
theorem sK(n:Nat):Lib.decDigits n=(kP n).map UInt8.ofNat:=by
 induction n using Nat.strongRecOn with
 | ind n ih=>
  rw[Lib.decDigits];by_cases h:n<10
  .rw[dif_pos h];unfold kP;by_cases h0:n=0
   .subst h0;rfl
   .rw[if_neg h0,gJ iA h0,bAm h,bAu h,cH]
    rfl
  .rw[dif_neg h,ih (n / 10) Aa];unfold kP;rw[if_neg (show ¬n / 10=0 by omega),if_neg (show ¬n=0 by omega)]
   conv=>rhs;rw[gJ iA (show n≠0 by omega)]
   simp
theorem aSc(n:Int):(⟨(Lib.itoa n).toArray⟩:ByteArray)=txt (itT n):=by
 unfold Lib.itoa itT txt
 split
 .rw[sK];rfl
 .rw[sK,show n.toNat=n.natAbs by omega]
def Pw(h : aA) : Prop := ∀ L w, Sat h L w -> Lib.TabIs T.prog w "internal/strconv.uint64pow10" .u64 Lib.pow10Tab
theorem Pw.mono{h h':aA}(p:Pw h)(hl:h.le h'):Pw h':=fun L w s=>p L w ⟨fun b o hb=>s.imm _ _ (hl _ _ hb),s.own,fun x hx=>by
  cases e:h x.1 with
  | none=>rfl
  | some o=>exact absurd ((s.sep x hx).symm.trans (hl _ _ e)) Ar,s.nd⟩
theorem Inv.below{w w':World}{h:aA}(s:Sat h [] w)(b:RowKit.Below w.heap.size w w'):Inv w h [] h [] w' where
 imm x o hx:=by
  have:=s.lt_imm hx;rw[b.block _ this];exact s.imm _ _ hx
 own:=by simp
 sep:=by simp
 nd:=by simp
 os:=b.os
 tape:=b.tape
 output:=b.output
 size:=b.size
 fr x hx _:=b.block x hx
 hle:=aA.lr _
 hnew _ _ x _ _:=x
 lnew:=by simp
 lsoft:=by simp
 frz _ _ _ _ _:=rfl
theorem aH9(h:aA)(pw:Pw h)(n:Int)(h0:-9223372036854775808<=n)(h1:n<=9223372036854775807):Fn0 T F.q122 [.int .i64 n] h fun v h'=>h'=h/\v=.string (txt (itT n)):=by
 refine Fn0.make fun w s=>(Tryz.strconv_Itoa n h0 h1 w (pw _ _ s)).mono fun e w' he=>?_
 obtain⟨rfl,k,os,rfl⟩:=he;exact⟨h,[],Inv.below s (Lib.below_grow _ w (aZt _) k os),rfl,rfl,by rw[aSc]⟩
def cX(op:Int):Int:=if op=5\/op=6 then 1 else if op=7\/op=8 then 2 else if op=4 then 3 else if op=9 then 4 else 5
theorem aD7(h:aA)(op:Int):Fn0 T F.q172 [.int .i64 op] h fun v h'=>h'=h/\v=.int .i64 (cX op):=by
 have k0:op=5\/op=6->cX op=1:=fun x=>if_pos x
 have k1:op=7\/op=8->cX op=2:=fun x=>by unfold cX;rw[if_neg Aa,if_pos x]
 have k2:op=4->cX op=3:=fun x=>by unfold cX;rw[if_neg Aa,if_neg Aa,if_pos x]
 have k3:op=9->cX op=4:=fun x=>by unfold cX;rw[if_neg Aa,if_neg Aa,if_neg Aa,if_pos x]
 have k4:op≠5->op≠6->op≠7->op≠8->op≠4->op≠9->cX op=5:=fun a b c d e f=>by unfold cX;rw[if_neg Aa,if_neg Aa,if_neg Aa,if_neg Aa]
 obtain⟨K,hK⟩:=AE (cX op);rw[<-hK] at k0 k1 k2 k3 k4 ⊢;replace k0:=Hq.mk k0;replace k1:=Hq.mk k1;replace k2:=Hq.mk k2;replace k3:=Hq.mk k3;replace k4:=Hq.mk k4;refine f0C ok D.q172 rfl ?_;conv=>whnf
 repeat' ((first|(apply aO.go)|((first|apply oI.z|apply cI.z))|(apply aD<;>intro _<;>try (exfalso;omega)))<;>conv=>whnf)
 all_goals first
  | (rw[k0.out Aa];exact RN.a ⟨rfl,rfl⟩)
  | (rw[k1.out Aa];exact RN.a ⟨rfl,rfl⟩)
  | (rw[k2.out Aa];exact RN.a ⟨rfl,rfl⟩)
  | (rw[k3.out Aa];exact RN.a ⟨rfl,rfl⟩)
  | (rw[k4.out Aa Aa Aa Aa Aa Aa];exact RN.a ⟨rfl,rfl⟩)
theorem aSd(h:aA)(n:Nat)(h1:1<=n)(h8:n<=8):Fn0 T F.q176 [.int .i64 n] h fun v h'=>v=.string (txt (bI.getD (n-1) [])):=by
 have hl:bI.length=8:=rfl;refine f0C ok D.q176 rfl ?_;conv=>whnf
 repeat' ((first|(show CN _ _ _ _ _ _;(refine CN.f rfl (aDy _) (fun v h' hl2 hr=>?_);obtain⟨s,rfl,hst⟩:=hr))|(show Idx _ _ _ _ _;refine Idx.strs hst (n-1) Aa Aa (fun ad had=>?_))|(show Ld _ _ _ _;refine Ld.of (had _) ?_)|((first|apply oI.z|apply cI.z))|refine WN.i64 Aa Aa ?_|(apply aB<;>intro _<;>try (exfalso;omega)))<;>conv=>whnf)
 exact RN.a rfl
def bG(x:List Nat × Int)(low:Int):List Nat:=if low<=x.2 then x.1 else [40]++x.1++[41]
def cF:Bool->List (List Nat × Int)->List Nat
 | _,[]=>[]
 | true,x::r=>x.1++cF false r
 | false,x::r=>[44,32]++x.1++cF false r
def lH(op:Int):List Nat:=if op=5 then [32,43,32] else if op=6 then [32,45,32] else if op=7 then [32,42,32] else [32,47,32]
def gA(op arg:Int):List Nat:=
 if op=10 then (if arg=2 then [115,113,114,116,40] else [114,111,111,116,40]++itT arg++[44,32])
 else if op=11 then bI.getD (arg.toNat-1) []++[40]
 else if op=12 then [97,98,115,40] else if op=13 then [109,105,110,40] else if op=14 then [109,97,120,40] else if op=15 then [105,102,40] else []
def uP(op arg:Int)(q:Rat)(name:List Nat)(xs:List (List Nat × Int)):List Nat:=
 if op=1 then rH q else if op=2 then name else if op=3 then [112,105]
 else if op=4 then [45]++bG (xs.getD 0 ([],0)) 3
 else if op=5\/op=6 then bG (xs.getD 0 ([],0)) 1++lH op++bG (xs.getD 1 ([],0)) 2
 else if op=7\/op=8 then bG (xs.getD 0 ([],0)) 2++lH op++bG (xs.getD 1 ([],0)) 3
 else if op=9 then bG (xs.getD 0 ([],0)) 5++([94]++itT arg)
 else gA op arg++cF true xs++[41]
mutual
def aM:Tr->List Nat
 | .mk op arg neg l m name ks=>uP op arg (aK neg l m) name (aU ks)
def aU:List Tr->List (List Nat × Int)
 | []=>[]
 | t::ts=>(aM t,cX t.op)::aU ts
end
theorem eI{ks:List Tr}{j:Nat}{t:Tr}(h:ks[j]?=some t):(aU ks)[j]?=some (aM t,cX t.op):=by
 induction ks generalizing j with
 | nil=>simp at h
 | cons u ks ih=>
  rw[aU];cases j with
  | zero=>simp at h;subst h;rfl
  | succ j=>simpa using ih (by simpa using h)
theorem rJ:∀ks:List Tr,(aU ks).length=ks.length
 | []=>by rw[aU];rfl
 | t::ks=>by rw[aU,aY6,aY6,rJ ks]
/-! lengths and bytes -/
theorem nD(n:Nat):∀y∈kP n,y<256:=fun y hy=>by
 unfold kP at hy
 split at hy
 .simp at hy;omega
 .exact aHz n y (List.mem_reverse.1 hy)
theorem aAc(q:Rat):∀y∈rH q,y<256:=fun y hy=>by
 unfold rH at hy;rcases aZb.1 hy with hy|hy
 .split at hy
  .rcases aZb.1 hy with hy|hy
   .simp at hy;omega
   .exact nD _ y hy
  .exact nD _ y hy
 .split at hy
  .simp at hy
  .rcases aZb.1 hy with hy|hy
   .simp at hy;omega
   .exact nD _ y hy
theorem xF(n:Int):∀y∈itT n,y<256:=fun y hy=>by
 unfold itT at hy
 split at hy
 .rcases aZl.1 hy with hy|hy
  .omega
  .exact nD _ y hy
 .exact nD _ y hy
theorem aIa(q:Rat):rH q≠[]:=by
 unfold rH
 split
 .simp
 .intro h;exact aRv _ (List.append_eq_nil_iff.1 h).1
theorem vN{n:Int}(h0:-100<=n)(h1:n<=100):(itT n).length<=4:=by
 have hd:(kP n.natAbs).length<=3:=by
  have:ln 10 n.natAbs<=3:=(aQ iA).2 (by show n.natAbs<1000;omega);unfold kP
  split
  .simp
  .unfold ln at this;simp;omega
 unfold itT
 split
 .rw[aY6];omega
 .omega
theorem aN3{q:Rat}(h:Sz 64 q):(rH q).length<=1290:=by
 have h1:=sB h.num;have h2:=sB h.den;unfold rH;rw[aY2]
 split<;>split<;>simp only[aY2,aY6,aY9]<;>omega
theorem xG(x:List Nat × Int)(low:Int):(bG x low).length<=x.1.length+2:=by
 unfold bG
 split<;>simp
def mL:List (List Nat × Int)->Nat
 | []=>0
 | x::r=>x.1.length+mL r
theorem qN:∀(b:Bool) (xs:List (List Nat × Int)),(cF b xs).length<=mL xs+2*xs.length
 | true,[]=>by simp[cF]
 | false,[]=>by simp[cF]
 | true,x::r=>by have:=qN false r;simp only[cF,mL,aY2,aY6];omega
 | false,x::r=>by have:=qN false r;simp only[cF,mL,aY2,aY6,aY9];omega
theorem aN4:∀(xs:List (List Nat × Int)),(xs.getD 0 ([],0)).1.length+(xs.getD 1 ([],0)).1.length<=mL xs
 | []=>by simp[mL]
 | [x]=>by simp[mL]
 | x::y::r=>by simp only[mL,bC1,bB7];omega
theorem aAd(n:Nat):(bI.getD n []).length<=4:=by
 by_cases h:n<8
 .have:∀k,k<8->(bI.getD k []).length<=4:=Ag
  exact this n h
 .rw[aY3,aZ1 (by show bI.length<=n;have:bI.length=8:=rfl;omega)];simp
theorem aAe{op arg:Int}(h0:-100<=arg)(h1:arg<=100):(gA op arg).length<=20:=by
 have:=vN h0 h1;have:=aAd (arg.toNat-1);unfold gA
 repeat' split
 all_goals simp only[aY2,aY6,aY9]
 all_goals omega
theorem oD(op:Int):-32<=jO op/\fJ op<=32:=by
 unfold jO fJ;constructor<;>(repeat' split)<;>omega
theorem aKi{op arg:Int}{neg:Bool}{l m name:List Nat}{n:Nat}(hb:dW op arg neg l m name n)(xs:List (List Nat × Int))(hn:xs.length=n):(uP op arg (aK neg l m) name xs).length<=1400+mL xs:=by
 have hlh:=oD op;have ha:=hb.2.1;have ha2:=hb.2.2.1;have hks:=cR op;have hk:=hb.1;have h0:=vN (n:=arg) Aa Aa;have h1:=aAe (op:=op) (arg:=arg) Aa Aa;have h2:=qN true xs;have h3:=aN4 xs;have p0:=xG (xs.getD 0 ([],0));have p1:=xG (xs.getD 1 ([],0));have hs:(lH op).length<=3:=by unfold lH;(repeat' split)<;>simp
 unfold uP
 split
 .rename_i h;have:=hb.2.2.2.2;rw[if_pos h] at this;have:=aN3 this.1.sz;omega
 split
 .rename_i h;have:=hb.2.2.2.1;rw[if_pos h] at this;have:=this.1;omega
 split
 .simp only[aY6,aY9];omega
 split
 .have:=p0 3;simp only[aY2,aY6,aY9];omega
 split
 .have:=p0 1;have:=p1 2;simp only[aY2,aY6,aY9];omega
 split
 .have:=p0 2;have:=p1 3;simp only[aY2,aY6,aY9];omega
 split
 .have:=p0 5;simp only[aY2,aY6,aY9];omega
 .simp only[aY2,aY6,aY9];omega
mutual
theorem aAf:∀(t:Tr) (d:Nat),okT d t->(aM t).length<=1500*szT t
 | .mk op arg neg l m name ks,d,h=>by
  rw[okT] at h;have h1:=aKi h.2.1 (aU ks) (rJ ks);have h2:=xH ks (d+1) h.2.2;rw[aM,szT];omega
theorem xH:∀(ks:List Tr) (d:Nat),bZ d ks->mL (aU ks)<=1500*dA ks
 | [],d,_=>by rw[aU,mL];omega
 | t::ks,d,h=>by
  rw[bZ] at h;have h1:=aAf t d h.1;have h2:=xH ks d h.2;rw[aU,mL,dA];simp only;omega
end
end Go.Proofs.Y