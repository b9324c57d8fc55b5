/- Maps of the call's own; decimal texts of small ints; names of functions; levels. -/
import Derived.Test.YtblecjeceecaaaaGreatDoorE21
import Derived.MapKept
import Derived.Carry
import Derived.Test.YtblecjeceecaaaaGreatDoorSh
import Derived.Lib.AppendIntMem
set_option linter.all false
set_option maxRecDepth 20000
namespace Go.Vc
open Go Go.Dig
theorem Ext.makeMap{T:Tab}{t:TypeId}{h:aA}{L:Own}{k:Value->aA->Own->Prop}(hk:∀b,k (.map (some b)) h ((b,.map #[] 0)::L)):Ext T (.makeMap t none) [] [] h L k:=by
 refine⟨fun ok o ρ K Q w0 h0' L0 w hop hargs inv hout hP hK=>.inl ?_⟩
 refine bU (v:=.map (some w.heap.size)) (w':=w.alloc (.map #[] 0)) ?_ (hK _ _ _ _ (inv.alloc _ rfl) (hk _));simp only[execOp,hop,bMu];rw[bJy,RowKit.run_makeMap]
 rfl
theorem aAj{w:World}{b:Nat}{es:Array MapEntry}{clock:Nat}(o:Obj)(hb:w.heap[b]?=some (.map es clock)):Upd w b o { w with heap:=w.heap.setIfInBounds b o }:=
 ⟨(MapKept.heap_set hb).1,fun x hx=>(MapKept.heap_set hb).2 x hx,by simp,rfl,rfl,rfl,rfl⟩
theorem Ext.mapNew{T:Tab}{op:Op}{t kt et:TypeId}{d:TypeDesc}{m kO vO:Operand}{key v:Value}{b:Nat}{es:Array MapEntry}{clock:Nat}{h:aA}{L:Own}{k:Value->aA->Own->Prop}(n:Nat)(hop:op=.insert t m kO vO\/op=.mapUpdate t m kO vO)
  (hL:L[n]?=some (b,.map es clock)) (hm:T.und t=some (.map kt et)) (hd:T.und kt=some d) (hkey:MapKept.IsKey d key) (hf:Instr.findNow d key es.toList 0=some none)
  (hk:k undef h (L.set n (b,.map (es.push { key:=key,val:=v,born:=clock }) (clock+1)))):Ext T op [m,kO,vO] [.map (some b),key,v] h L k:=by
 refine⟨fun ok o ρ K Q w0 h0' L0 w hop' hargs inv hout hP hK=>.inl ?_⟩
 simp only[bJw,bK4,List.cons.injEq,and_true] at hargs;obtain⟨a1,a2,a3⟩:=hargs;have hg:w.heap[b]?=some (.map es clock):=inv.own _ (bIu hL);have hr:(Instr.mapUpdate t (.map (some b)) key v).run T.prog w=.ok () { w with heap:=w.heap.setIfInBounds b (.map (es.push { key:=key,val:=v,born:=clock }) (clock+1)) }:=by
  simp[Instr.mapUpdate,run_underlying (ok.und _ _ hm),MapKept.run_getObj_map hg,MapKept.run_checkKey (ok.und _ _ hd) hkey false 9999,MapKept.run_findKey (ok.und _ _ hd) hf,MapKept.run_setObj_map _ hg,Result.andThen]
 refine sC (w':=_) ?_ (hK undef _ _ _ (inv.upd hL (aAj _ hg)) hk);rcases hop with rfl|rfl <;>
 .simp only[execOp,hop',a1,a2,a3,bJy,hr]
  rfl
theorem Ext.mapGet{T:Tab}{t kt et:TypeId}{d:TypeDesc}{m kO:Operand}{key v:Value}{b i:Nat}{es:Array MapEntry}{clock:Nat}{h:aA}{L:Own}{k:Value->aA->Own->Prop}(n:Nat)
  (hL:L[n]?=some (b,.map es clock)) (hm:T.und t=some (.map kt et)) (hd:T.und kt=some d) (hkey:MapKept.IsKey d key) (hf:Instr.findNow d key es.toList 0=some (some (i,v)))
  (hk:k v h L):Ext T (.lookup t m kO false) [m,kO] [.map (some b),key] h L k:=by
 refine⟨fun ok o ρ K Q w0 h0' L0 w hop' hargs inv hout hP hK=>.inl ?_⟩
 simp only[bJw,bK4,List.cons.injEq,and_true] at hargs;obtain⟨a1,a2⟩:=hargs;have hg:w.heap[b]?=some (.map es clock):=inv.own _ (bIu hL);have hr:(Instr.lookup t (.map (some b)) key false).run T.prog w=.ok v w:=by
  have hck:=MapKept.run_checkKey (P:=T.prog) (w:=w) (ok.und _ _ hd) hkey es.isEmpty 9999;simp[Instr.lookup,run_underlying (ok.und _ _ hm),MapKept.run_getObj_map hg,hck,MapKept.run_findKey (ok.und _ _ hd) hf,Result.andThen]
 refine bU (w':=w) (v:=v) ?_ (hK _ _ _ _ inv hk);simp only[execOp,hop',a1,a2,bJy,hr]
 rfl
end Go.Vc
namespace Go.Proofs.Y
open Go Go.Vc Go.Dig
def itT(n:Int):List Nat:=if n<0 then 45::bN n.natAbs else bN n.natAbs
theorem wW(n:Nat):Lib.decDigits n=(bN n).map UInt8.ofNat:=by
 induction n using Nat.strongRecOn with
 | ind n ih=>
  rw[Lib.decDigits];by_cases h:n<10
  .rw[dif_pos h];unfold bN;by_cases h0:n=0
   .subst h0;rfl
   .rw[if_neg h0,iQ fG h0,bJ3 h,bKh h,dO]
    rfl
  .rw[dif_neg h,ih (n / 10) Aa];unfold bN;rw[if_neg (show ¬n / 10=0 by omega),if_neg (show ¬n=0 by omega)]
   conv=>rhs;rw[iQ fG (show n≠0 by omega)]
   simp
theorem aZ0(n:Int):(⟨(Lib.itoa n).toArray⟩:ByteArray)=txt (itT n):=by
 unfold Lib.itoa itT txt
 split
 .rw[wW];rfl
 .rw[wW,show n.toNat=n.natAbs by omega]
def Pw(h : aA) : Prop := ∀ L w, Sat h L w -> Lib.TabIs T.prog w "internal/strconv.uint64pow10" .u64 Lib.pow10Tab
theorem Pw.mono{h h':aA}(p:Pw h)(hl:h.le h'):Pw h':=fun L w s=>p L w ⟨fun b o hb=>s.imm _ _ (hl _ _ hb),s.own,fun x hx=>by
  cases e:h x.1 with
  | none=>rfl
  | some o=>exact absurd ((s.sep x hx).symm.trans (hl _ _ e)) Aq,s.nd⟩
theorem Inv.below{w w':World}{h:aA}(s:Sat h [] w)(b:RowKit.Below w.heap.size w w'):Inv w h [] h [] w' where
 imm x o hx:=by
  have:=s.lt_imm hx;rw[b.block _ this];exact s.imm _ _ hx
 own:=by simp
 sep:=by simp
 nd:=by simp
 os:=b.os
 tape:=b.tape
 output:=b.output
 size:=b.size
 fr x hx _:=b.block x hx
 hle:=aA.lr _
 hnew _ _ x _ _:=x
 lnew:=by simp
 lsoft:=by simp
 frz _ _ _ _ _:=rfl
theorem aOj(h:aA)(pw:Pw h)(n:Int)(h0:-9223372036854775808<=n)(h1:n<=9223372036854775807):Fn0 T F.q208 [.int .i64 n] h fun v h'=>h'=h/\v=.string (txt (itT n)):=by
 refine Fn0.make fun w s=>(Tryz.strconv_Itoa n h0 h1 w (pw _ _ s)).mono fun e w' he=>?_
 obtain⟨rfl,k,os,rfl⟩:=he;exact⟨h,[],Inv.below s (Lib.below_grow _ w (bJf _) k os),rfl,rfl,by rw[aZ0]⟩
def aT(op:Int):Int:=if op=5\/op=6 then 1 else if op=7\/op=8 then 2 else if op=4 then 3 else if op=9 then 4 else 5
theorem aI7(h:aA)(op:Int):Fn0 T F.q253 [.int .i64 op] h fun v h'=>h'=h/\v=.int .i64 (aT op):=by
 have k0:op=5\/op=6->aT op=1:=fun x=>if_pos x
 have k1:op=7\/op=8->aT op=2:=fun x=>by unfold aT;rw[if_neg Aa,if_pos x]
 have k2:op=4->aT op=3:=fun x=>by unfold aT;rw[if_neg Aa,if_neg Aa,if_pos x]
 have k3:op=9->aT op=4:=fun x=>by unfold aT;rw[if_neg Aa,if_neg Aa,if_neg Aa,if_pos x]
 have k4:op≠5->op≠6->op≠7->op≠8->op≠4->op≠9->aT op=5:=fun a b c d e f=>by unfold aT;rw[if_neg Aa,if_neg Aa,if_neg Aa,if_neg Aa]
 obtain⟨K,hK⟩:=AH (aT op);rw[<-hK] at k0 k1 k2 k3 k4 ⊢;replace k0:=Hq.mk k0;replace k1:=Hq.mk k1;replace k2:=Hq.mk k2;replace k3:=Hq.mk k3;replace k4:=Hq.mk k4;refine f0C ok D.q253 rfl ?_;conv=>whnf
 repeat' ((first|(apply bJ.go)|((first|apply oI.z|apply cI.z))|(apply aD<;>intro _<;>try (exfalso;omega)))<;>conv=>whnf)
 all_goals first
  | (rw[k0.out Aa];exact RN.a ⟨rfl,rfl⟩)
  | (rw[k1.out Aa];exact RN.a ⟨rfl,rfl⟩)
  | (rw[k2.out Aa];exact RN.a ⟨rfl,rfl⟩)
  | (rw[k3.out Aa];exact RN.a ⟨rfl,rfl⟩)
  | (rw[k4.out Aa Aa Aa Aa Aa Aa];exact RN.a ⟨rfl,rfl⟩)
theorem aZ1(h:aA)(n:Nat)(h1:1<=n)(h8:n<=8):Fn0 T F.q273 [.int .i64 n] h fun v h'=>v=.string (txt (aW.getD (n-1) [])):=by
 have hl:aW.length=8:=rfl;refine f0C ok D.q273 rfl ?_;conv=>whnf
 repeat' ((first|(show CN _ _ _ _ _ _;(refine CN.f rfl (aI0 _) (fun v h' hl2 hr=>?_);obtain⟨s,rfl,hst⟩:=hr))|(show Idx _ _ _ _ _;refine Idx.strs hst (n-1) Aa Aa (fun ad had=>?_))|(show Ld _ _ _ _;refine Ld.of (had _) ?_)|((first|apply oI.z|apply cI.z))|refine WN.i64 Aa Aa ?_|(apply aB<;>intro _<;>try (exfalso;omega)))<;>conv=>whnf)
 exact RN.a rfl
def aN(x:List Nat × Int)(low:Int):List Nat:=if low<=x.2 then x.1 else [40]++x.1++[41]
def bR:Bool->List (List Nat × Int)->List Nat
 | _,[]=>[]
 | true,x::r=>x.1++bR false r
 | false,x::r=>[44,32]++x.1++bR false r
def kJ(op:Int):List Nat:=if op=5 then [32,43,32] else if op=6 then [32,45,32] else if op=7 then [32,42,32] else [32,47,32]
def dR(op arg:Int):List Nat:=
 if op=10 then (if arg=2 then [115,113,114,116,40] else [114,111,111,116,40]++itT arg++[44,32])
 else if op=11 then aW.getD (arg.toNat-1) []++[40]
 else if op=12 then [97,98,115,40] else if op=13 then [109,105,110,40] else if op=14 then [109,97,120,40] else if op=15 then [105,102,40] else []
def rT(op arg:Int)(q:Rat)(name:List Nat)(xs:List (List Nat × Int)):List Nat:=
 if op=1 then jB q else if op=2 then name else if op=3 then [112,105]
 else if op=4 then [45]++aN (xs.getD 0 ([],0)) 3
 else if op=5\/op=6 then aN (xs.getD 0 ([],0)) 1++kJ op++aN (xs.getD 1 ([],0)) 2
 else if op=7\/op=8 then aN (xs.getD 0 ([],0)) 2++kJ op++aN (xs.getD 1 ([],0)) 3
 else if op=9 then aN (xs.getD 0 ([],0)) 5++([94]++itT arg)
 else dR op arg++bR true xs++[41]
mutual
def aE:Tr->List Nat
 | .mk op arg neg l m name ks=>rT op arg (aK neg l m) name (aL ks)
def aL:List Tr->List (List Nat × Int)
 | []=>[]
 | t::ts=>(aE t,aT t.op)::aL ts
end
theorem fH{ks:List Tr}{j:Nat}{t:Tr}(h:ks[j]?=some t):(aL ks)[j]?=some (aE t,aT t.op):=by
 induction ks generalizing j with
 | nil=>simp at h
 | cons u ks ih=>
  rw[aL];cases j with
  | zero=>simp at h;subst h;rfl
  | succ j=>simpa using ih (by simpa using h)
theorem rF:∀ks:List Tr,(aL ks).length=ks.length
 | []=>by rw[aL];rfl
 | t::ks=>by rw[aL,bIs,bIs,rF ks]
/-! lengths and bytes -/
theorem pU(n:Nat):∀y∈bN n,y<256:=fun y hy=>by
 unfold bN at hy
 split at hy
 .simp at hy;omega
 .exact aOc n y (List.mem_reverse.1 hy)
theorem aEe(q:Rat):∀y∈jB q,y<256:=fun y hy=>by
 unfold jB at hy;rcases bIx.1 hy with hy|hy
 .split at hy
  .rcases bIx.1 hy with hy|hy
   .simp at hy;omega
   .exact pU _ y hy
  .exact pU _ y hy
 .split at hy
  .simp at hy
  .rcases bIx.1 hy with hy|hy
   .simp at hy;omega
   .exact pU _ y hy
theorem aBv(n:Int):∀y∈itT n,y<256:=fun y hy=>by
 unfold itT at hy
 split at hy
 .rcases bI7.1 hy with hy|hy
  .omega
  .exact pU _ y hy
 .exact pU _ y hy
theorem aOk(q:Rat):jB q≠[]:=by
 unfold jB
 split
 .simp
 .intro h;exact mP _ (List.append_eq_nil_iff.1 h).1
theorem tZ{n:Int}(h0:-100<=n)(h1:n<=100):(itT n).length<=4:=by
 have hd:(bN n.natAbs).length<=3:=by
  have:ln 10 n.natAbs<=3:=(aR fG).2 (by show n.natAbs<1000;omega);unfold bN
  split
  .simp
  .unfold ln at this;simp;omega
 unfold itT
 split
 .rw[bIs];omega
 .omega
theorem aUf{q:Rat}(h:Sz 64 q):(jB q).length<=1290:=by
 have h1:=pO h.num;have h2:=pO h.den;unfold jB;rw[bIo]
 split<;>split<;>simp only[bIo,bIs,bIv]<;>omega
theorem fI(x:List Nat × Int)(low:Int):(aN x low).length<=x.1.length+2:=by
 unfold aN
 split<;>simp
def pD:List (List Nat × Int)->Nat
 | []=>0
 | x::r=>x.1.length+pD r
theorem pV:∀(b:Bool) (xs:List (List Nat × Int)),(bR b xs).length<=pD xs+2*xs.length
 | true,[]=>by simp[bR]
 | false,[]=>by simp[bR]
 | true,x::r=>by have:=pV false r;simp only[bR,pD,bIo,bIs];omega
 | false,x::r=>by have:=pV false r;simp only[bR,pD,bIo,bIs,bIv];omega
theorem aUg:∀(xs:List (List Nat × Int)),(xs.getD 0 ([],0)).1.length+(xs.getD 1 ([],0)).1.length<=pD xs
 | []=>by simp[pD]
 | [x]=>by simp[pD]
 | x::y::r=>by simp only[pD,bM9,bMa];omega
theorem yN(n:Nat):(aW.getD n []).length<=4:=by
 by_cases h:n<8
 .have:∀k,k<8->(aW.getD k []).length<=4:=Ae
  exact this n h
 .rw[bIp,bJn (by show aW.length<=n;have:aW.length=8:=rfl;omega)];simp
theorem yO{op arg:Int}(h0:-100<=arg)(h1:arg<=100):(dR op arg).length<=20:=by
 have:=tZ h0 h1;have:=yN (arg.toNat-1);unfold dR
 repeat' split
 all_goals simp only[bIo,bIs,bIv]
 all_goals omega
theorem rG(op:Int):-32<=jC op/\eZ op<=32:=by
 unfold jC eZ;constructor<;>(repeat' split)<;>omega
theorem aQ8{op arg:Int}{neg:Bool}{l m name:List Nat}{n:Nat}(hb:fC op arg neg l m name n)(xs:List (List Nat × Int))(hn:xs.length=n):(rT op arg (aK neg l m) name xs).length<=1400+pD xs:=by
 have hlh:=rG op;have ha:=hb.2.1;have ha2:=hb.2.2.1;have hks:=fS op;have hk:=hb.1;have h0:=tZ (n:=arg) Aa Aa;have h1:=yO (op:=op) (arg:=arg) Aa Aa;have h2:=pV true xs;have h3:=aUg xs;have p0:=fI (xs.getD 0 ([],0));have p1:=fI (xs.getD 1 ([],0));have hs:(kJ op).length<=3:=by unfold kJ;(repeat' split)<;>simp
 unfold rT
 split
 .rename_i h;have:=hb.2.2.2.2;rw[if_pos h] at this;have:=aUf this.1.sz;omega
 split
 .rename_i h;have:=hb.2.2.2.1;rw[if_pos h] at this;have:=this.1;omega
 split
 .simp only[bIs,bIv];omega
 split
 .have:=p0 3;simp only[bIo,bIs,bIv];omega
 split
 .have:=p0 1;have:=p1 2;simp only[bIo,bIs,bIv];omega
 split
 .have:=p0 2;have:=p1 3;simp only[bIo,bIs,bIv];omega
 split
 .have:=p0 5;simp only[bIo,bIs,bIv];omega
 .simp only[bIo,bIs,bIv];omega
mutual
theorem mY:∀(t:Tr) (d:Nat),okT d t->(aE t).length<=1500*szT t
 | .mk op arg neg l m name ks,d,h=>by
  rw[okT] at h;have h1:=aQ8 h.2.1 (aL ks) (rF ks);have h2:=aBw ks (d+1) h.2.2;rw[aE,szT];omega
theorem aBw:∀(ks:List Tr) (d:Nat),dB d ks->pD (aL ks)<=1500*fO ks
 | [],d,_=>by rw[aL,pD];omega
 | t::ks,d,h=>by
  rw[dB] at h;have h1:=mY t d h.1;have h2:=aBw ks d h.2;rw[aL,pD,fO];simp only;omega
end
end Go.Proofs.Y