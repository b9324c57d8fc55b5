/- Maps of the call's own; decimal texts of small ints; names of functions; levels. -/
import Derived.Test.YtdccpmlhflpeaaaGreatDoorE21
import Derived.MapKept
import Derived.Carry
import Derived.Test.YtdccpmlhflpeaaaGreatDoorSh
import Derived.Lib.AppendIntMem
set_option linter.all false
set_option maxRecDepth 20000
namespace Go.Vc
open Go Go.Dig
theorem Ext.makeMap{T:Tab}{t:TypeId}{h:aA}{L:Own}{k:Value->aA->Own->Prop}(hk:∀b,k (.map (some b)) h ((b,.map #[] 0)::L)):Ext T (.makeMap t none) [] [] h L k:=by
 refine⟨fun ok o ρ K Q w0 h0' L0 w hop hargs inv hout hP hK=>.inl ?_⟩
 refine aX (v:=.map (some w.heap.size)) (w':=w.alloc (.map #[] 0)) ?_ (hK _ _ _ _ (inv.alloc _ rfl) (hk _));simp only[execOp,hop,bG6];rw[bEg,RowKit.run_makeMap]
 rfl
theorem xU{w:World}{b:Nat}{es:Array MapEntry}{clock:Nat}(o:Obj)(hb:w.heap[b]?=some (.map es clock)):Upd w b o { w with heap:=w.heap.setIfInBounds b o }:=
 ⟨(MapKept.heap_set hb).1,fun x hx=>(MapKept.heap_set hb).2 x hx,by simp,rfl,rfl,rfl,rfl⟩
theorem Ext.mapNew{T:Tab}{op:Op}{t kt et:TypeId}{d:TypeDesc}{m kO vO:Operand}{key v:Value}{b:Nat}{es:Array MapEntry}{clock:Nat}{h:aA}{L:Own}{k:Value->aA->Own->Prop}(n:Nat)(hop:op=.insert t m kO vO\/op=.mapUpdate t m kO vO)
  (hL:L[n]?=some (b,.map es clock)) (hm:T.und t=some (.map kt et)) (hd:T.und kt=some d) (hkey:MapKept.IsKey d key) (hf:Instr.findNow d key es.toList 0=some none)
  (hk:k undef h (L.set n (b,.map (es.push { key:=key,val:=v,born:=clock }) (clock+1)))):Ext T op [m,kO,vO] [.map (some b),key,v] h L k:=by
 refine⟨fun ok o ρ K Q w0 h0' L0 w hop' hargs inv hout hP hK=>.inl ?_⟩
 simp only[bEe,bFd,List.cons.injEq,and_true] at hargs;obtain⟨a1,a2,a3⟩:=hargs;have hg:w.heap[b]?=some (.map es clock):=inv.own _ (bDc hL);have hr:(Instr.mapUpdate t (.map (some b)) key v).run T.prog w=.ok () { w with heap:=w.heap.setIfInBounds b (.map (es.push { key:=key,val:=v,born:=clock }) (clock+1)) }:=by
  simp[Instr.mapUpdate,run_underlying (ok.und _ _ hm),MapKept.run_getObj_map hg,MapKept.run_checkKey (ok.und _ _ hd) hkey false 9999,MapKept.run_findKey (ok.und _ _ hd) hf,MapKept.run_setObj_map _ hg,Result.andThen]
 refine qO (w':=_) ?_ (hK undef _ _ _ (inv.upd hL (xU _ hg)) hk);rcases hop with rfl|rfl <;>
 .simp only[execOp,hop',a1,a2,a3,bEg,hr]
  rfl
theorem Ext.mapGet{T:Tab}{t kt et:TypeId}{d:TypeDesc}{m kO:Operand}{key v:Value}{b i:Nat}{es:Array MapEntry}{clock:Nat}{h:aA}{L:Own}{k:Value->aA->Own->Prop}(n:Nat)
  (hL:L[n]?=some (b,.map es clock)) (hm:T.und t=some (.map kt et)) (hd:T.und kt=some d) (hkey:MapKept.IsKey d key) (hf:Instr.findNow d key es.toList 0=some (some (i,v)))
  (hk:k v h L):Ext T (.lookup t m kO false) [m,kO] [.map (some b),key] h L k:=by
 refine⟨fun ok o ρ K Q w0 h0' L0 w hop' hargs inv hout hP hK=>.inl ?_⟩
 simp only[bEe,bFd,List.cons.injEq,and_true] at hargs;obtain⟨a1,a2⟩:=hargs;have hg:w.heap[b]?=some (.map es clock):=inv.own _ (bDc hL);have hr:(Instr.lookup t (.map (some b)) key false).run T.prog w=.ok v w:=by
  have hck:=MapKept.run_checkKey (P:=T.prog) (w:=w) (ok.und _ _ hd) hkey es.isEmpty 9999;simp[Instr.lookup,run_underlying (ok.und _ _ hm),MapKept.run_getObj_map hg,hck,MapKept.run_findKey (ok.und _ _ hd) hf,Result.andThen]
 refine aX (w':=w) (v:=v) ?_ (hK _ _ _ _ inv hk);simp only[execOp,hop',a1,a2,bEg,hr]
 rfl
end Go.Vc
namespace Go.Proofs.Y
open Go Go.Vc Go.Dig
def itT(n:Int):List Nat:=if n<0 then 45::aY n.natAbs else aY n.natAbs
theorem uL(n:Nat):Lib.decDigits n=(aY n).map UInt8.ofNat:=by
 induction n using Nat.strongRecOn with
 | ind n ih=>
  rw[Lib.decDigits];by_cases h:n<10
  .rw[dif_pos h];unfold aY;by_cases h0:n=0
   .subst h0;rfl
   .rw[if_neg h0,gT fI h0,bEl h,bEx h,cM]
    rfl
  .rw[dif_neg h,ih (n / 10) Aa];unfold aY;rw[if_neg (show ¬n / 10=0 by omega),if_neg (show ¬n=0 by omega)]
   conv=>rhs;rw[gT fI (show n≠0 by omega)]
   simp
theorem aVt(n:Int):(⟨(Lib.itoa n).toArray⟩:ByteArray)=txt (itT n):=by
 unfold Lib.itoa itT txt
 split
 .rw[uL];rfl
 .rw[uL,show n.toNat=n.natAbs by omega]
def Pw(h : aA) : Prop := ∀ L w, Sat h L w -> Lib.TabIs T.prog w "internal/strconv.uint64pow10" .u64 Lib.pow10Tab
theorem Pw.mono{h h':aA}(p:Pw h)(hl:h.le h'):Pw h':=fun L w s=>p L w ⟨fun b o hb=>s.imm _ _ (hl _ _ hb),s.own,fun x hx=>by
  cases e:h x.1 with
  | none=>rfl
  | some o=>exact absurd ((s.sep x hx).symm.trans (hl _ _ e)) Ao,s.nd⟩
theorem Inv.below{w w':World}{h:aA}(s:Sat h [] w)(b:RowKit.Below w.heap.size w w'):Inv w h [] h [] w' where
 imm x o hx:=by
  have:=s.lt_imm hx;rw[b.block _ this];exact s.imm _ _ hx
 own:=by simp
 sep:=by simp
 nd:=by simp
 os:=b.os
 tape:=b.tape
 output:=b.output
 size:=b.size
 fr x hx _:=b.block x hx
 hle:=aA.lr _
 hnew _ _ x _ _:=x
 lnew:=by simp
 lsoft:=by simp
 frz _ _ _ _ _:=rfl
theorem aVu(h:aA)(pw:Pw h)(n:Int)(h0:-9223372036854775808<=n)(h1:n<=9223372036854775807):Fn0 T F.q123 [.int .i64 n] h fun v h'=>h'=h/\v=.string (txt (itT n)):=by
 refine Fn0.make fun w s=>(Tryz.strconv_Itoa n h0 h1 w (pw _ _ s)).mono fun e w' he=>?_
 obtain⟨rfl,k,os,rfl⟩:=he;exact⟨h,[],Inv.below s (Lib.below_grow _ w (bDx _) k os),rfl,rfl,by rw[aVt]⟩
def dB(op:Int):Int:=if op=5\/op=6 then 1 else if op=7\/op=8 then 2 else if op=4 then 3 else if op=9 then 4 else 5
theorem aQ6(h:aA)(op:Int):Fn0 T F.q180 [.int .i64 op] h fun v h'=>h'=h/\v=.int .i64 (dB op):=by
 have k0:op=5\/op=6->dB op=1:=fun x=>if_pos x
 have k1:op=7\/op=8->dB op=2:=fun x=>by unfold dB;rw[if_neg Aa,if_pos x]
 have k2:op=4->dB op=3:=fun x=>by unfold dB;rw[if_neg Aa,if_neg Aa,if_pos x]
 have k3:op=9->dB op=4:=fun x=>by unfold dB;rw[if_neg Aa,if_neg Aa,if_neg Aa,if_pos x]
 have k4:op≠5->op≠6->op≠7->op≠8->op≠4->op≠9->dB op=5:=fun a b c d e f=>by unfold dB;rw[if_neg Aa,if_neg Aa,if_neg Aa,if_neg Aa]
 obtain⟨K,hK⟩:=AB (dB op);rw[<-hK] at k0 k1 k2 k3 k4 ⊢;replace k0:=Hq.mk k0;replace k1:=Hq.mk k1;replace k2:=Hq.mk k2;replace k3:=Hq.mk k3;replace k4:=Hq.mk k4;refine f0C ok D.q180 rfl ?_;conv=>whnf
 repeat' ((first|(apply aQ.go)|((first|apply oI.z|apply cI.z))|(apply aD<;>intro _<;>try (exfalso;omega)))<;>conv=>whnf)
 all_goals first
  | (rw[k0.out Aa];exact RN.a ⟨rfl,rfl⟩)
  | (rw[k1.out Aa];exact RN.a ⟨rfl,rfl⟩)
  | (rw[k2.out Aa];exact RN.a ⟨rfl,rfl⟩)
  | (rw[k3.out Aa];exact RN.a ⟨rfl,rfl⟩)
  | (rw[k4.out Aa Aa Aa Aa Aa Aa];exact RN.a ⟨rfl,rfl⟩)
def bM(x:List Nat × Int)(low:Int):List Nat:=if low<=x.2 then x.1 else [40]++x.1++[41]
def jU(op:Int):List Nat:=if op=5 then [32,43,32] else if op=6 then [32,45,32] else [32,42,32]
def uM(op arg:Int)(q:Rat)(name:List Nat)(xs:List (List Nat × Int)):List Nat:=
 if op=1 then kA q else if op=2 then name
 else if op=4 then [45]++bM (xs.getD 0 ([],0)) 3
 else if op=5\/op=6 then bM (xs.getD 0 ([],0)) 1++jU op++bM (xs.getD 1 ([],0)) 2
 else if op=7 then bM (xs.getD 0 ([],0)) 2++jU op++bM (xs.getD 1 ([],0)) 3
 else bM (xs.getD 0 ([],0)) 5++([94]++itT arg)
mutual
def aK:Tr->List Nat
 | .mk op arg neg l m name ks=>uM op arg (aN neg l m) name (dC ks)
def dC:List Tr->List (List Nat × Int)
 | []=>[]
 | t::ts=>(aK t,dB t.op)::dC ts
end
theorem gW{ks:List Tr}{j:Nat}{t:Tr}(h:ks[j]?=some t):(dC ks)[j]?=some (aK t,dB t.op):=by
 induction ks generalizing j with
 | nil=>simp at h
 | cons u ks ih=>
  rw[dC];cases j with
  | zero=>simp at h;subst h;rfl
  | succ j=>simpa using ih (by simpa using h)
/-! lengths and bytes -/
theorem oO(n:Nat):∀y∈aY n,y<256:=fun y hy=>by
 unfold aY at hy
 split at hy
 .simp at hy;omega
 .exact aKx n y (List.mem_reverse.1 hy)
theorem aB7(q:Rat):∀y∈kA q,y<256:=fun y hy=>by
 unfold kA at hy;rcases bDf.1 hy with hy|hy
 .split at hy
  .rcases bDf.1 hy with hy|hy
   .simp at hy;omega
   .exact oO _ y hy
  .exact oO _ y hy
 .split at hy
  .simp at hy
  .rcases bDf.1 hy with hy|hy
   .simp at hy;omega
   .exact oO _ y hy
theorem aGd(n:Int):∀y∈itT n,y<256:=fun y hy=>by
 unfold itT at hy
 split at hy
 .rcases bDp.1 hy with hy|hy
  .omega
  .exact oO _ y hy
 .exact oO _ y hy
theorem aK6(q:Rat):kA q≠[]:=by
 unfold kA
 split
 .simp
 .intro h;exact lP _ (List.append_eq_nil_iff.1 h).1
theorem aK7{n:Int}(h0:-100<=n)(h1:n<=100):(itT n).length<=4:=by
 have hd:(aY n.natAbs).length<=3:=by
  have:ln 10 n.natAbs<=3:=(aL fI).2 (by show n.natAbs<1000;omega);unfold aY
  split
  .simp
  .unfold ln at this;simp;omega
 unfold itT
 split
 .rw[bDa];omega
 .omega
theorem aQ7{q:Rat}(h:Sz 64 q):(kA q).length<=1290:=by
 have h1:=uG h.num;have h2:=uG h.den;unfold kA;rw[bC6]
 split<;>split<;>simp only[bC6,bDa,bDd]<;>omega
theorem zM(x:List Nat × Int)(low:Int):(bM x low).length<=x.1.length+2:=by
 unfold bM
 split<;>simp
def aD6:List (List Nat × Int)->Nat
 | []=>0
 | x::r=>x.1.length+aD6 r
theorem aQ8:∀(xs:List (List Nat × Int)),(xs.getD 0 ([],0)).1.length+(xs.getD 1 ([],0)).1.length<=aD6 xs
 | []=>by simp[aD6]
 | [x]=>by simp[aD6]
 | x::y::r=>by simp only[aD6,bHg,bGy];omega
theorem aVv(op:Int):-32<=jP op/\eO op<=32:=by
 unfold jP eO;constructor<;>(repeat' split)<;>omega
theorem aNt{op arg:Int}{neg:Bool}{l m name:List Nat}{n:Nat}(hb:fQ op arg neg l m name n)(xs:List (List Nat × Int)):(uM op arg (aN neg l m) name xs).length<=1400+aD6 xs:=by
 have hlh:=aVv op;have ha:=hb.2.1;have ha2:=hb.2.2.1;have h0:=aK7 (n:=arg) Aa Aa;have h3:=aQ8 xs;have p0:=zM (xs.getD 0 ([],0));have p1:=zM (xs.getD 1 ([],0));have hs:(jU op).length<=3:=by unfold jU;(repeat' split)<;>simp
 unfold uM
 split
 .rename_i h;have:=hb.2.2.2.2;rw[if_pos h] at this;have:=aQ7 this.1.sz;omega
 split
 .rename_i h;have:=hb.2.2.2.1;rw[if_pos h] at this;have:=this.1;omega
 split
 .have:=p0 3;simp only[bC6,bDa,bDd];omega
 split
 .have:=p0 1;have:=p1 2;simp only[bC6,bDa,bDd];omega
 split
 .have:=p0 2;have:=p1 3;simp only[bC6,bDa,bDd];omega
 .have:=p0 5;simp only[bC6,bDa,bDd];omega
mutual
theorem aB8:∀(t:Tr) (d:Nat),okT d t->(aK t).length<=1500*szT t
 | .mk op arg neg l m name ks,d,h=>by
  rw[okT] at h;have h1:=aNt h.2.1 (dC ks);have h2:=zN ks (d+1) h.2.2;rw[aK,szT];omega
theorem zN:∀(ks:List Tr) (d:Nat),dJ d ks->aD6 (dC ks)<=1500*eF ks
 | [],d,_=>by rw[dC,aD6];omega
 | t::ks,d,h=>by
  rw[dJ] at h;have h1:=aB8 t d h.1;have h2:=zN ks d h.2;rw[dC,aD6,eF];simp only;omega
end
end Go.Proofs.Y