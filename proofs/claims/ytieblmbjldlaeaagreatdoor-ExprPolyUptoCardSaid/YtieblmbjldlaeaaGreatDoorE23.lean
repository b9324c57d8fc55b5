/- Maps of the call's own; decimal texts of small ints; names of functions; levels. -/
import Derived.Test.YtieblmbjldlaeaaGreatDoorE21
import Derived.MapKept
import Derived.Carry
import Derived.Test.YtieblmbjldlaeaaGreatDoorSh
import Derived.Lib.AppendIntMem
set_option linter.all false
set_option maxRecDepth 20000
namespace Go.Vc
open Go Go.Dig
theorem Ext.makeMap {T:Tab} {t:TypeId} {h:aA} {L:Own} {k:Value→aA→Own→Prop} (hk:∀b,k (.map (some b)) h ((b,.map #[] 0)::L)):Ext T (.makeMap t none) [] [] h L k:=by
 refine ⟨fun ok o ρ K Q w0 h0' L0 w hop hargs inv hout hP hK=>.inl ?_⟩
 refine bG (v:=.map (some w.heap.size)) (w':=w.alloc (.map #[] 0)) ?_ (hK _ _ _ _ (inv.alloc _ rfl) (hk _))
 simp only [execOp,hop,Option.map_none]
 rw [Sem.run_bind,RowKit.run_makeMap]
 rfl
theorem yO {w:World} {b:Nat} {es:Array MapEntry} {clock:Nat} (o:Obj) (hb:w.heap[b]?=some (.map es clock)):Upd w b o { w with heap:=w.heap.setIfInBounds b o }:=
 ⟨(MapKept.heap_set hb).1,fun x hx=>(MapKept.heap_set hb).2 x hx,by simp,rfl,rfl,rfl,rfl⟩
theorem Ext.mapNew {T:Tab} {op:Op} {t kt et:TypeId} {d:TypeDesc} {m kO vO:Operand} {key v:Value} {b:Nat} {es:Array MapEntry} {clock:Nat} {h:aA} {L:Own} {k:Value→aA→Own→Prop} (n:Nat) (hop:op=.insert t m kO vO∨op=.mapUpdate t m kO vO)
  (hL:L[n]?=some (b,.map es clock)) (hm:T.und t=some (.map kt et)) (hd:T.und kt=some d) (hkey:MapKept.IsKey d key) (hf:Instr.findNow d key es.toList 0=some none)
  (hk:k undef h (L.set n (b,.map (es.push { key:=key,val:=v,born:=clock }) (clock+1)))):Ext T op [m,kO,vO] [.map (some b),key,v] h L k:=by
 refine ⟨fun ok o ρ K Q w0 h0' L0 w hop' hargs inv hout hP hK=>.inl ?_⟩
 simp only [List.map_cons,List.map_nil,List.cons.injEq,and_true] at hargs
 obtain ⟨a1,a2,a3⟩:=hargs
 have hg:w.heap[b]?=some (.map es clock):=inv.own _ (aVu hL)
 have hr:(Instr.mapUpdate t (.map (some b)) key v).run T.prog w=.ok () { w with heap:=w.heap.setIfInBounds b (.map (es.push { key:=key,val:=v,born:=clock }) (clock+1)) }:=by
  simp [Instr.mapUpdate,run_underlying (ok.und _ _ hm),MapKept.run_getObj_map hg,MapKept.run_checkKey (ok.und _ _ hd) hkey false 9999,MapKept.run_findKey (ok.und _ _ hd) hf,MapKept.run_setObj_map _ hg,Result.andThen]
 refine pD (w':=_) ?_ (hK undef _ _ _ (inv.upd hL (yO _ hg)) hk)
 rcases hop with rfl|rfl <;>
 ·simp only [execOp,hop',a1,a2,a3,Sem.run_bind,hr]
  rfl
theorem Ext.mapGet {T:Tab} {t kt et:TypeId} {d:TypeDesc} {m kO:Operand} {key v:Value} {b i:Nat} {es:Array MapEntry} {clock:Nat} {h:aA} {L:Own} {k:Value→aA→Own→Prop} (n:Nat)
  (hL:L[n]?=some (b,.map es clock)) (hm:T.und t=some (.map kt et)) (hd:T.und kt=some d) (hkey:MapKept.IsKey d key) (hf:Instr.findNow d key es.toList 0=some (some (i,v)))
  (hk:k v h L):Ext T (.lookup t m kO false) [m,kO] [.map (some b),key] h L k:=by
 refine ⟨fun ok o ρ K Q w0 h0' L0 w hop' hargs inv hout hP hK=>.inl ?_⟩
 simp only [List.map_cons,List.map_nil,List.cons.injEq,and_true] at hargs
 obtain ⟨a1,a2⟩:=hargs
 have hg:w.heap[b]?=some (.map es clock):=inv.own _ (aVu hL)
 have hr:(Instr.lookup t (.map (some b)) key false).run T.prog w=.ok v w:=by
  have hck:=MapKept.run_checkKey (P:=T.prog) (w:=w) (ok.und _ _ hd) hkey es.isEmpty 9999
  simp [Instr.lookup,run_underlying (ok.und _ _ hm),MapKept.run_getObj_map hg,hck,MapKept.run_findKey (ok.und _ _ hd) hf,Result.andThen]
 refine bG (w':=w) (v:=v) ?_ (hK _ _ _ _ inv hk)
 simp only [execOp,hop',a1,a2,Sem.run_bind,hr]
 rfl
end Go.Vc
namespace Go.Proofs.Y
open Go Go.Vc Go.Dig
def itT (n:Int):List Nat:=if n<0 then 45::fR n.natAbs else fR n.natAbs
theorem pV (n:Nat):Lib.decDigits n=(fR n).map UInt8.ofNat:=by
 induction n using Nat.strongRecOn with
 | ind n ih=>
  rw [Lib.decDigits]
  by_cases h:n<10
  ·rw [dif_pos h]
   unfold fR
   by_cases h0:n=0
   ·subst h0;rfl
   ·rw [if_neg h0,eX dX h0,Nat.mod_eq_of_lt h,Nat.div_eq_of_lt h,bS]
    rfl
  ·rw [dif_neg h,ih (n / 10) (by omega)]
   unfold fR
   rw [if_neg (show ¬n / 10=0 by omega),if_neg (show ¬n=0 by omega)]
   conv=>rhs;rw [eX dX (show n≠0 by omega)]
   simp
theorem aNm (n:Int):(⟨(Lib.itoa n).toArray⟩:ByteArray)=txt (itT n):=by
 unfold Lib.itoa itT txt
 split
 ·rw [pV];rfl
 ·rw [pV,show n.toNat=n.natAbs by omega]
def Pw (h : aA) : Prop := ∀ L w, Sat h L w → Lib.TabIs T.prog w "internal/strconv.uint64pow10" .u64 Lib.pow10Tab
theorem Pw.mono {h h':aA} (p:Pw h) (hl:h.le h'):Pw h':=fun L w s=>p L w ⟨fun b o hb=>s.imm _ _ (hl _ _ hb),s.own,fun x hx=>by
  cases e:h x.1 with
  | none=>rfl
  | some o=>exact absurd ((s.sep x hx).symm.trans (hl _ _ e)) (by simp),s.nd⟩
theorem Inv.below {w w':World} {h:aA} (s:Sat h [] w) (b:RowKit.Below w.heap.size w w'):Inv w h [] h [] w' where
 imm x o hx:=by
  have:=s.lt_imm hx
  rw [b.block _ this];exact s.imm _ _ hx
 own:=by simp
 sep:=by simp
 nd:=by simp
 os:=b.os
 tape:=b.tape
 output:=b.output
 size:=b.size
 fr x hx _:=b.block x hx
 hle:=aA.lr _
 hnew _ _ x _ _:=x
 lnew:=by simp
 lsoft:=by simp
 frz _ _ _ _ _:=rfl
theorem aEr (h:aA) (pw:Pw h) (n:Int) (h0:-9223372036854775808≤n) (h1:n≤9223372036854775807):Fn0 T F.q157 [.int .i64 n] h fun v h'=>h'=h∧v=.string (txt (itT n)):=by
 refine Fn0.make fun w s=>(Tryz.strconv_Itoa n h0 h1 w (pw _ _ s)).mono fun e w' he=>?_
 obtain ⟨rfl,k,os,rfl⟩:=he
 exact ⟨h,[],Inv.below s (Lib.below_grow _ w (aWf _) k os),rfl,rfl,by rw [aNm]⟩
def aU (op:Int):Int:=if op=5∨op=6 then 1 else if op=7∨op=8 then 2 else if op=4 then 3 else if op=9 then 4 else 5
theorem aBa (h:aA) (op:Int):Fn0 T F.q123 [.int .i64 op] h fun v h'=>h'=h∧v=.int .i64 (aU op):=by
 have k0:op=5∨op=6→aU op=1:=fun x=>if_pos x
 have k1:op=7∨op=8→aU op=2:=fun x=>by unfold aU;rw [if_neg (by omega),if_pos x]
 have k2:op=4→aU op=3:=fun x=>by unfold aU;rw [if_neg (by omega),if_neg (by omega),if_pos x]
 have k3:op=9→aU op=4:=fun x=>by unfold aU;rw [if_neg (by omega),if_neg (by omega),if_neg (by omega),if_pos x]
 have k4:op≠5→op≠6→op≠7→op≠8→op≠4→op≠9→aU op=5:=fun a b c d e f=>by unfold aU;rw [if_neg (by omega),if_neg (by omega),if_neg (by omega),if_neg (by omega)]
 obtain ⟨K,hK⟩:∃K,K=aU op:=⟨_,rfl⟩
 rw [← hK] at k0 k1 k2 k3 k4 ⊢
 replace k0:=Hq.mk k0
 replace k1:=Hq.mk k1
 replace k2:=Hq.mk k2
 replace k3:=Hq.mk k3
 replace k4:=Hq.mk k4
 refine f0C ok D.q123 rfl ?_
 conv=>whnf
 repeat' first|((first|(apply aX.go)|((first|apply oI.z|apply cI.z))) <;> (conv=>whnf))|(apply aE<;>intro _<;>first|(exfalso;omega)|conv=>whnf)
 all_goals first
  | (rw [k0.out (by omega)];exact RN.a ⟨rfl,rfl⟩)
  | (rw [k1.out (by omega)];exact RN.a ⟨rfl,rfl⟩)
  | (rw [k2.out (by omega)];exact RN.a ⟨rfl,rfl⟩)
  | (rw [k3.out (by omega)];exact RN.a ⟨rfl,rfl⟩)
  | (rw [k4.out (by omega) (by omega) (by omega) (by omega) (by omega) (by omega)];exact RN.a ⟨rfl,rfl⟩)
theorem aNn (h:aA) (n:Nat) (h1:1≤n) (h8:n≤8):Fn0 T F.q195 [.int .i64 n] h fun v h'=>v=.string (txt (bA.getD (n-1) [])):=by
 have hl:bA.length=8:=rfl
 refine f0C ok D.q195 rfl ?_
 conv=>whnf
 repeat' first|((first|(show CN _ _ _ _ _ _;(refine CN.f rfl (aA5 _) (fun v h' hl2 hr=>?_);obtain ⟨s,rfl,hst⟩:=hr))|(show Idx _ _ _ _ _;refine Idx.strs hst (n-1) (by omega) (by omega) (fun ad had=>?_))|(show Ld _ _ _ _;refine Ld.of (had _) ?_)|((first|apply oI.z|apply cI.z))|refine WN.i64 (by omega) (by omega) ?_) <;> (conv=>whnf))|(apply aB<;>intro _<;>first|(exfalso;omega)|conv=>whnf)
 exact RN.a rfl
def aN (x:List Nat × Int) (low:Int):List Nat:=if low≤x.2 then x.1 else [40]++x.1++[41]
def bM:Bool→List (List Nat × Int)→List Nat
 | _,[]=>[]
 | true,x::r=>x.1++bM false r
 | false,x::r=>[44,32]++x.1++bM false r
def jN (op:Int):List Nat:=if op=5 then [32,43,32] else if op=6 then [32,45,32] else if op=7 then [32,42,32] else [32,47,32]
def cH (op arg:Int):List Nat:=
 if op=10 then (if arg=2 then [115,113,114,116,40] else [114,111,111,116,40]++itT arg++[44,32])
 else if op=11 then bA.getD (arg.toNat-1) []++[40]
 else if op=12 then [97,98,115,40] else if op=13 then [109,105,110,40] else if op=14 then [109,97,120,40] else if op=15 then [105,102,40] else []
def pW (op arg:Int) (q:Rat) (name:List Nat) (xs:List (List Nat × Int)):List Nat:=
 if op=1 then iW q else if op=2 then name else if op=3 then [112,105]
 else if op=4 then [45]++aN (xs.getD 0 ([],0)) 3
 else if op=5∨op=6 then aN (xs.getD 0 ([],0)) 1++jN op++aN (xs.getD 1 ([],0)) 2
 else if op=7∨op=8 then aN (xs.getD 0 ([],0)) 2++jN op++aN (xs.getD 1 ([],0)) 3
 else if op=9 then aN (xs.getD 0 ([],0)) 5++([94]++itT arg)
 else cH op arg++bM true xs++[41]
mutual
def aF:Tr→List Nat
 | .mk op arg neg l m name ks=>pW op arg (aR neg l m) name (aG ks)
def aG:List Tr→List (List Nat × Int)
 | []=>[]
 | t::ts=>(aF t,aU t.op)::aG ts
end
theorem cV {ks:List Tr} {j:Nat} {t:Tr} (h:ks[j]?=some t):(aG ks)[j]?=some (aF t,aU t.op):=by
 induction ks generalizing j with
 | nil=>simp at h
 | cons u ks ih=>
  rw [aG]
  cases j with
  | zero=>simp at h;subst h;rfl
  | succ j=>simpa using ih (by simpa using h)
theorem lY:∀ks:List Tr,(aG ks).length=ks.length
 | []=>by rw [aG];rfl
 | t::ks=>by rw [aG,aVs,aVs,lY ks]
/-! lengths and bytes -/
theorem kZ (n:Nat):∀y∈fR n,y<256:=fun y hy=>by
 unfold fR at hy
 split at hy
 ·simp at hy;omega
 ·exact aEj n y (List.mem_reverse.1 hy)
theorem wI (q:Rat):∀y∈iW q,y<256:=fun y hy=>by
 unfold iW at hy
 rcases aVx.1 hy with hy|hy
 ·split at hy
  ·rcases aVx.1 hy with hy|hy
   ·simp at hy;omega
   ·exact kZ _ y hy
  ·exact kZ _ y hy
 ·split at hy
  ·simp at hy
  ·rcases aVx.1 hy with hy|hy
   ·simp at hy;omega
   ·exact kZ _ y hy
theorem tW (n:Int):∀y∈itT n,y<256:=fun y hy=>by
 unfold itT at hy
 split at hy
 ·rcases aV7.1 hy with hy|hy
  ·omega
  ·exact kZ _ y hy
 ·exact kZ _ y hy
theorem aEs (q:Rat):iW q≠[]:=by
 unfold iW
 split
 ·simp
 ·intro h;exact aM4 _ (List.append_eq_nil_iff.1 h).1
theorem nM {n:Int} (h0:-100≤n) (h1:n≤100):(itT n).length≤4:=by
 have hd:(fR n.natAbs).length≤3:=by
  have:ln 10 n.natAbs≤3:=(aT dX).2 (by show n.natAbs<1000;omega)
  unfold fR
  split
  ·simp
  ·unfold ln at this;simp;omega
 unfold itT
 split
 ·rw [aVs];omega
 ·omega
theorem aJp {q:Rat} (h:Sz 64 q):(iW q).length≤1290:=by
 have h1:=kU h.num
 have h2:=kU h.den
 unfold iW
 rw [aVo]
 split <;> split <;> simp only [aVo,aVs,aVv] <;> omega
theorem cW (x:List Nat × Int) (low:Int):(aN x low).length≤x.1.length+2:=by
 unfold aN
 split <;> simp
def kH:List (List Nat × Int)→Nat
 | []=>0
 | x::r=>x.1.length+kH r
theorem lC:∀(b:Bool) (xs:List (List Nat × Int)),(bM b xs).length≤kH xs+2*xs.length
 | true,[]=>by simp [bM]
 | false,[]=>by simp [bM]
 | true,x::r=>by have:=lC false r;simp only [bM,kH,aVo,aVs];omega
 | false,x::r=>by have:=lC false r;simp only [bM,kH,aVo,aVs,aVv];omega
theorem aJq:∀(xs:List (List Nat × Int)),(xs.getD 0 ([],0)).1.length+(xs.getD 1 ([],0)).1.length≤kH xs
 | []=>by simp [kH]
 | [x]=>by simp [kH]
 | x::y::r=>by simp only [kH,List.getD_cons_zero,List.getD_cons_succ];omega
theorem rD (n:Nat):(bA.getD n []).length≤4:=by
 by_cases h:n<8
 ·have:∀k,k<8→(bA.getD k []).length≤4:=by decide
  exact this n h
 ·rw [aVp,List.getElem?_eq_none (by show bA.length≤n;have:bA.length=8:=rfl;omega)];simp
theorem rE {op arg:Int} (h0:-100≤arg) (h1:arg≤100):(cH op arg).length≤20:=by
 have:=nM h0 h1
 have:=rD (arg.toNat-1)
 unfold cH
 repeat' split
 all_goals simp only [aVo,aVs,aVv]
 all_goals omega
theorem lZ (op:Int):-32≤oN op∧jL op≤32:=by
 unfold oN jL
 constructor <;> (repeat' split) <;> omega
theorem aGz {op arg:Int} {neg:Bool} {l m name:List Nat} {n:Nat} (hb:cX op arg neg l m name n) (xs:List (List Nat × Int)) (hn:xs.length=n):(pW op arg (aR neg l m) name xs).length≤1400+kH xs:=by
 have hlh:=lZ op
 have ha:=hb.2.1
 have ha2:=hb.2.2.1
 have hks:=fD op
 have hk:=hb.1
 have h0:=nM (n:=arg) (by omega) (by omega)
 have h1:=rE (op:=op) (arg:=arg) (by omega) (by omega)
 have h2:=lC true xs
 have h3:=aJq xs
 have p0:=cW (xs.getD 0 ([],0))
 have p1:=cW (xs.getD 1 ([],0))
 have hs:(jN op).length≤3:=by unfold jN;(repeat' split) <;> simp
 unfold pW
 split
 ·rename_i h
  have:=hb.2.2.2.2
  rw [if_pos h] at this
  have:=aJp this.1.sz
  omega
 split
 ·rename_i h
  have:=hb.2.2.2.1
  rw [if_pos h] at this
  have:=this.1
  omega
 split
 ·simp only [aVs,aVv];omega
 split
 ·have:=p0 3;simp only [aVo,aVs,aVv];omega
 split
 ·have:=p0 1;have:=p1 2;simp only [aVo,aVs,aVv];omega
 split
 ·have:=p0 2;have:=p1 3;simp only [aVo,aVs,aVv];omega
 split
 ·have:=p0 5;simp only [aVo,aVs,aVv];omega
 ·simp only [aVo,aVs,aVv];omega
mutual
theorem jC:∀(t:Tr) (d:Nat),okT d t→(aF t).length≤1500*szT t
 | .mk op arg neg l m name ks,d,h=>by
  rw [okT] at h
  have h1:=aGz h.2.1 (aG ks) (lY ks)
  have h2:=tX ks (d+1) h.2.2
  rw [aF,szT];omega
theorem tX:∀(ks:List Tr) (d:Nat),fN d ks→kH (aG ks)≤1500*fM ks
 | [],d,_=>by rw [aG,kH];omega
 | t::ks,d,h=>by
  rw [fN] at h
  have h1:=jC t d h.1
  have h2:=tX ks d h.2
  rw [aG,kH,fM]
  simp only
  omega
end
end Go.Proofs.Y