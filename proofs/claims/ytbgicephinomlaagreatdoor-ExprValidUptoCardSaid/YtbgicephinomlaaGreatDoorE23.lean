/- Maps of the call's own; decimal texts of small ints; names of functions; levels. -/
import Derived.Test.YtbgicephinomlaaGreatDoorE21
import Derived.MapKept
import Derived.Carry
import Derived.Test.YtbgicephinomlaaGreatDoorSh
import Derived.Lib.AppendIntMem
set_option linter.unusedVariables false
set_option linter.unusedSimpArgs false
namespace Go.Vc
open Go Go.Dig
theorem Ext.makeMap {T:Tab} {t:TypeId} {h:Heap} {L:Own} {k:Value→Heap→Own→Prop} (hk:∀b,k (.map (some b)) h ((b,.map #[] 0)::L)):Ext T (.makeMap t none) [] [] h L k:=by
 refine ⟨fun ok o ρ K Q w0 h0' L0 w hop hargs inv hout hP hK=>.inl ?_⟩
 refine wp_value (v:=.map (some w.heap.size)) (w':=w.alloc (.map #[] 0)) ?_ (hK _ _ _ _ (inv.alloc _ rfl) (hk _))
 simp only [execOp,hop,Option.map_none]
 rw [Sem.run_bind,RowKit.run_makeMap]
 rfl
theorem upd_map {w:World} {b:Nat} {es:Array MapEntry} {clock:Nat} (o:Obj) (hb:w.heap[b]?=some (.map es clock)):Upd w b o { w with heap:=w.heap.setIfInBounds b o }:=
 ⟨(MapKept.heap_set hb).1,fun x hx=>(MapKept.heap_set hb).2 x hx,by simp,rfl,rfl,rfl,rfl⟩
theorem Ext.mapNew {T:Tab} {op:Op} {t kt et:TypeId} {d:TypeDesc} {m kO vO:Operand} {key v:Value} {b:Nat} {es:Array MapEntry} {clock:Nat} {h:Heap} {L:Own} {k:Value→Heap→Own→Prop} (n:Nat) (hop:op=.insert t m kO vO∨op=.mapUpdate t m kO vO)
  (hL:L[n]?=some (b,.map es clock)) (hm:T.und t=some (.map kt et)) (hd:T.und kt=some d) (hkey:MapKept.IsKey d key) (hf:Instr.findNow d key es.toList 0=some none)
  (hk:k undef h (L.set n (b,.map (es.push { key:=key,val:=v,born:=clock }) (clock+1)))):Ext T op [m,kO,vO] [.map (some b),key,v] h L k:=by
 refine ⟨fun ok o ρ K Q w0 h0' L0 w hop' hargs inv hout hP hK=>.inl ?_⟩
 simp only [List.map_cons,List.map_nil,List.cons.injEq,and_true] at hargs
 obtain ⟨a1,a2,a3⟩:=hargs
 have hg:w.heap[b]?=some (.map es clock):=inv.own _ (List.mem_of_getElem? hL)
 have hr:(Instr.mapUpdate t (.map (some b)) key v).run T.prog w=.ok () { w with heap:=w.heap.setIfInBounds b (.map (es.push { key:=key,val:=v,born:=clock }) (clock+1)) }:=by
  simp [Instr.mapUpdate,run_underlying (ok.und _ _ hm),MapKept.run_getObj_map hg,MapKept.run_checkKey (ok.und _ _ hd) hkey false 9999,MapKept.run_findKey (ok.und _ _ hd) hf,MapKept.run_setObj_map _ hg,Result.andThen]
 refine wp_skipd (w':=_) ?_ (hK undef _ _ _ (inv.upd hL (upd_map _ hg)) hk)
 rcases hop with rfl | rfl <;>
 ·simp only [execOp,hop',a1,a2,a3,Sem.run_bind,hr]
  rfl
theorem Ext.mapGet {T:Tab} {t kt et:TypeId} {d:TypeDesc} {m kO:Operand} {key v:Value} {b i:Nat} {es:Array MapEntry} {clock:Nat} {h:Heap} {L:Own} {k:Value→Heap→Own→Prop} (n:Nat)
  (hL:L[n]?=some (b,.map es clock)) (hm:T.und t=some (.map kt et)) (hd:T.und kt=some d) (hkey:MapKept.IsKey d key) (hf:Instr.findNow d key es.toList 0=some (some (i,v)))
  (hk:k v h L):Ext T (.lookup t m kO false) [m,kO] [.map (some b),key] h L k:=by
 refine ⟨fun ok o ρ K Q w0 h0' L0 w hop' hargs inv hout hP hK=>.inl ?_⟩
 simp only [List.map_cons,List.map_nil,List.cons.injEq,and_true] at hargs
 obtain ⟨a1,a2⟩:=hargs
 have hg:w.heap[b]?=some (.map es clock):=inv.own _ (List.mem_of_getElem? hL)
 have hr:(Instr.lookup t (.map (some b)) key false).run T.prog w=.ok v w:=by
  have hck:=MapKept.run_checkKey (P:=T.prog) (w:=w) (ok.und _ _ hd) hkey es.isEmpty 9999
  simp [Instr.lookup,run_underlying (ok.und _ _ hm),MapKept.run_getObj_map hg,hck,MapKept.run_findKey (ok.und _ _ hd) hf,Result.andThen]
 refine wp_value (w':=w) (v:=v) ?_ (hK _ _ _ _ inv hk)
 simp only [execOp,hop',a1,a2,Sem.run_bind,hr]
 rfl
end Go.Vc
namespace Go.Proofs.YtbgicephinomlaaGreatDoor
open Go Go.Vc Go.Dig
def itT (n:Int):List Nat:=if n<0 then 45::decL n.natAbs else decL n.natAbs
theorem decDigits_eq (n:Nat):Lib.decDigits n=(decL n).map UInt8.ofNat:=by
 induction n using Nat.strongRecOn with
 | ind n ih=>
  rw [Lib.decDigits]
  by_cases h:n<10
  ·rw [dif_pos h]
   unfold decL
   by_cases h0:n=0
   ·subst h0;rfl
   ·rw [if_neg h0,dg_pos two_le_10 h0,Nat.mod_eq_of_lt h,Nat.div_eq_of_lt h,dg_zero]
    rfl
  ·rw [dif_neg h,ih (n / 10) (by omega)]
   unfold decL
   rw [if_neg (show ¬n / 10=0 by omega),if_neg (show ¬n=0 by omega)]
   conv=>rhs;rw [dg_pos two_le_10 (show n≠0 by omega)]
   simp
theorem itoa_eq (n:Int):(⟨(Lib.itoa n).toArray⟩:ByteArray)=txt (itT n):=by
 unfold Lib.itoa itT txt
 split
 ·rw [decDigits_eq];rfl
 ·rw [decDigits_eq,show n.toNat=n.natAbs by omega]
def Pw (h : Heap) : Prop := ∀ L w, Sat h L w → Lib.TabIs T.prog w "internal/strconv.uint64pow10" .u64 Lib.pow10Tab
theorem Pw.mono {h h':Heap} (p:Pw h) (hl:h.le h'):Pw h':=fun L w s=>p L w ⟨fun b o hb=>s.imm _ _ (hl _ _ hb),s.own,fun x hx=>by
  cases e:h x.1 with
  | none=>rfl
  | some o=>exact absurd ((s.sep x hx).symm.trans (hl _ _ e)) (by simp),s.nd⟩
theorem Inv.below {w w':World} {h:Heap} (s:Sat h [] w) (b:RowKit.Below w.heap.size w w'):Inv w h [] h [] w' where
 imm x o hx:=by
  have:=s.lt_imm hx
  rw [b.block _ this];exact s.imm _ _ hx
 own:=by simp
 sep:=by simp
 nd:=by simp
 os:=b.os
 tape:=b.tape
 output:=b.output
 size:=b.size
 fr x hx _:=b.block x hx
 hle:=Heap.le_refl _
 hnew _ _ x _ _:=x
 lnew:=by simp
 lsoft:=by simp
 frz _ _ _ _ _:=rfl
theorem Itoa_ct (h:Heap) (pw:Pw h) (n:Int) (h0:-9223372036854775808≤n) (h1:n≤9223372036854775807):Fn0 T F.strconv_Itoa [.int .i64 n] h fun v h'=>h'=h∧v=.string (txt (itT n)):=by
 refine Fn0.make fun w s=>(Tryz.strconv_Itoa n h0 h1 w (pw _ _ s)).mono fun e w' he=>?_
 obtain ⟨rfl,k,os,rfl⟩:=he
 exact ⟨h,[],Inv.below s (Lib.below_grow _ w (Nat.le_refl _) k os),rfl,rfl,by rw [itoa_eq]⟩
def levT (op:Int):Int:=if op=5∨op=6 then 1 else if op=7∨op=8 then 2 else if op=4 then 3 else if op=9 then 4 else 5
set_option maxRecDepth 20000 in
theorem level_ct (h:Heap) (op:Int):Fn0 T F.expr_level [.int .i64 op] h fun v h'=>h'=h∧v=.int .i64 (levT op):=by
 have k0:op=5∨op=6→levT op=1:=fun x=>if_pos x
 have k1:op=7∨op=8→levT op=2:=fun x=>by unfold levT;rw [if_neg (by omega),if_pos x]
 have k2:op=4→levT op=3:=fun x=>by unfold levT;rw [if_neg (by omega),if_neg (by omega),if_pos x]
 have k3:op=9→levT op=4:=fun x=>by unfold levT;rw [if_neg (by omega),if_neg (by omega),if_neg (by omega),if_pos x]
 have k4:op≠5→op≠6→op≠7→op≠8→op≠4→op≠9→levT op=5:=fun a b c d e f=>by unfold levT;rw [if_neg (by omega),if_neg (by omega),if_neg (by omega),if_neg (by omega)]
 obtain ⟨K,hK⟩:∃K,K=levT op:=⟨_,rfl⟩
 rw [← hK] at k0 k1 k2 k3 k4 ⊢
 replace k0:=Hq.mk k0
 replace k1:=Hq.mk k1
 replace k2:=Hq.mk k2
 replace k3:=Hq.mk k3
 replace k4:=Hq.mk k4
 refine fn0_of_codeI ok D.expr_level rfl ?_
 conv=>whnf
 repeat ((first | refine opsI.step ?_ | refine codeI.step ?_);conv=>whnf)
 repeat' first | ((first | (show SeqN _ _ _ _ _ _ _;refine SeqN.go ?_) | ((first | refine opsI.step ?_ | refine codeI.step ?_))) <;> (conv=>whnf)) | (refine cnd_eq (fun _=>?_) (fun _=>?_) <;> first | (exfalso;omega) | (conv=>whnf))
 all_goals first
  | (rw [k0.out (by omega)];exact RetN.all ⟨rfl,rfl⟩)
  | (rw [k1.out (by omega)];exact RetN.all ⟨rfl,rfl⟩)
  | (rw [k2.out (by omega)];exact RetN.all ⟨rfl,rfl⟩)
  | (rw [k3.out (by omega)];exact RetN.all ⟨rfl,rfl⟩)
  | (rw [k4.out (by omega) (by omega) (by omega) (by omega) (by omega) (by omega)];exact RetN.all ⟨rfl,rfl⟩)
set_option maxRecDepth 20000 in
theorem Name_ct (h:Heap) (n:Nat) (h1:1≤n) (h8:n≤8):Fn0 T F.elem_Name [.int .i64 n] h fun v h'=>v=.string (txt (fnames.getD (n-1) [])):=by
 have hl:fnames.length=8:=rfl
 refine fn0_of_codeI ok D.elem_Name rfl ?_
 conv=>whnf
 repeat ((first | refine opsI.step ?_ | refine codeI.step ?_);conv=>whnf)
 repeat' first | ((first | (show CallN _ _ _ _ _ _;(refine CallN.fn rfl (names_ct _) (fun v h' hl2 hr=>?_);obtain ⟨s,rfl,hst⟩:=hr)) | (show Idx _ _ _ _ _;refine Idx.strs hst (n-1) (by omega) (by omega) (fun ad had=>?_)) | (show Ld _ _ _ _;refine Ld.of (had _) ?_) | ((first | refine opsI.step ?_ | refine codeI.step ?_)) | refine WrapN.i64 (by omega) (by omega) ?_) <;> (conv=>whnf)) | (refine cnd_lt (fun _=>?_) (fun _=>?_) <;> first | (exfalso;omega) | (conv=>whnf))
 exact RetN.all rfl
def placeX (x:List Nat × Int) (low:Int):List Nat:=if low≤x.2 then x.1 else [40]++x.1++[41]
def joinF:Bool→List (List Nat × Int)→List Nat
 | _,[]=>[]
 | true,x::r=>x.1++joinF false r
 | false,x::r=>[44,32]++x.1++joinF false r
def signX (op:Int):List Nat:=if op=5 then [32,43,32] else if op=6 then [32,45,32] else if op=7 then [32,42,32] else [32,47,32]
def headX (op arg:Int):List Nat:=
 if op=10 then (if arg=2 then [115,113,114,116,40] else [114,111,111,116,40]++itT arg++[44,32])
 else if op=11 then fnames.getD (arg.toNat-1) []++[40]
 else if op=12 then [97,98,115,40] else if op=13 then [109,105,110,40] else if op=14 then [109,97,120,40] else if op=15 then [105,102,40] else []
def nodeX (op arg:Int) (q:Rat) (name:List Nat) (xs:List (List Nat × Int)):List Nat:=
 if op=1 then fmtL q else if op=2 then name else if op=3 then [112,105]
 else if op=4 then [45]++placeX (xs.getD 0 ([],0)) 3
 else if op=5∨op=6 then placeX (xs.getD 0 ([],0)) 1++signX op++placeX (xs.getD 1 ([],0)) 2
 else if op=7∨op=8 then placeX (xs.getD 0 ([],0)) 2++signX op++placeX (xs.getD 1 ([],0)) 3
 else if op=9 then placeX (xs.getD 0 ([],0)) 5++([94]++itT arg)
 else headX op arg++joinF true xs++[41]
mutual
def textT:Tr→List Nat
 | .mk op arg neg l m name ks=>nodeX op arg (ratOf neg l m) name (textsT ks)
def textsT:List Tr→List (List Nat × Int)
 | []=>[]
 | t::ts=>(textT t,levT t.op)::textsT ts
end
theorem textsT_get {ks:List Tr} {j:Nat} {t:Tr} (h:ks[j]?=some t):(textsT ks)[j]?=some (textT t,levT t.op):=by
 induction ks generalizing j with
 | nil=>simp at h
 | cons u ks ih=>
  rw [textsT]
  cases j with
  | zero=>simp at h;subst h;rfl
  | succ j=>simpa using ih (by simpa using h)
theorem textsT_len:∀ks:List Tr,(textsT ks).length=ks.length
 | []=>by rw [textsT];rfl
 | t::ks=>by rw [textsT,List.length_cons,List.length_cons,textsT_len ks]
/-! lengths and bytes -/
theorem decL_byte (n:Nat):∀y∈decL n,y<256:=fun y hy=>by
 unfold decL at hy
 split at hy
 ·simp at hy;omega
 ·exact dg10_lt n y (List.mem_reverse.1 hy)
theorem fmtL_byte (q:Rat):∀y∈fmtL q,y<256:=fun y hy=>by
 unfold fmtL at hy
 rcases List.mem_append.1 hy with hy | hy
 ·split at hy
  ·rcases List.mem_append.1 hy with hy | hy
   ·simp at hy;omega
   ·exact decL_byte _ y hy
  ·exact decL_byte _ y hy
 ·split at hy
  ·simp at hy
  ·rcases List.mem_append.1 hy with hy | hy
   ·simp at hy;omega
   ·exact decL_byte _ y hy
theorem itT_byte (n:Int):∀y∈itT n,y<256:=fun y hy=>by
 unfold itT at hy
 split at hy
 ·rcases List.mem_cons.1 hy with hy | hy
  ·omega
  ·exact decL_byte _ y hy
 ·exact decL_byte _ y hy
theorem fmtL_ne (q:Rat):fmtL q≠[]:=by
 unfold fmtL
 split
 ·simp
 ·intro h;exact decL_ne _ (List.append_eq_nil_iff.1 h).1
theorem itT_len {n:Int} (h0:-100≤n) (h1:n≤100):(itT n).length≤4:=by
 have hd:(decL n.natAbs).length≤3:=by
  have:ln 10 n.natAbs≤3:=(ln_le_iff two_le_10).2 (by show n.natAbs<1000;omega)
  unfold decL
  split
  ·simp
  ·unfold ln at this;simp;omega
 unfold itT
 split
 ·rw [List.length_cons];omega
 ·omega
theorem fmtL_len {q:Rat} (h:Sz 64 q):(fmtL q).length≤1290:=by
 have h1:=decL_len h.num
 have h2:=decL_len h.den
 unfold fmtL
 rw [List.length_append]
 split <;> split <;> simp only [List.length_append,List.length_cons,List.length_nil] <;> omega
theorem placeX_len (x:List Nat × Int) (low:Int):(placeX x low).length≤x.1.length+2:=by
 unfold placeX
 split <;> simp
def sumX:List (List Nat × Int)→Nat
 | []=>0
 | x::r=>x.1.length+sumX r
theorem joinF_len:∀(b:Bool) (xs:List (List Nat × Int)),(joinF b xs).length≤sumX xs+2*xs.length
 | true,[]=>by simp [joinF]
 | false,[]=>by simp [joinF]
 | true,x::r=>by have:=joinF_len false r;simp only [joinF,sumX,List.length_append,List.length_cons];omega
 | false,x::r=>by have:=joinF_len false r;simp only [joinF,sumX,List.length_append,List.length_cons,List.length_nil];omega
theorem sumX_get:∀(xs:List (List Nat × Int)),(xs.getD 0 ([],0)).1.length+(xs.getD 1 ([],0)).1.length≤sumX xs
 | []=>by simp [sumX]
 | [x]=>by simp [sumX]
 | x::y::r=>by simp only [sumX,List.getD_cons_zero,List.getD_cons_succ];omega
theorem fname_len (n:Nat):(fnames.getD n []).length≤4:=by
 by_cases h:n<8
 ·have:∀k,k<8→(fnames.getD k []).length≤4:=by decide
  exact this n h
 ·rw [List.getD_eq_getElem?_getD,List.getElem?_eq_none (by show fnames.length≤n;have:fnames.length=8:=rfl;omega)];simp
theorem headX_len {op arg:Int} (h0:-100≤arg) (h1:arg≤100):(headX op arg).length≤20:=by
 have:=itT_len h0 h1
 have:=fname_len (arg.toNat-1)
 unfold headX
 repeat' split
 all_goals simp only [List.length_append,List.length_cons,List.length_nil]
 all_goals omega
theorem lowHigh (op:Int):-32≤lowA op∧highA op≤32:=by
 unfold lowA highA
 constructor <;> (repeat' split) <;> omega
theorem nodeX_len {op arg:Int} {neg:Bool} {l m name:List Nat} {n:Nat} (hb:nodeB op arg neg l m name n) (xs:List (List Nat × Int)) (hn:xs.length=n):(nodeX op arg (ratOf neg l m) name xs).length≤1400+sumX xs:=by
 have hlh:=lowHigh op
 have ha:=hb.2.1
 have ha2:=hb.2.2.1
 have hks:=kidsN_le op
 have hk:=hb.1
 have h0:=itT_len (n:=arg) (by omega) (by omega)
 have h1:=headX_len (op:=op) (arg:=arg) (by omega) (by omega)
 have h2:=joinF_len true xs
 have h3:=sumX_get xs
 have p0:=placeX_len (xs.getD 0 ([],0))
 have p1:=placeX_len (xs.getD 1 ([],0))
 have hs:(signX op).length≤3:=by unfold signX;(repeat' split) <;> simp
 unfold nodeX
 split
 ·rename_i h
  have:=hb.2.2.2.2
  rw [if_pos h] at this
  have:=fmtL_len this.1.sz
  omega
 split
 ·rename_i h
  have:=hb.2.2.2.1
  rw [if_pos h] at this
  have:=this.1
  omega
 split
 ·simp only [List.length_cons,List.length_nil];omega
 split
 ·have:=p0 3;simp only [List.length_append,List.length_cons,List.length_nil];omega
 split
 ·have:=p0 1;have:=p1 2;simp only [List.length_append,List.length_cons,List.length_nil];omega
 split
 ·have:=p0 2;have:=p1 3;simp only [List.length_append,List.length_cons,List.length_nil];omega
 split
 ·have:=p0 5;simp only [List.length_append,List.length_cons,List.length_nil];omega
 ·simp only [List.length_append,List.length_cons,List.length_nil];omega
mutual
theorem textT_len:∀(t:Tr) (d:Nat),okT d t→(textT t).length≤1500*szT t
 | .mk op arg neg l m name ks,d,h=>by
  rw [okT] at h
  have h1:=nodeX_len h.2.1 (textsT ks) (textsT_len ks)
  have h2:=textsT_sum ks (d+1) h.2.2
  rw [textT,szT];omega
theorem textsT_sum:∀(ks:List Tr) (d:Nat),okTs d ks→sumX (textsT ks)≤1500*szTs ks
 | [],d,_=>by rw [textsT,sumX];omega
 | t::ks,d,h=>by
  rw [okTs] at h
  have h1:=textT_len t d h.1
  have h2:=textsT_sum ks d h.2
  rw [textsT,sumX,szTs]
  simp only
  omega
end
end Go.Proofs.YtbgicephinomlaaGreatDoor