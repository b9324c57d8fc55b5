/- Binds that come in, opened. -/
import Derived.Test.YtmblpmegfmgjgaaGreatDoorFrT
import Derived.Test.YtmblpmegfmgjgaaGreatDoorE37
set_option linter.unusedVariables false
set_option linter.unusedSimpArgs false
namespace Go.Proofs.YtmblpmegfmgjgaaGreatDoor
open Go Go.Vc Go.Dig Go.ChangeShapes Go.WideShapes Go.ChangeAt Go.RowKit
theorem cellsBind:Tryz.prog.cellsOf 104=8:=by kernel_rfl
theorem IsBs.of {h:Heap} {c:Array Value}:∀(bs:List (List Nat × Tr)) (off:Nat),(∀i b,bs[i]?=some b→c[off+i*8]?=some (.string (txt b.1))∧(∀y∈b.1,y<256)∧∃vs,vs.length=7∧(∀j,j<7→c[off+i*8+1+j]?=vs[j]?)∧IsE h vs b.2)→IsBs h c off bs
 | [],_,_=>trivial
 | (n,t)::bs,off,g=>by
  refine ⟨?_,IsBs.of bs (off+8) fun i b hb=>?_⟩
  ·have:=g 0 (n,t) rfl
   rwa [Nat.zero_mul,Nat.add_zero] at this
  ·have:=g (i+1) b (by simpa using hb)
   rwa [show off+(i+1)*8=off+8+i*8 by omega] at this
set_option maxRecDepth 20000 in
theorem open_binds {h:Heap} {v:Value} (i:In h 49 v):∃(s:Sl) (bs:List (List Nat × Tr)),v=s.val∧IsB h s bs∧bs.length≤1048576:=by
 obtain ⟨w,H,enc,base,d,p,rfl,hval,⟨n,hn⟩,hb⟩:=i.raw
 obtain ⟨a,len,cap,rfl⟩:=okWide_slice Tryz.underlying49 hval
 have f:DataW.trod enc Tryz.prog w 0 (fun _=>true) true n 49 [.slice a len cap]=some (d,p):=hn
 rcases DataW.trod_slice Tryz.underlying49 f with ⟨e4,-⟩ | ⟨ad,len',cap',elems,rest,n',rfl,e4,e5,-,hlc,hcm,hel,hk,-,-⟩
 ·exact ⟨⟨none,0,0⟩,[],(List.cons.inj e4).1,⟨rfl,Nat.le_refl _,.inl rfl⟩,Nat.zero_le _⟩
 ·have ev:=(List.cons.inj e4).1
  have hbl:Rows.uptoBulkAll (elems.map (·.1))≤1048576:=by
   have e6:=(Prod.mk.inj e5).1
   rw [e6] at hb
   simp only [Rows.uptoBulk] at hb;omega
  have hk':∀i,i<len'→∃(b:List Nat × Tr) (vs:List Value),w.cells? 0 (ad.add (i*8)) 8=some vs∧vs[0]?=some (.string (txt b.1))∧(∀y∈b.1,y<256)∧IsE (heapOf w) (vs.drop 1) b.2:=fun i hi=>by
   have h1:=hk i hi
   rw [cellsBind,List.getElem?_eq_getElem (by omega),Option.bind_eq_some_iff] at h1
   obtain ⟨vs,h2,h3⟩:=h1
   obtain ⟨y0,y1,m,hx,hlen,g0,g1⟩:=trod_struct2 Tryz.underlying104 h3
   have hl8:vs.length=8:=by rw [cellsBind] at hlen;exact hlen
   rw [show (Tryz.prog.cellsOf 9)=1 from cellsStr] at g0
   rw [show (Tryz.prog.cellsOf 27)=7 from cellsExpr] at g1
   obtain ⟨c0,cs,hvs⟩:∃c0 cs,vs=c0::cs:=by
    cases vs with
    | nil=>simp at hl8
    | cons c0 cs=>exact ⟨c0,cs,rfl⟩
   subst hvs
   have g0':DataW.trod enc Tryz.prog w 0 (fun _=>true) true m 9 [c0]=some y0:=g0
   have g1':DataW.trod enc Tryz.prog w 0 (fun _=>true) true m 27 (cs.take 7)=some y1:=g1
   rw [List.take_of_length_le (by simp at hl8;omega)] at g1'
   obtain ⟨s,e3,rfl,hs⟩:=DataW.trod_string Tryz.underlying9 g0'
   obtain ⟨t,ht⟩:=open_tree m _ _ g1'
   obtain ⟨hn1,hn2⟩:=txt_of s
   refine ⟨(s.data.toList.map (·.toNat),t),_,h2,?_,hn2,ht ?_⟩
   ·rw [List.getElem?_cons_zero,(List.cons.inj e3).1]
    exact congrArg some (congrArg Value.string hn1)
   ·have hm:Rows.uptoBulk (elems[i]'(by omega)).1≤1048576:=Nat.le_trans (bulk_mem (List.mem_map_of_mem (List.getElem_mem _))) hbl
    rw [hx] at hm
    simp only [Rows.uptoBulk,Rows.uptoBulkAll] at hm
    omega
  have hch:∀i,∃b:List Nat × Tr,i<len'→∃vs:List Value,w.cells? 0 (ad.add (i*8)) 8=some vs∧vs[0]?=some (.string (txt b.1))∧(∀y∈b.1,y<256)∧IsE (heapOf w) (vs.drop 1) b.2:=fun i=>by
   by_cases hi:i<len'
   ·obtain ⟨b,g⟩:=hk' i hi
    exact ⟨b,fun _=>g⟩
   ·exact ⟨([],varT []),fun x=>absurd x hi⟩
  obtain ⟨f,hF⟩:=Classical.axiomOfChoice hch
  have hlb:len'≤1048576:=by
   have:=bulk_len (elems.map (·.1))
   rw [List.length_map,hel] at this
   omega
  refine ⟨⟨some ad,len',cap'⟩,(List.range len').map f,ev,⟨by simp,hlc,?_⟩,by simpa using hlb⟩
  rcases Nat.eq_zero_or_pos len' with h0 | h0
  ·left;rw [h0];rfl
  ·right
   obtain ⟨bl,off,spot⟩:=ad
   obtain ⟨vs0,g0,-⟩:=hF 0 h0
   have c0:=(cells_get g0).2 0 (by omega)
   have l0:=(cells_get g0).1
   rw [List.getElem?_eq_getElem (by omega),Nat.zero_mul] at c0
   rw [show Addr.add (Addr.add ⟨bl,off,spot⟩ 0) 0=⟨bl,off,spot⟩ from rfl] at c0
   obtain ⟨hsp,c,T,fz,hc,-⟩:=cell_get c0
   change spot=none at hsp
   subst hsp
   refine ⟨bl,off,c,T,fz,rfl,hc,IsBs.of _ _ fun i b hb=>?_⟩
   rw [List.getElem?_map] at hb
   obtain ⟨i',hi',rfl⟩:=Option.map_eq_some_iff.1 hb
   obtain ⟨hil,rfl⟩:i<len'∧i=i':=by
    rcases Nat.lt_or_ge i len' with q | q
    ·rw [List.getElem?_range q] at hi';exact ⟨q,Option.some.inj hi'⟩
    ·rw [List.getElem?_eq_none (by simpa using q)] at hi';cases hi'
   obtain ⟨vs,g1,g2,g3,g4⟩:=hF i hil
   obtain ⟨l1,g5⟩:=cells_get g1
   have cell:∀j,j<8→c[off+i*8+j]?=vs[j]?:=fun j hj=>by
    have c1:=g5 j hj
    rw [add_none,add_none,List.getElem?_eq_getElem (by omega)] at c1
    obtain ⟨-,c',T',fz',hc',hv⟩:=cell_get c1
    rw [hc] at hc'
    cases hc'
    rw [hv,List.getElem?_eq_getElem (by omega)]
   refine ⟨?_,g3,vs.drop 1,by rw [List.length_drop,l1],fun j hj=>?_,g4⟩
   ·have:=cell 0 (by omega)
    rw [Nat.add_zero] at this
    rw [this,g2]
   ·have:=cell (1+j) (by omega)
    rw [List.getElem?_drop,← this,Nat.add_assoc]
end Go.Proofs.YtmblpmegfmgjgaaGreatDoor