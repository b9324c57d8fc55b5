/- Values that come in, opened: of variables, and alone. -/
import Derived.Test.YtbgicephinomlaaGreatDoorFrT
import Derived.Test.YtbgicephinomlaaGreatDoorE63
set_option linter.unusedVariables false
set_option linter.unusedSimpArgs false
set_option maxRecDepth 20000
namespace Go.Proofs.YtbgicephinomlaaGreatDoor
open Go Go.Vc Go.Dig Go.ChangeShapes Go.WideShapes Go.ChangeAt Go.RowKit
theorem cellsValue:Tryz.prog.cellsOf 111=4:=by kernel_rfl
theorem IsVs.of {h:Heap} {c:Array Value}:∀(bs:List (List Nat × Option Rat)) (off:Nat),(∀j n x,bs[j]?=some (n,x)→c[off+j*4]?=some (.string (txt n))∧(∀y∈n,y<256)∧∃ng,∃a b:Sl,(∀i v,[Value.bool ng,a.val,b.val][i]?=some v→c[off+j*4+1+i]?=some v)∧IsNum h ng a b x)→IsVs h c off bs
 | [],_,_=>trivial
 | (n,t)::bs,off,g=>by
  refine ⟨?_,IsVs.of bs (off+4) fun j n x hb=>?_⟩
  ·have:=g 0 n t rfl
   rwa [Nat.zero_mul,Nat.add_zero] at this
  ·have:=g (j+1) n x (by simpa using hb)
   rwa [show off+(j+1)*4=off+4+j*4 by omega] at this
theorem read_values {H:Type} {enc:TypeId × Value→H} {w:World} {n:Nat} {c0:Value} {d:DataW H} {p:List MemPlace} (f:DataW.trod enc Tryz.prog w 0 (fun _=>true) true n 39 [c0]=some (d,p)) (hb:Rows.uptoBulk d≤1048576):∃(s:Sl) (bs:List (List Nat × Option Rat)),c0=s.val∧IsV (heapOf w) s bs∧bs.length≤1048576:=by
 rcases DataW.trod_slice Tryz.underlying39 f with ⟨e4,-⟩|⟨ad,len',cap',elems,rest,n',rfl,e4,e5,-,hlc,hcm,hel,hk,-,-⟩
 ·exact ⟨⟨none,0,0⟩,[],(List.cons.inj e4).1,IsV.nil _,Nat.zero_le _⟩
 ·have ev:=(List.cons.inj e4).1
  have hbl:Rows.uptoBulkAll (elems.map (·.1))≤1048576:=by
   have e6:=(Prod.mk.inj e5).1
   rw [e6] at hb
   simp only [Rows.uptoBulk] at hb;omega
  have hk':∀i,i<len'→∃(b:List Nat × Option Rat) (vs:List Value),w.cells? 0 (ad.add (i*4)) 4=some vs∧vs[0]?=some (.string (txt b.1))∧(∀y∈b.1,y<256)∧∃ng,∃a c:Sl,vs.drop 1=[.bool ng,a.val,c.val]∧IsNum (heapOf w) ng a c b.2:=fun i hi=>by
   have h1:=hk i hi
   rw [cellsValue,List.getElem?_eq_getElem (by omega),Option.bind_eq_some_iff] at h1
   obtain ⟨vs,h2,h3⟩:=h1
   obtain ⟨y0,y1,m,hx,hlen,g0,g1⟩:=trod_struct2 Tryz.underlying111 h3
   have hl4:vs.length=4:=by rw [cellsValue] at hlen;exact hlen
   rw [show (Tryz.prog.cellsOf 9)=1 from cellsStr] at g0
   rw [show (Tryz.prog.cellsOf 24)=3 from cellsRat] at g1
   obtain ⟨c0,c1,c2,c3,hvs⟩:∃c0 c1 c2 c3,vs=[c0,c1,c2,c3]:=by
    match vs,hl4 with
    | [c0,c1,c2,c3],_=>exact ⟨c0,c1,c2,c3,rfl⟩
   subst hvs
   have g0':DataW.trod enc Tryz.prog w 0 (fun _=>true) true m 9 [c0]=some y0:=g0
   have g1':DataW.trod enc Tryz.prog w 0 (fun _=>true) true m 24 [c1,c2,c3]=some y1:=g1
   obtain ⟨s,e3,rfl,hs⟩:=DataW.trod_string Tryz.underlying9 g0'
   obtain ⟨ng,a,b,l,mm,dn,dm,e2,wa,wb,ba,bb,hd,pa,pb,-⟩:=open_rat (enc:=enc) (base:=0) (v:=.agg #[c1,c2,c3]) (d:=y1.1) (p:=y1.2) ⟨_,rfl⟩ ⟨m,g1'⟩
   have e2':=congrArg Array.toList (Value.agg.inj e2)
   obtain ⟨hn1,hn2⟩:=txt_of s
   refine ⟨(s.data.toList.map (·.toNat),valOf ng l mm),_,h2,?_,hn2,ng,a,b,e2',IsVal.num' ?_⟩
   ·rw [List.getElem?_cons_zero,(List.cons.inj e3).1]
    exact congrArg some (congrArg Value.string hn1)
   ·have hm:Rows.uptoBulk (elems[i]'(by omega)).1≤1048576:=Nat.le_trans (bulk_mem (List.mem_map_of_mem (List.getElem_mem _))) hbl
    rw [hx] at hm
    simp only [Rows.uptoBulk,Rows.uptoBulkAll,hd] at hm
    have q1:=part_len pa
    have q2:=part_len pb
    exact ⟨wa,wb,ba,bb,by omega,by omega⟩
  have hch:∀i,∃b:List Nat × Option Rat,i<len'→∃vs:List Value,w.cells? 0 (ad.add (i*4)) 4=some vs∧vs[0]?=some (.string (txt b.1))∧(∀y∈b.1,y<256)∧∃ng,∃a c:Sl,vs.drop 1=[.bool ng,a.val,c.val]∧IsNum (heapOf w) ng a c b.2:=fun i=>by
   by_cases hi:i<len'
   ·obtain ⟨b,g⟩:=hk' i hi
    exact ⟨b,fun _=>g⟩
   ·exact ⟨([],none),fun x=>absurd x hi⟩
  obtain ⟨f,hF⟩:=Classical.axiomOfChoice hch
  have hlb:len'≤1048576:=by
   have:=bulk_len (elems.map (·.1))
   rw [List.length_map,hel] at this
   omega
  refine ⟨⟨some ad,len',cap'⟩,(List.range len').map f,ev,⟨by simp,hlc,?_⟩,by simpa using hlb⟩
  rcases Nat.eq_zero_or_pos len' with h0|h0
  ·left;rw [h0];rfl
  ·right
   obtain ⟨bl,off,spot⟩:=ad
   obtain ⟨vs0,g0,-⟩:=hF 0 h0
   have c0:=(cells_get g0).2 0 (by omega)
   have l0:=(cells_get g0).1
   rw [List.getElem?_eq_getElem (by omega),Nat.zero_mul] at c0
   rw [show Addr.add (Addr.add ⟨bl,off,spot⟩ 0) 0=⟨bl,off,spot⟩ from rfl] at c0
   obtain ⟨hsp,c,T,fz,hc,-⟩:=cell_get c0
   change spot=none at hsp
   subst hsp
   refine ⟨bl,off,c,T,fz,rfl,hc,IsVs.of _ _ fun i bn bx hb=>?_⟩
   rw [List.getElem?_map] at hb
   obtain ⟨i',hi',hb⟩:=Option.map_eq_some_iff.1 hb
   obtain ⟨hil,rfl⟩:i<len'∧i=i':=by
    rcases Nat.lt_or_ge i len' with q|q
    ·rw [List.getElem?_range q] at hi';exact ⟨q,Option.some.inj hi'⟩
    ·rw [List.getElem?_eq_none (by simpa using q)] at hi';cases hi'
   obtain ⟨vs,g1,g2,g3,ng,a,b,g4,g5⟩:=hF i hil
   rw [hb] at g2 g3 g5
   obtain ⟨l1,g6⟩:=cells_get g1
   have cell:∀j,j<4→c[off+i*4+j]?=vs[j]?:=fun j hj=>by
    have c1:=g6 j hj
    rw [add_none,add_none,List.getElem?_eq_getElem (by omega)] at c1
    obtain ⟨-,c',T',fz',hc',hv⟩:=cell_get c1
    rw [hc] at hc'
    cases hc'
    rw [hv,List.getElem?_eq_getElem (by omega)]
   refine ⟨?_,g3,ng,a,b,fun j v hv=>?_,g5⟩
   ·have:=cell 0 (by omega)
    rw [Nat.add_zero] at this
    rw [this,g2]
   ·have hj:j<3:=(List.getElem?_eq_some_iff.1 hv).1
    have:=cell (1+j) (by omega)
    rw [← Nat.add_assoc] at this
    rw [this,← List.getElem?_drop,g4,hv]
end Go.Proofs.YtbgicephinomlaaGreatDoor
/- The parts of a derivation that come in, opened: two expressions, a name, values. -/
namespace Go.Proofs.YtbgicephinomlaaGreatDoor
open Go Go.Vc Go.Dig Go.ChangeShapes Go.WideShapes Go.ChangeAt Go.RowKit
theorem cellsParts:Tryz.prog.cellsOf 41=16:=by kernel_rfl
theorem cellsValues:Tryz.prog.cellsOf 39=1:=by kernel_rfl
def zeroParts:Value:=.agg #[.int .i64 0,.int .i64 0,.bool false,.slice none 0 0,.slice none 0 0,.string ByteArray.empty,.slice none 0 0,.int .i64 0,.int .i64 0,.bool false,.slice none 0 0,.slice none 0 0,.string ByteArray.empty,.slice none 0 0,.string ByteArray.empty,.slice none 0 0]
def zdP {H:Type}:DataW H:=.agg [zdE,zdE,.lit (.string []),.nil]
theorem open_parts {h:Heap} {v:Value} (i:In h 41 v):∃(vs us:List Value) (t u:Tr) (nm:List Nat) (s:Sl) (bs:List (List Nat × Option Rat)),v=.agg (vs++us++[.string (txt nm),s.val]).toArray∧vs.length=7∧us.length=7∧IsE h vs t∧IsE h us u∧(∀y∈nm,y<256)∧IsV h s bs∧bs.length≤1048576:=by
 obtain ⟨w,H,enc,base,d,p,rfl,hval,⟨n,hn⟩,hb⟩:=i.raw
 unfold Value.okWide at hval
 rw [Tryz.underlying41] at hval
 obtain ⟨cs,rfl,-⟩:=hval
 have h0:DataW.trod enc Tryz.prog w 0 (fun _=>true) true n 41 cs.toList=some (d,p):=hn
 obtain ⟨xs,m,rfl,hx,hlen,hxs,hf⟩:=DataW.trod_struct Tryz.underlying41 h0
 rw [cellsParts] at hlen
 match xs,hxs with
 | [y0,y1,y2,y3],_=>
  obtain ⟨c0,c1,c2,c3,c4,c5,c6,d0,d1,d2,d3,d4,d5,d6,e0,f0,hcs⟩:∃c0 c1 c2 c3 c4 c5 c6 d0 d1 d2 d3 d4 d5 d6 e0 f0,cs.toList=[c0,c1,c2,c3,c4,c5,c6,d0,d1,d2,d3,d4,d5,d6,e0,f0]:=by
   match cs.toList,hlen with
   | [c0,c1,c2,c3,c4,c5,c6,d0,d1,d2,d3,d4,d5,d6,e0,f0],_=>exact ⟨c0,c1,c2,c3,c4,c5,c6,d0,d1,d2,d3,d4,d5,d6,e0,f0,rfl⟩
  rw [hcs] at hf
  have g0:DataW.trod enc Tryz.prog w 0 (fun _=>true) true m 27 ([c0,c1,c2,c3,c4,c5,c6,d0,d1,d2,d3,d4,d5,d6,e0,f0].take (Tryz.prog.cellsOf 27))=some y0:=hf 0 _ rfl
  have g1:DataW.trod enc Tryz.prog w 0 (fun _=>true) true m 27 ([d0,d1,d2,d3,d4,d5,d6,e0,f0].take (Tryz.prog.cellsOf 27))=some y1:=hf 1 _ rfl
  have g2:DataW.trod enc Tryz.prog w 0 (fun _=>true) true m 9 ([e0,f0].take (Tryz.prog.cellsOf 9))=some y2:=hf 2 _ rfl
  have g3:DataW.trod enc Tryz.prog w 0 (fun _=>true) true m 39 ([f0].take (Tryz.prog.cellsOf 39))=some y3:=hf 3 _ rfl
  clear hf h0
  rw [cellsExpr] at g0 g1
  rw [cellsStr] at g2
  rw [cellsValues] at g3
  change DataW.trod enc Tryz.prog w 0 (fun _=>true) true m 27 [c0,c1,c2,c3,c4,c5,c6]=some y0 at g0
  change DataW.trod enc Tryz.prog w 0 (fun _=>true) true m 27 [d0,d1,d2,d3,d4,d5,d6]=some y1 at g1
  change DataW.trod enc Tryz.prog w 0 (fun _=>true) true m 9 [e0]=some y2 at g2
  change DataW.trod enc Tryz.prog w 0 (fun _=>true) true m 39 [f0]=some y3 at g3
  obtain ⟨t,ht⟩:=open_tree m _ _ g0
  obtain ⟨u,hu⟩:=open_tree m _ _ g1
  obtain ⟨s,e3,rfl,hs⟩:=DataW.trod_string Tryz.underlying9 g2
  have hd:=(Prod.mk.inj hx).1
  rw [hd] at hb
  simp only [List.map_cons,List.map_nil,Rows.uptoBulk,Rows.uptoBulkAll] at hb
  obtain ⟨sl,bs,e4,hv,hl⟩:=read_values (d:=y3.1) (p:=y3.2) g3 (by omega)
  obtain ⟨hn1,hn2⟩:=txt_of s
  obtain rfl:e0=.string s:=(List.cons.inj e3).1
  refine ⟨[c0,c1,c2,c3,c4,c5,c6],[d0,d1,d2,d3,d4,d5,d6],t,u,s.data.toList.map (·.toNat),sl,bs,?_,rfl,rfl,ht (by omega),hu (by omega),hn2,hv,hl⟩
  rw [← hn1,← e4]
  show Value.agg cs=_
  rw [← Array.toArray_toList (xs:=cs),hcs]
  rfl
end Go.Proofs.YtbgicephinomlaaGreatDoor