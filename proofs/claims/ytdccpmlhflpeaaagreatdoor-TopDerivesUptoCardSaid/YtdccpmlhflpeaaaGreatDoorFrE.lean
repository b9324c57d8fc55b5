/- The frame of a law about expressions: two tables stand in memory; a world for the witness. -/
import Derived.Test.YtdccpmlhflpeaaaGreatDoorFr4
import Derived.Test.YtdccpmlhflpeaaaGreatDoorE29
set_option linter.all false
namespace Go.Proofs.YtdccpmlhflpeaaaGreatDoor
open Go Go.Proofs.Y Go.Vc Go.Dig Go.ChangeShapes Go.WideShapes Go.ChangeAt Go.RowKit
theorem bBw : Tryz.prog.globalNamed "internal/strconv.uint64pow10" = some Gl.internal_strconv_uint64pow10 := by kernel_rfl
theorem aRj:(Tryz.prog.globals[Gl.internal_strconv_uint64pow10]?).map (·.type)=some 275:=by kernel_rfl
theorem aY8{W : World}(h : Lib.TabIs Tryz.prog W "internal/strconv.uint64pow10" .u64 Lib.pow10Tab) : Pw (eR W) := by
 intro L w s
 show Lib.TabIs Tryz.prog w "internal/strconv.uint64pow10" .u64 Lib.pow10Tab
 unfold Lib.TabIs World.var? at h ⊢;rw[bBw] at h ⊢;simp only[Option.bind_some] at h ⊢;cases hc:W.heap[Gl.internal_strconv_uint64pow10]? with
 | none=>rw[hc] at h;cases h
 | some o=>
  have:=s.imm Gl.internal_strconv_uint64pow10 o (show eR W _=some o from hc);rw[this];rw[hc] at h;exact h
structure Tbs (h:aA):Prop where
 tb:Tb h
 pw:Pw h
def bCx:Lit->Value
 | .int k n=>.int k n
 | .bool b=>.bool b
 | _=>undef
mutual
def aX2:DataW Unit->List Value
 | .lit l=>[bCx l]
 | .agg ds=>aRk ds
 | _=>[]
def aRk:List (DataW Unit)->List Value
 | []=>[]
 | d::ds=>aX2 d++aRk ds
end
def aRl(P:Program):List (String × DataW Unit)->Array Obj->Array Obj
 | [],h=>h
 | (n,d)::r,h=>aRl P r (match P.globalNamed n with
   | some g=>h.modify g fun
     | .cells _ t fz=>.cells (aX2 d).toArray t fz
     | o=>o
   | none=>h)
noncomputable def laidWorldE (l:List (String × DataW Unit)) (os:Os):World:=
 { World.holding Tryz.prog os ⟨#[],#[],[]⟩ with heap:=aRl Tryz.prog l (World.holding Tryz.prog os ⟨#[],#[],[]⟩).heap }
theorem aRm{l : List (String × DataW Unit)}{W : World}(h1 : l.filter (fun x => x.1 == "math/bits.deBruijn32tab") = [("math/bits.deBruijn32tab", Lib.tabData .u8 (aUr.map fun (n : Nat) => (n : Int)))])
  (h2 : l.filter (fun x => x.1 == "internal/strconv.uint64pow10") = [("internal/strconv.uint64pow10", Lib.tabData .u64 Lib.pow10Tab)]) (h : laidMetH Tryz.prog l W) : Tbs (eR W) := by
 have e1 := h.filter fun x => x.1 == "math/bits.deBruijn32tab"
 have e2 := h.filter fun x => x.1 == "internal/strconv.uint64pow10"
 rw[h1] at e1;rw[h2] at e2;exact⟨bBv (Lib.tabIs_of_head (rest:=[]) bBu aRi Tryz.underlying267 Tryz.underlying5 (by kernel_rfl) (by kernel_rfl) e1),
   aY8 (Lib.tabIs_of_head (rest:=[]) bBw aRj Tryz.underlying275 Tryz.underlying61 (by kernel_rfl) (by kernel_rfl) e2)⟩
end Go.Proofs.YtdccpmlhflpeaaaGreatDoor