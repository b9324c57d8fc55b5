/- The frame of a law about expressions: two tables stand in memory; a world for the witness. -/
import Derived.Test.YtbgicephinomlaaGreatDoorFr4
import Derived.Test.YtbgicephinomlaaGreatDoorE29
import Derived.LaidSub
set_option linter.unusedVariables false
set_option linter.unusedSimpArgs false
namespace Go.Proofs.YtbgicephinomlaaGreatDoor
open Go Go.Vc Go.Dig Go.ChangeShapes Go.WideShapes Go.ChangeAt Go.RowKit
theorem gPow : Tryz.prog.globalNamed "internal/strconv.uint64pow10" = some Gl.internal_strconv_uint64pow10 := by kernel_rfl
theorem gPowType:(Tryz.prog.globals[Gl.internal_strconv_uint64pow10]?).map (·.type)=some 280:=by kernel_rfl
theorem pow_of {W : World} (h : Lib.TabIs Tryz.prog W "internal/strconv.uint64pow10" .u64 Lib.pow10Tab) : Pw (heapOf W) := by
 intro L w s
 show Lib.TabIs Tryz.prog w "internal/strconv.uint64pow10" .u64 Lib.pow10Tab
 unfold Lib.TabIs World.var? at h ⊢
 rw [gPow] at h ⊢
 simp only [Option.bind_some] at h ⊢
 cases hc:W.heap[Gl.internal_strconv_uint64pow10]? with
 | none=>rw [hc] at h;cases h
 | some o=>
  have:=s.imm Gl.internal_strconv_uint64pow10 o (show heapOf W _=some o from hc)
  rw [this]
  rw [hc] at h
  exact h
structure Tbs (h:Heap):Prop where
 tb:Tb h
 pw:Pw h
def litC:Lit→Value
 | .int k n=>.int k n
 | .bool b=>.bool b
 | _=>undef
mutual
def flatD:DataW Unit→List Value
 | .lit l=>[litC l]
 | .agg ds=>flatDs ds
 | _=>[]
def flatDs:List (DataW Unit)→List Value
 | []=>[]
 | d::ds=>flatD d++flatDs ds
end
def layAll (P:Program):List (String × DataW Unit)→Array Obj→Array Obj
 | [],h=>h
 | (n,d)::r,h=>layAll P r (match P.globalNamed n with
   | some g=>h.modify g fun
     | .cells _ t fz=>.cells (flatD d).toArray t fz
     | o=>o
   | none=>h)
noncomputable def laidWorldE (l:List (String × DataW Unit)) (os:Os):World:=
 { World.holding Tryz.prog os ⟨#[],#[],[]⟩ with heap:=layAll Tryz.prog l (World.holding Tryz.prog os ⟨#[],#[],[]⟩).heap }
theorem tbs_laid {l : List (String × DataW Unit)} {W : World} (h1 : l.filter (fun x => x.1 == "math/bits.deBruijn32tab") = [("math/bits.deBruijn32tab", Lib.tabData .u8 (tabL.map fun (n : Nat) => (n : Int)))])
  (h2 : l.filter (fun x => x.1 == "internal/strconv.uint64pow10") = [("internal/strconv.uint64pow10", Lib.tabData .u64 Lib.pow10Tab)]) (h : laidMetH Tryz.prog l W) : Tbs (heapOf W) := by
 have e1 := h.filter fun x => x.1 == "math/bits.deBruijn32tab"
 have e2 := h.filter fun x => x.1 == "internal/strconv.uint64pow10"
 rw [h1] at e1
 rw [h2] at e2
 exact ⟨tb_of (Lib.tabIs_of_head (rest:=[]) gTab gTabType Tryz.underlying274 Tryz.underlying5 (by kernel_rfl) (by kernel_rfl) e1),
   pow_of (Lib.tabIs_of_head (rest:=[]) gPow gPowType Tryz.underlying280 Tryz.underlying68 (by kernel_rfl) (by kernel_rfl) e2)⟩
end Go.Proofs.YtbgicephinomlaaGreatDoor