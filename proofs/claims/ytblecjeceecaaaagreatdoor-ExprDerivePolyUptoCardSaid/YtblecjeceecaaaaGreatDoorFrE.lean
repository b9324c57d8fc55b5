/- The frame of a law about expressions: two tables stand in memory; a world for the witness. -/
import Derived.Test.YtblecjeceecaaaaGreatDoorFr4
import Derived.Test.YtblecjeceecaaaaGreatDoorE29
set_option linter.all false
set_option maxRecDepth 20000
namespace Go.Proofs.YtblecjeceecaaaaGreatDoor
open Go Go.Proofs.Y Go.Vc Go.Dig Go.ChangeShapes Go.WideShapes Go.ChangeAt Go.RowKit
theorem bFr : Tryz.prog.globalNamed "internal/strconv.uint64pow10" = some Gl.internal_strconv_uint64pow10 := by kernel_rfl
theorem aUx:(Tryz.prog.globals[Gl.internal_strconv_uint64pow10]?).map (·.type)=some 360:=by kernel_rfl
theorem bDb{W : World}(h : Lib.TabIs Tryz.prog W "internal/strconv.uint64pow10" .u64 Lib.pow10Tab) : Pw (eM W) := by
 intro L w s
 show Lib.TabIs Tryz.prog w "internal/strconv.uint64pow10" .u64 Lib.pow10Tab
 unfold Lib.TabIs World.var? at h ⊢;rw[bFr] at h ⊢;simp only[Option.bind_some] at h ⊢;cases hc:W.heap[Gl.internal_strconv_uint64pow10]? with
 | none=>rw[hc] at h;cases h
 | some o=>
  have:=s.imm Gl.internal_strconv_uint64pow10 o (show eM W _=some o from hc);rw[this];rw[hc] at h;exact h
structure Tbs (h:aA):Prop where
 tb:Tb h
 pw:Pw h
def bHl:Lit->Value
 | .int k n=>.int k n
 | .bool b=>.bool b
 | _=>undef
mutual
def bCa:DataW Unit->List Value
 | .lit l=>[bHl l]
 | .agg ds=>aUy ds
 | _=>[]
def aUy:List (DataW Unit)->List Value
 | []=>[]
 | d::ds=>bCa d++aUy ds
end
def aUz(P:Program):List (String × DataW Unit)->Array Obj->Array Obj
 | [],h=>h
 | (n,d)::r,h=>aUz P r (match P.globalNamed n with
   | some g=>h.modify g fun
     | .cells _ t fz=>.cells (bCa d).toArray t fz
     | o=>o
   | none=>h)
noncomputable def laidWorldE (l:List (String × DataW Unit)) (os:Os):World:=
 { World.holding Tryz.prog os ⟨#[],#[],[]⟩ with heap:=aUz Tryz.prog l (World.holding Tryz.prog os ⟨#[],#[],[]⟩).heap }
theorem pZ{l : List (String × DataW Unit)}{W : World}(h1 : l.filter (fun x => x.1 == "math/bits.deBruijn32tab") = [("math/bits.deBruijn32tab", Lib.tabData .u8 (aSv.map fun (n : Nat) => (n : Int)))])
  (h2 : l.filter (fun x => x.1 == "internal/strconv.uint64pow10") = [("internal/strconv.uint64pow10", Lib.tabData .u64 Lib.pow10Tab)]) (h : laidMetH Tryz.prog l W) : Tbs (eM W) := by
 have e1 := h.filter fun x => x.1 == "math/bits.deBruijn32tab"
 have e2 := h.filter fun x => x.1 == "internal/strconv.uint64pow10"
 rw[h1] at e1;rw[h2] at e2;exact⟨bFq (Lib.tabIs_of_head (rest:=[]) bFp aUw Tryz.underlying321 Tryz.underlying5 (by kernel_rfl) (by kernel_rfl) e1),
   bDb (Lib.tabIs_of_head (rest:=[]) bFr aUx Tryz.underlying360 Tryz.underlying107 (by kernel_rfl) (by kernel_rfl) e2)⟩
theorem law_contractE(f:FuncId)(fn:Func)(s:ChangeSpec)(laid:List (String × DataW Unit))(ts:List TypeId)(hp:fn.params=ts.toArray)(hg:∀t∈ts,good t)(hr:fn.resultTypes=#[4])(hv:s.vars=[])
  (hs:∀(H:Type) (ds:List (DataW H)),ds.length=ts.length->s.fn H ds={ results:=[.lit (.bool true)],args:=ds })
  (htab:∀W,laidMetH Tryz.prog laid W->Tbs (eM W))
  (law:∀(h:aA) (xs:List Arg),Tbs h->oks h ts xs->Fn0 T f (xs.map Arg.val) h fun v _=>v=.bool true)
  (H:Type) (enc:TypeId × Value->H) (W:World) (base:Nat) (args:Array Value) (ds gs:List (DataW H)) (before:List MemPlace)
  (hval:∀(j:Nat) t v,fn.params[j]?=some t->args[j]?=some v->Value.okWide Tryz.prog W .any base t v)
  (hW:DataW.Whole enc Tryz.prog fn.params.toList s.vars false W args.toList ds gs before) (hk:Rows.uptoBulkAll (ds++gs)<=1048576\/24∉ts) (hL:laidMetH Tryz.prog laid W):
  Calls Tryz.prog f args W fun e W'=>∃v,e=.returned v/\s.post enc Tryz.prog fn false true false false W args v W':=by
 have hW':=hW;obtain⟨p,q,hA0,hV,rfl,hfz,hnd⟩:=hW;have hA:DataW.TrodAll enc Tryz.prog W 0 (fun _=>true) true fn.params.toList args.toList ds p:=hA0
 rw[hp] at hA hval;rw[hv] at hV;obtain⟨rfl,rfl⟩:=trodVars_none hV;obtain⟨xs,hargs,hlen,hoks,again⟩:=open_args (base:=base) hg (fun j t v h1 h2=>hval j t v (by simpa using h1) (by simpa using h2)) hA
 obtain rfl:args=(xs.map Arg.val).toArray:=by rw[<-Array.toArray_toList (xs:=args),hargs]
 rw[bIy] at hk;refine ((law _ xs (htab W hL) (hoks hk)).out W (aMm W)).mono fun e W' he=>?_
 cases e with
 | returned v=>
  obtain⟨h',L',i,-,rfl⟩:=he;refine⟨_,rfl,?_⟩;refine aJb (pa:=p) (pv:=[]) hW' (fun _ _ _=>?_) (fun sp hsp=>?_) (fun _ _=>?_) rfl (bAg i _) (aRb i) (ok_one hr rfl (okWide_bool_mk Tryz.underlying4 _))
  .rw[hr];simp only[bIy,hs _ _ hlen];exact trodAll_cons_mk (shut_bool Tryz.underlying4 _) trodAll_mk0
  .rw[hp];simp only[bIy,hs _ _ hlen]
   simpa using again W' sp (cell_of i) (fun q hq=>hsp q (by simpa using hq))
  .rw[hv];simp only[bIy,hs _ _ hlen]
   rfl
 | panicked _=>exact he.elim
 | outgrown=>exact he.elim
end Go.Proofs.YtblecjeceecaaaaGreatDoor