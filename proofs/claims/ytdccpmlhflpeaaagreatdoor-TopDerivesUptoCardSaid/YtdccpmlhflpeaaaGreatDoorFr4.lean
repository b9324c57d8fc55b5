/- How a value that comes in is read by the statements' form: a struct of a bool and two slices of words. -/
import Derived.WalkKit
import Derived.ProofKit
import Derived.ChangeSlices
import Derived.ChangeSame
import Derived.RowKit
import Derived.OpenShut
import Derived.Lib.LaidTab
import Derived.Deep.DeepHandedRow
import Derived.Test.YtdccpmlhflpeaaaGreatDoorL3
import Derived.Test.YtdccpmlhflpeaaaGreatDoorCards
import Derived.Test.YtdccpmlhflpeaaaGreatDoorTie
import Derived.ChangeMaps5
set_option linter.all false
set_option maxRecDepth 20000
namespace Go.Proofs.YtdccpmlhflpeaaaGreatDoor
open Go Go.Proofs.Y Go.Vc Go.Dig Go.ChangeShapes Go.WideShapes Go.ChangeAt Go.RowKit

def eR(w:World):aA:=fun b=>w.heap[b]?
theorem aJb(w:World):Sat (eR w) [] w:=⟨fun _ _ h=>h,fun _ h=>(by cases h),fun _ h=>(by cases h),Ao⟩

theorem rD(b off i:Nat):Addr.add ⟨b,off,none⟩ i=⟨b,off+i,none⟩:=by
 unfold Addr.add;split<;>simp_all
theorem oS{w:World}{a:Addr}{v:Value}(h:w.cell? a=some v):a.spot=none/\∃c T fz,w.heap[a.block]?=some (.cells c T fz)/\c[a.off]?=some v:=by
 unfold World.cell? at h
 split at h
 .rename_i c T fz hc
  split at h
  .cases h
  .rename_i hn;exact⟨by cases hs:a.spot<;>simp_all,c,T,fz,hc,h⟩
 .cases h

section
variable {H:Type} {enc:TypeId × Value->H} {P:Program} {w:World} {base:Nat} {spare:Nat->Bool} {held:Bool}

theorem zO{t e:TypeId}{fuel:Nat}{cs:List Value}{x:DataW H × List MemPlace}(ht:P.underlying t=some (.slice e))(he:P.underlying e=some (.int .u32))(hc:P.cellsOf e=1)
  (h:DataW.trod enc P w base (fun _=>true) held fuel t cs=some x):
  ∃(s:Sl) (l:List Nat),cs=[s.val]/\Ws .u32 (eR w) s l/\(∀y∈l,y<4294967296)/\(x.1=.nil/\l=[]\/∃el sp,x.1=.slice el sp/\el.length=l.length)/\
   ∀(W':World) (sp':Nat->Bool),(∀a v,w.cell? a=some v->W'.cell? a=some v)->(∀p∈x.2,sp' p.block=true)->∀m,DataW.trod enc P W' base sp' held (m+2) t cs=some x:=by
 rcases open_ints ht he hc h with ⟨rfl,rfl⟩|⟨a,len,cap,zs,rfl,hba,hlc,hcm,hzl,rfl,hcell,hwf⟩
 .exact⟨⟨none,0,0⟩,[],rfl,Ws.nil rfl,by simp,.inl ⟨rfl,rfl⟩,fun W' sp' _ _ m=>by rw[DataW.trod_step];simp[DataW.trodStep,ht]⟩
 .have hle:len<=zs.length:=by rw[hzl];split<;>omega
  have hb:∀i,i<zs.length->0<=zs.getD i 0/\zs.getD i 0<4294967296:=fun i hi=>by
   have:=hwf (zs.getD i 0) (by simp[bC7,hi]);simp only[Lit.wf,bFx,decide_eq_true_eq] at this;rw[show IntKind.min .u32=0 from rfl,show IntKind.max .u32=4294967295 from rfl] at this;omega
  refine⟨⟨some a,len,cap⟩,(zs.take len).map Int.toNat,rfl,⟨by simp;omega,hlc,fun hne=>?_⟩,fun y hy=>?_,.inr ⟨_,_,rfl,?_⟩,fun W' sp' hkeep hsp m=>?_⟩
  .have hpos:0<len:=by
    rcases bE7 len with h0|h0
    .subst h0;simp at hne
    .exact h0
   have hz:∀i,i<zs.length->zs.getD i 0=(((zs.getD i 0).toNat:Nat):Int):=fun i hi=>by have:=hb i hi;omega
   obtain⟨b,off,spot⟩:=a;have h0:=hcell 0 Aa;rw[show Addr.add ⟨b,off,spot⟩ 0=⟨b,off,spot⟩ from rfl] at h0;obtain⟨hs,c,T,fz,hc,-⟩:=oS h0
   change spot=none at hs
   subst hs;refine⟨b,off,c,T,fz,rfl,hc,fun i hi=>?_⟩
   simp only[bDt,bDr] at hi;have h1:=hcell i Aa;rw[rD] at h1;obtain⟨-,c',T',fz',hc',h2⟩:=oS h1;rw[hc] at hc';cases hc';rw[h2];have e:=hz i Aa;have e2:((zs.take len).map Int.toNat).getD i 0=(zs.getD i 0).toNat:=by
    rw[bC7,bF1,bFb,if_pos Aa,bC7,bC8 Aa]
    rfl
   rw[e2,<-e]
  .obtain⟨z,hz,rfl⟩:=List.mem_map.1 hy;obtain⟨i,hi,rfl⟩:=bFh hz;simp only[bDr] at hi;have:=hb i Aa;rw[bC7,bC8 Aa,Option.getD_some] at this;rw[bHt];omega
  .simp[lits]
  .refine shut_ints m ht he hc hba hlc hcm ?_ (fun i hi=>hkeep _ _ (hcell i hi)) hwf
   rw[if_pos rfl] at hzl;rcases bE7 cap with h0|h0
   .split<;>omega
   .have:=hsp (.cell a.block a.off) (by
      obtain⟨n,hn⟩:∃n,zs.length=n+1:=⟨zs.length-1,Aa⟩
      rw[hn];simp[MemPlace.row,List.range_succ_eq_map])
    rw[show sp' a.block=true from this,if_pos rfl,hzl]
end
end Go.Proofs.YtdccpmlhflpeaaaGreatDoor
/- A rational value that comes in, opened; and what is left of it. -/
namespace Go.Proofs.YtdccpmlhflpeaaaGreatDoor
open Go Go.Proofs.Y Go.Vc Go.Dig Go.ChangeShapes Go.WideShapes Go.ChangeAt Go.RowKit

theorem aLa:Tryz.prog.cellsOf 24=3:=by kernel_rfl
theorem aLb:Tryz.prog.cellsOf 22=1:=by kernel_rfl
theorem aLc:Tryz.prog.cellsOf 105=1:=by kernel_rfl
theorem aRg:Tryz.prog.cellsOf 4=1:=by kernel_rfl

section
variable {H:Type} {enc:TypeId × Value->H} {w:World}

def aY7(l:List Nat)(d:DataW H):Prop:=d=.nil/\l=[]\/∃el sp,d=.slice el sp/\el.length=l.length

theorem zP{base:Nat}{t:Bool}{v:Value}{d:DataW H}{p:List MemPlace}(hval:∃cs,v=.agg cs)(h:DataW.Trod enc Tryz.prog w 0 (fun _=>true) t 24 v d p):
  ∃(n:Bool) (a b:Sl) (l m:List Nat) (dn dm:DataW H),v=.agg #[.bool n,a.val,b.val]/\Ws .u32 (eR w) a l/\Ws .u32 (eR w) b m/\(∀x∈l,x<4294967296)/\(∀x∈m,x<4294967296)/\
   d=.agg [.lit (.bool n),dn,dm]/\aY7 l dn/\aY7 m dm/\
   ∀(W':World) (sp':Nat->Bool),(∀a v,w.cell? a=some v->W'.cell? a=some v)->(∀q∈p,sp' q.block=true)->DataW.Trod enc Tryz.prog W' 0 sp' t 24 v d p:=by
 obtain⟨cs,rfl⟩:=hval;obtain⟨fuel,h⟩:=h;obtain⟨xs,n,rfl,hx,hlen,hxs,hf⟩:=DataW.trod_struct Tryz.underlying24 h;simp only[Value.cells] at hlen hf h;rw[aLa] at hlen
 match xs,hxs with
 | [y0,y1,y2],_=>
  obtain⟨c0,c1,c2,hcs⟩:∃c0 c1 c2,cs.toList=[c0,c1,c2]:=by
   match hc:cs.toList,hlen with
   | [c0,c1,c2],_=>exact⟨c0,c1,c2,rfl⟩
  have hcs':cs=#[c0,c1,c2]:=by rw[<-Array.toArray_toList (xs:=cs),hcs]
  subst hcs';have f0:DataW.trod enc Tryz.prog w 0 (fun _=>true) t n 4 ([c0,c1,c2].take (Tryz.prog.cellsOf 4))=some y0:=hf 0 _ rfl
  have f1:DataW.trod enc Tryz.prog w 0 (fun _=>true) t n 22 ([c1,c2].take (Tryz.prog.cellsOf 22))=some y1:=hf 1 _ rfl
  have f2:DataW.trod enc Tryz.prog w 0 (fun _=>true) t n 22 ([c2].take (Tryz.prog.cellsOf 22))=some y2:=hf 2 _ rfl
  clear hf h;rw[aRg] at f0;rw[aLb] at f1 f2
  change DataW.trod enc Tryz.prog w 0 (fun _=>true) t n 4 [c0]=some y0 at f0
  change DataW.trod enc Tryz.prog w 0 (fun _=>true) t n 22 [c1]=some y1 at f1
  change DataW.trod enc Tryz.prog w 0 (fun _=>true) t n 22 [c2]=some y2 at f2
  obtain⟨bn,e0,hy0⟩:=DataW.trod_bool Tryz.underlying4 f0;obtain⟨s1,l1,e1,w1,b1,p1,r1⟩:=zO Tryz.underlying22 Tryz.underlying105 aLc f1;obtain⟨s2,l2,e2,w2,b2,p2,r2⟩:=zO Tryz.underlying22 Tryz.underlying105 aLc f2;obtain rfl:c0=.bool bn:=(List.cons.inj e0).1;obtain rfl:c1=s1.val:=(List.cons.inj e1).1;obtain rfl:c2=s2.val:=(List.cons.inj e2).1;subst hy0;simp at hx;obtain⟨rfl,rfl⟩:=hx;refine⟨bn,s1,s2,l1,l2,y1.1,y2.1,rfl,w1,w2,b1,b2,rfl,p1,p2,fun W' sp' hk hs=>⟨3,?_⟩⟩
  have q1:=r1 W' sp' hk (fun q hq=>hs q (by simp[hq])) 0
  have q2:=r2 W' sp' hk (fun q hq=>hs q (by simp[hq])) 0
  have:=trod_struct_mk (enc:=enc) (P:=Tryz.prog) (w:=W') (base:=0) (spare:=sp') (held:=t) (n:=2) (cs:=[.bool bn,s1.val,s2.val]) (xs:=[(.lit (.bool bn),[]),y1,y2]) Tryz.underlying24 (by rw[aLa];rfl) (by
    have q0:DataW.trod enc Tryz.prog W' 0 sp' t 2 4 [.bool bn]=some (.lit (.bool bn),[]):=by rw[DataW.trod_step];simp[DataW.trodStep,Tryz.underlying4]
    simp[aRg,aLb];simp at q0 q1 q2;simp[q0,q1,q2])
  simp only[bEe,bFd,bHw,List.flatMap_nil,bEm,bDg] at this ⊢;exact this
end
end Go.Proofs.YtdccpmlhflpeaaaGreatDoor
/- The frame of a law of two values. -/
namespace Go.Proofs.YtdccpmlhflpeaaaGreatDoor
open Go Go.Proofs.Y Go.Vc Go.Dig Go.ChangeShapes Go.WideShapes Go.ChangeAt Go.RowKit

theorem own:ownKnob Tryz.prog.godebug=none:=by kernel_rfl
theorem bBu : Tryz.prog.globalNamed "math/bits.deBruijn32tab" = some Gl.math_bits_deBruijn32tab := by kernel_rfl

theorem aGf{H:Type}{enc:TypeId × Value->H}{P:Program}{f:Func}{s:ChangeSpec}{apart fresh handsOn again:Bool}{W W':World}{args:Array Value}{v:Value}{ds gs:List (DataW H)}{before pa pv:List MemPlace}
  (hW:DataW.Whole enc P f.params.toList s.vars apart W args.toList ds gs before)
  (hres:∀(b:Nat) (sp:Nat->Bool) (hd:Bool),DataW.TrodAll enc P W' b sp hd f.resultTypes.toList (v.resultList f.resultTypes.size) (s.fn H (ds++gs)).results [])
  (hargs:∀sp:Nat->Bool,(∀p∈before,sp p.block=true)->DataW.TrodAll enc P W' 0 sp true f.params.toList args.toList (s.fn H (ds++gs)).args pa)
  (hvars:∀sp:Nat->Bool,(∀p∈before,sp p.block=true)->DataW.TrodVars enc P W' sp s.vars (s.fn H (ds++gs)).vars pv)
  (hps:before=pa++pv) (hk:W.keptBut W' (·∈before)) (hfz:∀a:Addr,a.block<W.heap.size->W'.frozen? a=W.frozen? a)
  (hok:∀(j:Nat) (t:TypeId) (r:Value),f.resultTypes[j]?=some t->(v.resultList f.resultTypes.size)[j]?=some r->Value.okWide P W' .any 0 t r):
  s.post enc P f apart fresh handsOn again W args v W':=by
 have hold:∀p∈before,(fun b=>decide (b<W.heap.size)) p.block=true:=fun p hp=>by simpa using hW.lt p hp
 have hlt:=hW.lt;refine⟨ds,gs,before,[],pa,pv,hW,hres _ _ _,hargs _ hold,hvars _ hold,World.keptBut_mono (fun p hp=>⟨hp,?_⟩) hk,fun _=>?_⟩
 .rw[hps,bDf] at hp;exact Or.inr hp
 .obtain⟨_,_,_,_,_,hz,hn⟩:=hW;refine⟨hok,_,_,([]++pa)++pv,⟨[]++pa,pv,trodAll_append (hargs _ (fun _ _=>rfl)) (hres _ _ _),hvars _ (fun _ _=>rfl),rfl,?_,?_⟩,?_⟩
  .intro b off hp;have hb:MemPlace.cell b off∈before:=by rw[hps];simpa using hp
   rw[hfz _ (hlt _ hb)];exact hz b off hb
  .intro ha;have:=hn ha;rw[hps] at this
   simpa using this
  .intro p hp _;rw[hps]
   simpa using hp
theorem bBv{W : World}(h : Lib.TabIs Tryz.prog W "math/bits.deBruijn32tab" .u8 (aUr.map fun (n : Nat) => (n : Int))) : Tb (eR W) := by
 unfold Lib.TabIs World.var? at h;rw[bBu] at h;simp only[Option.bind_some] at h
 split at h
 .rename_i cs T fz hc;refine⟨T,fz,?_⟩;unfold eR;rw[hc];have:=Option.some.inj h;rw[this,bGx]
  rfl
 .cases h

theorem aV7{W W':World}{h h':aA}{L':Own}(i:Inv W h [] h' L' W')(may:MemPlace->Prop):W.keptBut W' may:=by
 refine⟨i.os,i.output,fun b hb=>?_⟩
 rw[i.fr b hb Ao]
 split<;>simp_all
theorem aNu{W W':World}{h h':aA}{L':Own}(i:Inv W h [] h' L' W')(a:Addr)(hb:a.block<W.heap.size):W'.frozen? a=W.frozen? a:=by
 unfold World.frozen?;rw[i.fr _ hb Ao]
theorem aRh{H:Type}(d:DataW H):0<Rows.uptoBulk d:=by
 match d with
 | .lit .nil=>simp[Rows.uptoBulk]
 | .lit (.string _)=>simp[Rows.uptoBulk]
 | .lit (.bool _)=>simp[Rows.uptoBulk]
 | .lit (.int _ _)=>simp[Rows.uptoBulk]
 | .lit (.float _ _)=>simp[Rows.uptoBulk]
 | .nil=>simp[Rows.uptoBulk]
 | .ptr _=>simp[Rows.uptoBulk]
 | .slice _ _=>simp[Rows.uptoBulk]
 | .agg _=>simp[Rows.uptoBulk]
 | .iface _ _=>simp[Rows.uptoBulk]
 | .map _=>simp[Rows.uptoBulk]
 | .held _=>simp[Rows.uptoBulk]
theorem zQ{H:Type}:∀l:List (DataW H),l.length<=Rows.uptoBulkAll l
 | []=>bDw _
 | d::l=>by
  have h1:=aRh d;have h2:=zQ l;simp only[Rows.uptoBulkAll,bDa];omega
theorem oT{H:Type}{l:List Nat}{d:DataW H}(h:aY7 l d):l.length<=Rows.uptoBulk d:=by
 rcases h with ⟨-,rfl⟩|⟨el,sp,rfl,h⟩
 .simp
 .have:=zQ el;simp only[Rows.uptoBulk];omega

end Go.Proofs.YtdccpmlhflpeaaaGreatDoor
/- The frame of a law of values and ints; the world of the witness. -/
namespace Go.Proofs.YtdccpmlhflpeaaaGreatDoor
open Go Go.Proofs.Y Go.Vc Go.Dig Go.ChangeShapes Go.WideShapes Go.ChangeAt Go.RowKit

inductive Arg where
 | rat (n:Bool) (a b:Sl) (l m:List Nat)
 | int (kd:IntKind) (n:Int)
 | str (s:ByteArray)
def Arg.val:Arg->Value
 | .rat n a b _ _=>.agg #[.bool n,a.val,b.val]
 | .int kd n=>.int kd n
 | .str s=>.string s
def Arg.ok(h:aA)(t:TypeId):Arg->Prop
 | .rat _ a b l m=>t=24/\bJ h a b l m
 | .int kd n=>Tryz.prog.underlying t=some (.int kd)/\kd.min<=n/\n<=kd.max
 | .str s=>Tryz.prog.underlying t=some .string/\s.size<=maxLen
def good(t:TypeId):Prop:=(t=24\/Tryz.prog.underlying t=some .string)\/∃kd,Tryz.prog.underlying t=some (.int kd)
section
variable {H:Type} {enc:TypeId × Value->H} {w:World}
end

def zd{H:Type}:DataW H:=.agg [.lit (.bool false),.nil,.nil]
theorem aRi:(Tryz.prog.globals[Gl.math_bits_deBruijn32tab]?).map (·.type)=some 267:=by kernel_rfl
end Go.Proofs.YtdccpmlhflpeaaaGreatDoor