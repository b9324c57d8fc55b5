/- The engine speaks of the model: what gS tells of a frame holds of every run of the code. -/
import Derived.Test.YtdccpmlhflpeaaaGreatDoorVcDef
import Derived.Tactics
import Derived.Deep.Quiet
namespace Go.Vc
open Go
set_option linter.unusedSimpArgs false
set_option linter.unusedVariables false
def act(ρ:Env):Act:=⟨ρ.toArray,[]⟩
def sJ(ρ:Env)(d:Option Tmp)(v:Value):Env:=match d with|none=>ρ|some d=>ρ.set d v

theorem aBn:∀(ρ:Env) (t:Nat),rd ρ t=ρ.toArray.getD t undef
 | [],_=>by simp[rd]
 | _::_,0=>by simp[rd]
 | x::ρ,t+1=>by
  have:=aBn ρ t;simp only[rd,this];simp[Array.getD_eq_getD_getElem?]

theorem xJ{k:Value->Prop}:∀{ρ:Env} {t:Nat},rdK k ρ t↔k (rd ρ t)
 | [],_=>Iff.rfl
 | _::_,0=>Iff.rfl
 | _::ρ,t+1=>xJ (ρ:=ρ) (t:=t)

theorem aIa{v:Value}:∀{ρ:Env} {t:Nat} {k:Env->Prop},st v ρ t k↔k (ρ.set t v)
 | [],_,_=>by simp[st]
 | _::_,0,_=>by simp[st]
 | _::ρ,t+1,k=>by simp only[st,bFj];exact aIa (ρ:=ρ) (t:=t)

theorem rP{v:Value}{ρ:Env}{d:Option Tmp}{k:Env->Prop}:stO v ρ d k↔k (sJ ρ d v):=by
 cases d with
 | none=>exact Iff.rfl
 | some d=>exact aIa

theorem iN(ρ:Env)(d:Option Tmp)(v:Value):(act ρ).put d v=act (sJ ρ d v):=by
 cases d with
 | none=>rfl
 | some d=>simp[act,Act.put,sJ]

theorem dX{ρ:Env}{x:Operand}{k:Value->Prop}:ev ρ x k↔k ((act ρ).eval x):=by
 cases x with
 | tmp t=>simp only[ev,xJ,Act.eval,aBn,act]
 | const v=>exact Iff.rfl
 | global g=>exact Iff.rfl
 | func f=>exact Iff.rfl

theorem gO{ρ:Env}:∀{xs:List Operand} {k:List Value->Prop},evs ρ xs k↔k (xs.map (act ρ).eval)
 | [],_=>Iff.rfl
 | x::xs,k=>by simp only[evs,dX,gO (xs:=xs),bEe]

theorem aC9{ρ:Env}:∀{xs:List (Nat × Operand)} {k:List (Nat × Value)->Prop},evp ρ xs k↔k (xs.map fun p=>(p.1,(act ρ).eval p.2))
 | [],_=>Iff.rfl
 | (i,x)::xs,k=>by simp only[evp,dX,aC9 (xs:=xs),bEe]

theorem kM{α:Type}:∀{l:List α} {k:List α->Prop},aA7 l k↔k l
 | [],_=>Iff.rfl
 | x::xs,k=>by simp only[aA7,kM (l:=xs)]

theorem tS{α:Type}{v:α}:∀{l:List α} {t:Nat} {k:List α->Prop},vL v l t k↔k (l.set t v)
 | [],_,_=>by simp[vL]
 | _::_,0,_=>by simp[vL]
 | _::l,t+1,k=>by simp only[vL,bFj];exact tS (l:=l) (t:=t)

def nY:List Value->List Value->Nat->List Value
 | [],l,_=>l
 | v::vs,l,o=>nY vs (l.set o v) (o+1)

theorem rQ:∀{vs l:List Value} {o:Nat} {k:List Value->Prop},yF vs l o k↔k (nY vs l o)
 | [],_,_,_=>Iff.rfl
 | v::vs,l,o,k=>by simp only[yF,tS,rQ (vs:=vs),nY]

theorem iR:∀(vs l:List Value) (o:Nat),kE l.toArray o vs=(nY vs l o).toArray
 | [],_,_=>rfl
 | v::vs,l,o=>by simp only[kE,nY];rw[List.setIfInBounds_toArray];exact iR vs _ _

/-! ### Memory -/
theorem Sat.cell{h:aA}{L:Own}{w:World}(s:Sat h L w){a:Addr}{v:Value}(hh:Has h L a v):w.cell? a=some v:=by
 obtain⟨hs,c,T,fz,hb,hc⟩:=hh;have hw:w.heap[a.block]?=some (.cells c T fz):=by
  rcases hb with hb|hb
  .exact s.imm _ _ hb
  .exact s.own _ hb
 simp[World.cell?,hw,hs,hc]

theorem aH.refl(h:aA)(L:Own):aH h L h L:=fun _ _ x=>x
theorem aH.trans{h h' h'':aA}{L L' L'':Own}(a:aH h L h' L')(b:aH h' L' h'' L''):aH h L h'' L'':=fun _ _ x=>b _ _ (a _ _ x)
theorem yH{a b c d:Prop}(f:a->c)(g:b->d)(h:a\/b):c\/d:=h.elim (fun x=>.inl (f x)) (fun x=>.inr (g x))
theorem aA.lr(h:aA):h.le h:=fun _ _ x=>x
theorem Af{p:Prop}(h:p:=by first|assumption|exact aA.lr _):p:=h
theorem aA.lt{a b c:aA}(x:a.le b)(y:b.le c):a.le c:=fun _ _ z=>y _ _ (x _ _ z)
theorem Ac{p:Prop}(h:p:=by (iterate 30 try first|assumption|refine aA.lt ?_ (by assumption));first|done|assumption):p:=h
theorem As{p:Prop}(h:p:=by first|exact aA.lr _|assumption|exact aA.lt (by assumption) (by assumption)):p:=h
theorem Av{p:Prop}(h:p:=by first|exact aA.lr _|assumption|exact aA.lt (by assumption) (by assumption)|exact aA.lt (aA.lt (by assumption) (by assumption)) (by assumption)):p:=h
theorem aH.o{h h':aA}{L:Own}(x:h.le h'):aH h L h' L:=by
 rintro a v ⟨hs,c,T,fz,hb,hc⟩
 exact⟨hs,c,T,fz,yH (x _ _) id hb,hc⟩
theorem aH.cons{h:aA}{L:Own}(x:Nat × Obj):aH h L h (x::L):=by
 rintro a v ⟨hs,c,T,fz,hb,hc⟩
 exact⟨hs,c,T,fz,yH id (bDh _) hb,hc⟩

theorem Sat.load{T:Tab}{h:aA}{L:Own}{w:World}(s:Sat h L w){a:Addr}{v:Value}(hh:Has h L a v):(load a).run T.prog w=.ok v w:=by
 have:=s.cell hh;simp[load,Sem.run,this]

theorem nA{P:Program}{w:World}{a:Addr}:∀(n i:Nat) (acc vs:List Value),vs.length=n->(∀j,j<n->w.cell? (a.add (i+j))=some (vs.getD j undef))->
  (loadCellsFrom a i n acc.toArray).run P w=.ok (acc++vs).toArray w
 | 0,i,acc,vs,hl,_=>by
  have:vs=[]:=bD7.1 hl;subst this;simp[loadCellsFrom]
 | n+1,i,acc,vs,hl,hc=>by
  cases vs with
  | nil=>simp at hl
  | cons v vs=>
   have h0:=hc 0 Aa;simp only[bEh,bHg] at h0;have ih:=nA (P:=P) (w:=w) (a:=a) n (i+1) (acc++[v]) vs (by simpa using hl) (fun j hj=>by
     have:=hc (j+1) Aa;rw[show i+(j+1)=i+1+j by omega] at this
     simpa using this)
   simp only[loadCellsFrom,bEg];have hl':(load (a.add i)).run P w=.ok v w:=by simp[load,Sem.run,h0]
   rw[hl'];simp only[bEf];have:acc.toArray.push v=(acc++[v]).toArray:=by simp
   rw[this,ih];simp

theorem aA9{P:Program}{w:World}{a:Addr}{n:Nat}{vs:List Value}(hl:vs.length=n)(hc:∀j,j<n->w.cell? (a.add j)=some (vs.getD j undef)):
  (loadCells a n).run P w=.ok vs.toArray w:=by
 have:=nA (P:=P) (w:=w) (a:=a) n 0 [] vs hl (fun j hj=>by simpa using hc j hj)
 simpa[loadCells] using this

/-! ### The tables -/
section tabs
variable {T:Tab} (ok:T.Ok) {w:World}
include ok
theorem dR{t:TypeId}{d:TypeDesc}(h:T.und t=some d):(underlying t).run T.prog w=.ok d w:=by
 have:=ok.und _ _ h;simp[underlying,this]
theorem gD{t:TypeId}{z:List Value}{n:Nat}(h:T.inf t=some (z,n)):(sizeOf t).run T.prog w=.ok z.length w:=by
 obtain⟨i,v,h1,h2,h3,h4,h5⟩:=ok.inf _ _ _ h;simp[sizeOf,typeInfo,h1,h4]
theorem mH{t:TypeId}{z:List Value}{n:Nat}(h:T.inf t=some (z,n)):∃v,(zeroValue t).run T.prog w=.ok v w/\v.cells=z.toArray:=by
 obtain⟨i,v,h1,h2,h3,h4,h5⟩:=ok.inf _ _ _ h;exact⟨v,by simp[zeroValue,typeInfo,h1,h2],h3⟩
theorem aBo{t:TypeId}{z:List Value}{n:Nat}(h:T.inf t=some (z,n)):∃i,(typeInfo t).run T.prog w=.ok i w/\i.bytes=n/\i.size=z.length:=by
 obtain⟨i,v,h1,h2,h3,h4,h5⟩:=ok.inf _ _ _ h;exact⟨i,by simp[typeInfo,h1],h5,h4⟩
theorem xK{t:TypeId}{d:TypeDesc}(h:T.und t=some d):(isAgg t).run T.prog w=.ok (sR (T.und t)) w:=by
 simp only[isAgg,bEg,dR ok h,bEf,h];cases d<;>simp[sR]
end tabs
def Y(T:Tab)(h:aA)(L:Own)(s:Sem Value)(v:Value):Prop:=
 ∀h' L' w,aH h L h' L'->Sat h' L' w->s.run T.prog w=.ok v w

theorem Y.pure{T:Tab}{h:aA}{L:Own}(v:Value):Y T h L (Pure.pure v) v:=fun _ _ _ _ _=>rfl

theorem gK{op:BinOp}{kd kb:IntKind}(hk:kd=kb\/op=.shl\/op=.shr)(h1:op≠.shl)(h2:op≠.shr):kd=kb:=by
 rcases hk with h|h|h
 .exact h
 .exact (h1 h).elim
 .exact (h2 h).elim

theorem pD{T:Tab}{h:aA}{L:Own}{op:BinOp}{kd:IntKind}{a b:Int}{k:Value->Prop}(t:TypeId)(kb:IntKind)
  (hk:kd=kb\/op=.shl\/op=.shr) (hq:aC6 op kd a b k):∃v,k v/\Y T h L (binOp op t (.int kd a) (.int kb b)) v:=by
 cases op<;>simp only[aC6] at hq
 case add=>obtain⟨hq⟩:=hq;obtain rfl:=gK hk Ao Ao;exact⟨_,hq,fun _ _ _ _ _=>by simp[binOp,Op.intArith]⟩
 case sub=>obtain⟨hq⟩:=hq;obtain rfl:=gK hk Ao Ao;exact⟨_,hq,fun _ _ _ _ _=>by simp[binOp,Op.intArith]⟩
 case mul=>obtain⟨hq⟩:=hq;obtain rfl:=gK hk Ao Ao;exact⟨_,hq,fun _ _ _ _ _=>by simp[binOp,Op.intArith]⟩
 case quo=>obtain⟨hz,hq⟩:=hq;obtain rfl:=gK hk Ao Ao;exact⟨_,hq,fun _ _ _ _ _=>by simp[binOp,Op.intDiv,hz]⟩
 case rem=>obtain⟨hz,hq⟩:=hq;obtain rfl:=gK hk Ao Ao;exact⟨_,hq,fun _ _ _ _ _=>by simp[binOp,Op.intDiv,hz]⟩
 case and=>obtain⟨hq⟩:=hq;obtain rfl:=gK hk Ao Ao;exact⟨_,hq,fun _ _ _ _ _=>by simp[binOp,Op.intBits,bits]⟩
 case or=>obtain⟨hq⟩:=hq;obtain rfl:=gK hk Ao Ao;exact⟨_,hq,fun _ _ _ _ _=>by simp[binOp,Op.intBits,bits]⟩
 case xor=>obtain⟨hq⟩:=hq;obtain rfl:=gK hk Ao Ao;exact⟨_,hq,fun _ _ _ _ _=>by simp[binOp,Op.intBits,bits]⟩
 case andNot=>obtain⟨hq⟩:=hq;obtain rfl:=gK hk Ao Ao;exact⟨_,hq,fun _ _ _ _ _=>by simp[binOp,Op.intBits,bits]⟩
 case shl=>obtain⟨hn,hq⟩:=hq;exact⟨_,hq,fun _ _ _ _ _=>by simp[binOp,Op.shift,hn]⟩
 case shr=>obtain⟨hn,hq⟩:=hq;exact⟨_,hq,fun _ _ _ _ _=>by simp[binOp,Op.shift,hn]⟩
 all_goals obtain rfl:=gK hk Ao Ao
 case eql=>exact⟨_,hq,fun _ _ _ _ _=>by simp[binOp,Op.intCmp,eq];rfl⟩
 case neq=>exact⟨_,hq,fun _ _ _ _ _=>by simp[binOp,Op.intCmp,eq];rfl⟩
 case lss=>exact⟨_,hq,fun _ _ _ _ _=>by simp[binOp,Op.intCmp,lt]⟩
 case leq=>exact⟨_,hq,fun _ _ _ _ _=>by simp[binOp,Op.intCmp,le]⟩
 case gtr=>exact⟨_,hq,fun _ _ _ _ _=>by simp[binOp,Op.intCmp,lt]⟩
 case geq=>exact⟨_,hq,fun _ _ _ _ _=>by simp[binOp,Op.intCmp,le]⟩

theorem aDa{T:Tab}{h:aA}{L:Own}{op:BinOp}{a b:ByteArray}{k:Value->Prop}(t:TypeId)
  (hq:aH8 op a b k):∃v,k v/\Y T h L (binOp op t (.string a) (.string b)) v:=by
 cases op<;>simp only[aH8] at hq
 case add=>obtain⟨hs,hq⟩:=hq;exact⟨_,hq,fun _ _ _ _ _=>by
   have:¬(((a.size+b.size:Nat):Int)>IntKind.i64.max):=by simp[IntKind.max,IntKind.signed,IntKind.bits];omega
   simp only[binOp,Op.stringOp,if_neg this];rfl⟩
 all_goals exact⟨_,hq,fun _ _ _ _ _=>by simp[binOp,Op.stringOp,seq,slt]⟩

theorem aFh{P:Program}{w:World}(op:BinOp)(t:TypeId)(x y:Operand)(a b:Value)(h:∀u,a≠.agg u)(h':a≠.nilIface):(eqGuard op t x y a b).run P w=.ok () w:=by
 cases a with
 | agg u=>exact (h u rfl).elim
 | nilIface=>exact (h' rfl).elim
 | _=>cases op<;>cases b<;>simp[eqGuard]

theorem aDb{T:Tab}(ok:T.Ok){w:World}(d:Nat){t:TypeId}(h:T.und t=some .bool)(a b:Bool):(Op.equalIn (d+1) t (.bool a) (.bool b)).run T.prog w=.ok (a == b) w:=by
 simp only[Op.equalIn,bEg,dR ok h,bEf];rfl
theorem aBa{T:Tab}(ok:T.Ok){w:World}(d:Nat){t e:TypeId}(h:T.und t=some (.slice e))(a:Option Addr)(l c l' c':Nat):(Op.equalIn (d+1) t (.slice a l c) (.slice none l' c')).run T.prog w=.ok a.isNone w:=by
 cases a<;>(simp only[Op.equalIn,bEg,dR ok h,bEf];rfl)

theorem aFi{T:Tab}(ok:T.Ok){w:World}{t:TypeId}(h:T.und t=some .bool)(a b:Bool):
  (binOp .eql t (.bool a) (.bool b)).run T.prog w=.ok (.bool (beq a b)) w/\(binOp .neq t (.bool a) (.bool b)).run T.prog w=.ok (.bool (!beq a b)) w:=by
 have e:(Op.equal t (.bool a) (.bool b)).run T.prog w=.ok (a == b) w:=by
  exact aDb ok 9999 h a b
 constructor
 .simp only[binOp,bEg,e,bEf,beq];rfl
 .simp only[binOp,bEg,e,bEf,beq];rfl

theorem aBp{T:Tab}(ok:T.Ok){w:World}{t e:TypeId}(h:T.und t=some (.slice e))(a:Option Addr)(l c l' c':Nat):
  (binOp .eql t (.slice a l c) (.slice none l' c')).run T.prog w=.ok (.bool a.isNone) w/\(binOp .neq t (.slice a l c) (.slice none l' c')).run T.prog w=.ok (.bool (!a.isNone)) w:=by
 have e:(Op.equal t (.slice a l c) (.slice none l' c')).run T.prog w=.ok a.isNone w:=by
  exact aBa ok 9999 h a l c l' c'
 constructor
 .simp only[binOp,bEg,e,bEf];rfl
 .simp only[binOp,bEg,e,bEf];rfl

theorem aFj{T:Tab}(ok:T.Ok){h:aA}{L:Own}{t:TypeId}{a:Addr}{k:Value->Prop}{d:TypeDesc}(hd:T.und t=some d)(hagg:sR (T.und t)=false)
  (hq:Ld h L a k):∃v,k v/\Y T h L (loadVar t a) v:=by
 obtain⟨v,hv,hk⟩:=hq;refine⟨v,hk,fun h' L' w hle hs=>?_⟩
 have:=hs.load (T:=T) (hle _ _ hv);simp only[loadVar,bEg,xK ok hd,bEf,hagg];exact this

theorem aBq{T:Tab}(ok:T.Ok){h:aA}{L:Own}{t:TypeId}{a:Addr}{k:Value->Prop}{d:TypeDesc}(hd:T.und t=some d)(hagg:sR (T.und t)=true){z:List Value}{n:Nat}
  (hi:T.inf t=some (z,n)) (hq:LdN h L a z.length k):∃v,k v/\Y T h L (loadVar t a) v:=by
 obtain⟨vs,hl,hc,hk⟩:=hq;refine⟨_,hk,fun h' L' w hle hs=>?_⟩
 have:=aA9 (P:=T.prog) (w:=w) hl (fun j hj=>hs.cell (hle _ _ (hc j hj)))
 simp only[loadVar,bEg,xK ok hd,bEf,hagg,if_true,gD ok hi,this]
 rfl

theorem yI{T:Tab}(ok:T.Ok){h:aA}{L:Own}{t:TypeId}{cs:Array Value}{off:Nat}{k:Value->Prop}
  (hq:aFc T t cs.toList off k):∃v,k v/\Y T h L (part t cs off) v:=by
 unfold aFc at hq
 split at hq
 .rename_i d z n hagg hd hi;rw[kM] at hq;refine⟨_,hq,fun h' L' w _ _=>?_⟩
  simp only[part,bEg,xK ok hd,bEf,hagg,if_true,gD ok hi];have:(List.take z.length (List.drop off cs.toList)).toArray=cs.extract off (off+z.length):=by
   apply Array.ext'
   simp[List.extract_eq_take_drop]
  rw[this];rfl
 .rename_i d hagg hd
  split at hq
  .rename_i v hv;refine⟨_,hq,fun h' L' w _ _=>?_⟩
   simp only[part,bEg,xK ok hd,bEf,hagg];have:cs[off]?=some v:=by simpa using hv
   simp[this]
  .exact hq.elim
 .exact hq.elim
theorem aDc(l:List Value):∀(n off:Nat) (c:Array Value),(l.zipIdx n).foldl (fun cs (x:Value × Nat)=>cs.setIfInBounds (off+x.2) x.1) c=kE c (off+n) l:=by
 induction l with
 | nil=>intro n off c;rfl
 | cons v l ih=>
  intro n off c;simp only[List.zipIdx_cons,List.foldl_cons,kE];rw[ih (n+1) off]
  rfl

theorem sU{place:Nat->Option (Nat × Nat)}:∀(ps:List (Nat × Value)) (cells:List Value) {k:List Value->Prop},aBl place cells ps k->
  ∃l,Instr.fill place cells.toArray ps=some l.toArray/\k l
 | [],cells,k,h=>⟨cells,rfl,h⟩
 | (i,v)::rest,cells,k,h=>by
  simp only[aBl] at h
  split at h
  .exact h.elim
  .rename_i off size hp;rw[kM] at h;have hv:aH9 v=v.cells.toList:=by cases v<;>simp[Value.cells,aH9]
   rw[hv] at h
   split at h
   .rename_i hsz;rw[rQ] at h;obtain⟨l,h1,h2⟩:=sU rest _ h;refine⟨l,?_,h2⟩;simp only[Instr.fill,hp];have c1:¬(v.cells.size≠size):=by simpa using hsz.1
    have c2:¬(off+v.cells.size>cells.toArray.size):=by simpa using hsz.2
    simp only[ne_eq,gt_iff_lt,decide_eq_true_eq,bG5,decide_not] at *;rw[if_neg (by simp only[bGp,decide_eq_false_iff_not];rintro (h|h);exact c1 h;exact c2 h)]
    have:(v.cells.zipIdx.foldl (fun cs x=>cs.setIfInBounds (off+x.2) x.1) cells.toArray)=(nY v.cells.toList cells off).toArray:=by
     rw[<-Array.foldl_toList,Array.toList_zipIdx,aDc];exact iR _ _ _
    rw[this];exact h1
   .exact h.elim

theorem aFk{P:Program}{w:World}{α β:Type}(f:α->Sem β)(g:α->β):∀(l:List α),(∀x∈l,(f x).run P w=.ok (g x) w)->(l.mapM f).run P w=.ok (l.map g) w
 | [],_=>by simp
 | x::l,h=>by
  have h0:=h x Ao;have ih:=aFk f g l (fun y hy=>h y (by simp[hy]))
  simp[List.mapM_cons,bEg,h0,ih]

theorem aFl{T:Tab}(ok:T.Ok){h:aA}{L:Own}{t:TypeId}{z:List Value}{n:Nat}{fs:Array Field}{ps:List (Nat × Value)}{k:Value->Prop}
  (hi:T.inf t=some (z,n)) (hd:T.und t=some (.struct fs))
  (hq:aBl (fun i=>(fs[i]?).map fun f=>(f.offset,yG T f.type)) z ps fun l=>match fs.toList.all (fun f=>(T.inf f.type).isSome) with
    | true=>k (.agg l.toArray)
    | false=>False):
  ∃v,k v/\Y T h L (Instr.build t ps.toArray) v:=by
 obtain⟨l,h1,h2⟩:=sU _ _ hq
 split at h2
 .rename_i hall;refine⟨_,h2,fun h' L' w _ _=>?_⟩
  obtain⟨v,hz,hc⟩:=mH (w:=w) ok hi;have hm:(fs.mapM (fun (f:Field)=>do pure (f.offset,<-sizeOf f.type)):Sem (Array (Nat × Nat))).run T.prog w=.ok (fs.map fun (f:Field)=>(f.offset,yG T f.type)) w:=by
   rw[Array.mapM_eq_mapM_toList];have:=aFk (P:=T.prog) (w:=w) (fun f:Field=>(do pure (f.offset,<-sizeOf f.type):Sem (Nat × Nat))) (fun f:Field=>(f.offset,yG T f.type)) fs.toList (fun f hf=>by
     have hs:=List.all_eq_true.1 hall f hf;obtain⟨⟨z',n'⟩,hz'⟩:=Option.isSome_iff_exists.1 hs;simp[bEg,gD ok hz',yG,hz'])
   rw[Sem.run_map,this];simp;apply Array.ext';simp
  unfold Instr.build;simp only[bEg,hz,bEf,dR ok hd,hm];have hp:(fun (i:Nat)=>(fs.map fun (f:Field)=>(f.offset,yG T f.type))[i]?)=fun (i:Nat)=>(fs[i]?).map fun (f:Field)=>(f.offset,yG T f.type):=by
   funext i;simp
  rw[hp,hc,h1]
  rfl
 .exact h2.elim

theorem tT{ρ:Env}{x:Option Operand}{d:Int}{k:Int->Prop}(h:aMm ρ x d k):
  (x=none/\k d)\/∃o kd n,x=some o/\(act ρ).eval o=.int kd n/\k n:=by
 cases x with
 | none=>exact .inl ⟨rfl,h⟩
 | some o=>
  simp only[aMm,dX] at h
  split at h
  .rename_i kd n he;exact .inr ⟨o,kd,n,rfl,he,h⟩
  .exact h.elim

theorem rR{P:Program}{w:World}{kd:IntKind}{i:Nat}{y:Nat}{c:BoundsCode}(h:i<=y):(Instr.sliceBound (.int kd i) y c).run P w=.ok i w:=by
 simp only[Instr.sliceBound,asIntOf,bEg,bEj,bEf];rw[if_pos ⟨Aa,Aa⟩];simp

theorem yJ{P:Program}{w:World}{ρ:Env}{isSlice:Bool}{len cap l h:Nat}{lo hi:Option Operand}{ld hd:Int}
  (e1:(lo=none/\ld=0)\/∃o kd,lo=some o/\(act ρ).eval o=.int kd ld) (e2:(hi=none/\hd=len)\/∃o kd,hi=some o/\(act ρ).eval o=.int kd hd)
  (hl:ld=l) (hh:hd=h) (h1:l<=h) (h2:h<=cap):
  (Instr.sliceBounds isSlice len cap (lo.map (act ρ).eval) (hi.map (act ρ).eval) none).run P w=.ok (l,h,cap) w:=by
 subst hl;subst hh;unfold Instr.sliceBounds;rcases e1 with ⟨rfl,e1⟩|⟨o,kd,rfl,e1⟩<;>rcases e2 with ⟨rfl,e2⟩|⟨o',kd',rfl,e2⟩
 .have:h=len:=Aa;have:l=0:=Aa
  subst_vars;simp
 .have:l=0:=Aa;subst this;simp only[bG6,bGq,e2,bEg,bEj,bEf,rR h2]
 .have:h=len:=Aa;subst this;simp only[bG6,bGq,e1,bEg,bEj,bEf,rR h1]
 .simp only[bG6,bGq,e1,e2,bEg,bEj,bEf,rR h2,rR h1]

theorem aDd{T:Tab}(ok:T.Ok){ρ:Env}{h:aA}{L:Own}{o:Oper}{k:Value->Prop}(hq:qF T ρ h L o.op k):
  ∃v,k v/\∀h' L' w,aH h L h' L'->Sat h' L' w->(execOp (act ρ).eval o).run T.prog w=.ok (.value v) w:=by
 have lift:∀{s:Sem Value},(∃v,k v/\Y T h L s v)->(∀w,execOp (act ρ).eval o=(do pure (Next.value (<-s)):Sem Next)\/(execOp (act ρ).eval o).run T.prog w=(s.run T.prog w).andThen fun v w'=>.ok (.value v) w')->
   ∃v,k v/\∀h' L' w,aH h L h' L'->Sat h' L' w->(execOp (act ρ).eval o).run T.prog w=.ok (.value v) w:=by
  rintro s ⟨v,hk,hy⟩ he
  refine⟨v,hk,fun h' L' w a b=>?_⟩
  have:=hy h' L' w a b;rcases he w with he|he
  .rw[he];simp[bEg,this]
  .rw[he,this];rfl
 cases hop:o.op<;>simp only[hop,qF] at hq
 case move x=>exact⟨_,dX.1 hq,fun _ _ _ _ _=>by simp[execOp,hop]⟩
 case assign x=>exact⟨_,dX.1 hq,fun _ _ _ _ _=>by simp[execOp,hop]⟩
 case pick c a b=>
  simp only[dX] at hq
  split at hq
  .rename_i t ht;cases t
   .exact⟨_,hq,fun _ _ _ _ _=>by simp[execOp,hop,ht,asBool]⟩
   .exact⟨_,hq,fun _ _ _ _ _=>by simp[execOp,hop,ht,asBool]⟩
  .exact hq.elim
 case binOp op t x y u=>
  simp only[dX] at hq;have go:∀{s:Sem Value} (_:∀u,(act ρ).eval x≠.agg u) (_:(act ρ).eval x≠.nilIface),binOp op t ((act ρ).eval x) ((act ρ).eval y)=s->(∃v,k v/\Y T h L s v)->
    ∃v,k v/\∀h' L' w,aH h L h' L'->Sat h' L' w->(execOp (act ρ).eval o).run T.prog w=.ok (.value v) w:=by
   intro s h1 h2 hs hv;refine lift hv fun w=>.inr ?_
   simp only[execOp,hop,bEg,aFh op t x y _ _ h1 h2,bEf,hs]
   rfl
  split at hq
  .rename_i ka a kb b ha hb;refine go (s:=binOp op t (.int ka a) (.int kb b)) (by rw[ha];simp) (by rw[ha];simp) (by rw[ha,hb]) ?_
   split at hq
   .exact pD t kb (.inr (.inl rfl)) hq
   .exact pD t kb (.inr (.inr rfl)) hq
   .split at hq
    .rename_i hkk;exact pD t kb (.inl hkk) hq
    .exact hq.elim
  .rename_i a b ha hb;exact go (s:=binOp op t (.string a) (.string b)) (by rw[ha];simp) (by rw[ha];simp) (by rw[ha,hb]) (aDa t hq)
  .rename_i a b ha hb
   split at hq
   .rename_i hd;exact go (s:=binOp .eql t (.bool a) (.bool b)) (by rw[ha];simp) (by rw[ha];simp) (by rw[ha,hb]) ⟨_,hq,fun _ _ w _ _=>(aFi ok (w:=w) hd a b).1⟩
   .rename_i hd;exact go (s:=binOp .neq t (.bool a) (.bool b)) (by rw[ha];simp) (by rw[ha];simp) (by rw[ha,hb]) ⟨_,hq,fun _ _ w _ _=>(aFi ok (w:=w) hd a b).2⟩
   .exact hq.elim
  .rename_i a l c l' c' ha hb
   split at hq
   .rename_i e hd;exact go (s:=binOp .eql t (.slice a l c) (.slice none l' c')) (by rw[ha];simp) (by rw[ha];simp) (by rw[ha,hb]) ⟨_,hq,fun _ _ w _ _=>(aBp ok (w:=w) hd a l c l' c').1⟩
   .rename_i e hd;exact go (s:=binOp .neq t (.slice a l c) (.slice none l' c')) (by rw[ha];simp) (by rw[ha];simp) (by rw[ha,hb]) ⟨_,hq,fun _ _ w _ _=>(aBp ok (w:=w) hd a l c l' c').2⟩
   .exact hq.elim
  .exact hq.elim
 case unOp op t x=>
  simp only[dX] at hq
  split at hq
  .rename_i kd n ha;obtain⟨hq⟩:=hq;exact lift ⟨_,hq,fun _ _ _ _ _=>rfl⟩ fun w=>.inl (by simp only[execOp,hop,ha];rfl)
  .rename_i b ha;exact lift ⟨_,hq,fun _ _ _ _ _=>rfl⟩ fun w=>.inl (by simp only[execOp,hop,ha];rfl)
  .exact hq.elim
 case convert s d x=>
  simp only[dX] at hq
  split at hq
  .rename_i s' kd ki n hs hd ha;obtain⟨hq⟩:=hq;refine lift (s:=convert s d (.int ki n)) ⟨_,hq,fun _ _ w _ _=>?_⟩ fun w=>.inl (by simp only[execOp,hop,ha])
   unfold convert;simp only[bEg,dR ok hs,dR ok hd,bEf];cases s'<;>rfl
  .exact hq.elim
 case load t x=>
  simp only[dX] at hq
  split at hq
  .rename_i a ha
   split at hq
   .rename_i d z n hd hagg hi;refine lift (aBq ok hd hagg hi hq) fun w=>.inl ?_
    simp only[execOp,hop,ha];rfl
   .rename_i d hd hagg;refine lift (aFj ok hd hagg hq) fun w=>.inl ?_
    simp only[execOp,hop,ha];rfl
   .exact hq.elim
  .exact hq.elim
 case field t x f=>
  simp only[dX] at hq
  split at hq
  .rename_i fs cs hd ha
   split at hq
   .rename_i fl hf;obtain⟨v,hk,hy⟩:=yI ok (h:=h) (L:=L) hq;refine⟨v,hk,fun h' L' w a b=>?_⟩
    have:=hy h' L' w a b;simp only[execOp,hop,ha,bEg,Instr.field,dR ok hd,bEf,hf];simp[asAgg,this]
   .exact hq.elim
  .exact hq.elim
 case fieldAddr t x f=>
  simp only[dX] at hq
  split at hq
  .rename_i fs a hd ha
   split at hq
   .rename_i fl hf
    split at hq
    .rename_i v0 z n hi;refine⟨_,hq,fun h' L' w _ _=>?_⟩
     simp only[execOp,hop,ha,bEg,Instr.fieldAt,dR ok hd,bEf,hf,Instr.sureAddr,bEj,fieldPlace,gD ok hi];simp
    .exact hq.elim
   .exact hq.elim
  .exact hq.elim
 case indexAddr t x i=>
  simp only[dX] at hq
  split at hq
  .rename_i e a len cap ki i' hd ha hi
   split at hq
   .rename_i z n hz;obtain⟨ad,j,h1,h2,h3,hk⟩:=hq;refine⟨_,hk,fun h' L' w _ _=>?_⟩
    subst h1;subst h2;simp only[execOp,hop,ha,hi,bEg,Instr.indexAt,asIntOf,bEj,dR ok hd,bEf];rw[if_pos ⟨Aa,Aa⟩];simp[bEg,gD ok hz]
   .exact hq.elim
  .rename_i len e a ki i' hd ha hi
   split at hq
   .rename_i z n hz;obtain⟨ad,j,h1,h2,h3,hk⟩:=hq;refine⟨_,hk,fun h' L' w _ _=>?_⟩
    obtain rfl:=Option.some.inj h1;subst h2;simp only[execOp,hop,ha,hi,bEg,Instr.indexAt,asIntOf,bEj,dR ok hd,bEf,Instr.sureAddr];rw[if_pos ⟨Aa,Aa⟩];simp[bEg,gD ok hz]
   .exact hq.elim
  .exact hq.elim
 case index t x i=>
  simp only[dX] at hq
  split at hq
  .rename_i s ki i' hd ha hi;obtain⟨j,c,h1,h2,hk⟩:=hq;refine⟨_,hk,fun h' L' w _ _=>?_⟩
   subst h1;simp only[execOp,hop,ha,hi,bEg,Instr.index,asIntOf,bEj,dR ok hd,bEf];rw[if_pos Aa];simp[h2]
  .rename_i len e cs ki i' hd ha hi
   split at hq
   .rename_i z n hz;obtain⟨j,h1,h2,hp⟩:=hq;obtain⟨v,hk,hy⟩:=yI ok (h:=h) (L:=L) hp;refine⟨v,hk,fun h' L' w a b=>?_⟩
    have hy:=hy h' L' w a b;subst h1;simp only[execOp,hop,ha,hi,bEg,Instr.index,asIntOf,bEj,dR ok hd,bEf];rw[if_pos ⟨Aa,Aa⟩];simp[bEg,gD ok hz,hy]
   .exact hq.elim
  .exact hq.elim
 case nilCheck x=>
  simp only[dX] at hq
  split at hq
  .rename_i a ha;exact⟨_,hq,fun _ _ _ _ _=>by simp[execOp,hop,ha]⟩
  .exact hq.elim
 case extract x i=>
  simp only[dX] at hq
  split at hq
  .rename_i vs ha
   split at hq
   .rename_i v hv;exact⟨v,hq,fun _ _ _ _ _=>by simp[execOp,hop,ha,Instr.extract,hv]⟩
   .exact hq.elim
  .exact hq.elim
 case slice t x lo hi mx=>
  simp only[dX] at hq
  split at hq
  .rename_i e a len cap hd ha
   split at hq
   .rename_i z n hz;have q1:=tT hq;have:∃ld hd',((lo=none/\ld=0)\/∃o kd,lo=some o/\(act ρ).eval o=.int kd ld)/\((hi=none/\hd'=(len:Int))\/∃o kd,hi=some o/\(act ρ).eval o=.int kd hd')/\
      lH a ld hd' cap z.length fun a n c=>k (.slice a n c):=by
     rcases q1 with ⟨e1,q⟩|⟨o1,k1,n1,e1,e2,q⟩<;>rcases tT q with ⟨e3,q⟩|⟨o3,k3,n3,e3,e4,q⟩
     .exact⟨_,_,.inl ⟨e1,rfl⟩,.inl ⟨e3,rfl⟩,q⟩
     .exact⟨_,_,.inl ⟨e1,rfl⟩,.inr ⟨_,_,e3,e4⟩,q⟩
     .exact⟨_,_,.inr ⟨_,_,e1,e2⟩,.inl ⟨e3,rfl⟩,q⟩
     .exact⟨_,_,.inr ⟨_,_,e1,e2⟩,.inr ⟨_,_,e3,e4⟩,q⟩
    obtain⟨ld,hd',c1,c2,⟨l,h1,a',n',c',b1,b2,b4,b5,rfl,rfl,rfl,hk⟩⟩:=this;refine⟨_,hk,fun h' L' w _ _=>?_⟩
    have hb:=yJ (P:=T.prog) (w:=w) (isSlice:=true) c1 c2 b1 b2 b4 b5;simp only[execOp,hop,ha,bEg,Instr.sliceAt,Instr.slice,dR ok hd,bEf,bG6,hb,gD ok hz]
    rfl
   .exact hq.elim
  .rename_i s hd ha;have q1:=tT hq;have:∃ld hd',((lo=none/\ld=0)\/∃o kd,lo=some o/\(act ρ).eval o=.int kd ld)/\((hi=none/\hd'=(s.size:Int))\/∃o kd,hi=some o/\(act ρ).eval o=.int kd hd')/\
     Cut ld hd' s.size fun l hi m=>k (.string (s.extract l hi)):=by
    rcases q1 with ⟨e1,q⟩|⟨o1,k1,n1,e1,e2,q⟩<;>rcases tT q with ⟨e3,q⟩|⟨o3,k3,n3,e3,e4,q⟩
    .exact⟨_,_,.inl ⟨e1,rfl⟩,.inl ⟨e3,rfl⟩,q⟩
    .exact⟨_,_,.inl ⟨e1,rfl⟩,.inr ⟨_,_,e3,e4⟩,q⟩
    .exact⟨_,_,.inr ⟨_,_,e1,e2⟩,.inl ⟨e3,rfl⟩,q⟩
    .exact⟨_,_,.inr ⟨_,_,e1,e2⟩,.inr ⟨_,_,e3,e4⟩,q⟩
   obtain⟨ld,hd',c1,c2,⟨l,h1,m,b1,b2,b3,b4,b5,hk⟩⟩:=this;refine⟨_,hk,fun h' L' w _ _=>?_⟩
   have hb:=yJ (P:=T.prog) (w:=w) (isSlice:=false) c1 c2 b1 b2 b4 (cap:=s.size) Aa;have hn:(none:Option Value).isSome=false:=rfl;simp only[execOp,hop,ha,bEg,Instr.sliceAt,Instr.slice,dR ok hd,bEf,bG6,hn,bF4,if_false,bEj,hb]
  .exact hq.elim
 case build t ps=>
  split at hq
  .rename_i z n fs hi hd;rw[aC9] at hq;refine lift (aFl ok (h:=h) (L:=L) hi hd hq) fun w=>.inl ?_
   have e:(ps.map fun (x:Nat × Operand)=>(x.1,(act ρ).eval x.2))=(ps.toList.map fun p=>(p.1,(act ρ).eval p.2)).toArray:=by
    apply Array.ext';simp
   simp only[execOp,hop];rw[<-e]
  .exact hq.elim
 case makeFunc fn fs cs=>
  simp only[gO] at hq;refine⟨_,hq,fun _ _ _ _ _=>?_⟩
  have e:∀xs:Array Operand,xs.map (act ρ).eval=(xs.toList.map (act ρ).eval).toArray:=fun xs=>by apply Array.ext';simp
  simp[execOp,hop,Instr.makeFunc,e]
 case call c=>
  split at hq
  .rename_i hc
   split at hq
   .rename_i x t hx ht;simp only[dX] at hq;have ex:c.args=#[x]:=by apply Array.ext';simpa using hx
    have et:c.argTypes=#[t]:=by apply Array.ext';simpa using ht
    split at hq
    .rename_i e a n cap hd ha;refine⟨_,hq,fun _ _ w _ _=>?_⟩
     simp[execOp,hop,resolve,hc,invoke,builtin,ex,et,ha,bEg,Builtin.len_,dR ok hd,goInt]
    .rename_i s hd ha;refine⟨_,hq,fun _ _ w _ _=>?_⟩
     simp[execOp,hop,resolve,hc,invoke,builtin,ex,et,ha,bEg,Builtin.len_,dR ok hd,goInt]
    .exact hq.elim
   .exact hq.elim
  .rename_i hc;simp only[gO] at hq
   split at hq
   .rename_i ka a kb b hvs;refine⟨_,hq,fun _ _ w _ _=>?_⟩
    have:(c.args.map (act ρ).eval)=#[.int ka a,.int kb b]:=by apply Array.ext';simpa using hvs
    simp[execOp,hop,resolve,hc,invoke,builtin,this,bEg,Builtin.min_,Builtin.min2,mm]
   .exact hq.elim
  .rename_i hc;simp only[gO] at hq
   split at hq
   .rename_i ka a kb b hvs;refine⟨_,hq,fun _ _ w _ _=>?_⟩
    have:(c.args.map (act ρ).eval)=#[.int ka a,.int kb b]:=by apply Array.ext';simpa using hvs
    simp[execOp,hop,resolve,hc,invoke,builtin,this,bEg,Builtin.max_,Builtin.max2,mm]
   .exact hq.elim
  .exact hq.elim
structure Upd (w:World) (b:Nat) (o:Obj) (w':World):Prop where
 at_:w'.heap[b]?=some o
 other:∀x,x≠b->w'.heap[x]?=w.heap[x]?
 size:w'.heap.size=w.heap.size
 os:w'.os=w.os
 tape:w'.tape=w.tape
 output:w'.output=w.output
 sft:aH7 o

theorem eX{w:World}{b off:Nat}{c:Array Value}{T:TypeId}(hw:w.heap[b]?=some (.cells c T (0,0)))(v:Value):
  Upd w b (.cells (c.setIfInBounds off v) T (0,0)) (w.setCell ⟨b,off,none⟩ v):=by
 refine⟨?_,fun x hx=>?_,by simp[World.setCell],rfl,rfl,rfl,rfl⟩
 .simp[World.setCell,Array.getElem?_modify,hw]
 .simp only[World.setCell,Array.getElem?_modify];rw[if_neg (by simpa using Ne.symm hx)]

theorem Upd.trans{w w1 w2:World}{b:Nat}{o o':Obj}(x:Upd w b o w1)(y:Upd w1 b o' w2):Upd w b o' w2:=
 ⟨y.at_,fun z hz=>(y.other z hz).trans (x.other z hz),y.size.trans x.size,y.os.trans x.os,y.tape.trans x.tape,y.output.trans x.output,y.sft⟩

theorem aMo{P:Program}{w:World}{b off:Nat}{c:Array Value}{T:TypeId}(hw:w.heap[b]?=some (.cells c T (0,0)))(ho:off<c.size){v:Value}(hv:gC v=true):
  (store ⟨b,off,none⟩ v).run P w=.ok () (w.setCell ⟨b,off,none⟩ v):=by
 have hc:w.cell? ⟨b,off,none⟩=some c[off]:=by simp[World.cell?,hw,ho]
 have hf:w.frozen? ⟨b,off,none⟩=false:=by simp[World.frozen?,hw]
 cases v<;>simp[gC] at hv<;>simp[store,Sem.run,hc,hf]

theorem mI{P:Program}{b:Nat}{T:TypeId}:∀(vs:List Value) (w:World) (off i:Nat) (c:Array Value),w.heap[b]?=some (.cells c T (0,0))->off+i+vs.length<=c.size->vs.all gC=true->
  ∃w',(storeCells ⟨b,off,none⟩ vs i).run P w=.ok () w'/\(vs=[]/\w'=w\/Upd w b (.cells (kE c (off+i) vs) T (0,0)) w')
 | [],w,off,i,c,_,_,_=>⟨w,by simp[storeCells],.inl ⟨rfl,rfl⟩⟩
 | v::vs,w,off,i,c,hw,hl,ha=>by
  simp only[List.all_cons,bFx] at ha;simp only[bDa] at hl;have hadd:(⟨b,off,none⟩:Addr).add i=⟨b,off+i,none⟩:=by unfold Addr.add;split<;>simp_all
  have h1:=aMo (P:=P) hw (off:=off+i) Aa ha.1;have u1:=eX (off:=off+i) hw v;obtain⟨w',h2,h3⟩:=mI (P:=P) vs _ off (i+1) _ u1.at_ Aq ha.2;refine⟨w',?_,.inr ?_⟩
  .simp only[storeCells,bEg,hadd,h1,bEf,h2]
  .rcases h3 with ⟨rfl,rfl⟩|h3
   .exact u1
   .exact u1.trans h3

theorem aBr{l:List Nat}(h:l.Nodup){i j:Nat}(hi:i<l.length)(hj:j<l.length)(e:l[i]=l[j]):i=j:=by
 rcases Nat.lt_trichotomy i j with h1|h1|h1
 .exact absurd e (List.pairwise_iff_getElem.1 h i j hi hj h1)
 .exact h1
 .exact absurd e.symm (List.pairwise_iff_getElem.1 h j i hj hi h1)

section inv
variable {w0:World} {h0:aA} {L0:Own} {h:aA} {L:Own} {w:World}

theorem Inv.lt_own(i:Inv w0 h0 L0 h L w){x:Nat × Obj}(hx:x∈L):x.1<w.heap.size:=(Array.getElem?_eq_some_iff.1 (i.own _ hx)).1
theorem Sat.lt_own(i:Sat h L w){x:Nat × Obj}(hx:x∈L):x.1<w.heap.size:=(Array.getElem?_eq_some_iff.1 (i.own _ hx)).1
theorem Sat.lt_imm(i:Sat h L w){b:Nat}{o:Obj}(hx:h b=some o):b<w.heap.size:=(Array.getElem?_eq_some_iff.1 (i.imm _ _ hx)).1

theorem Inv.init(s:Sat h L w):Inv w h L h L w:=
 { s with os:=rfl,tape:=rfl,output:=rfl,size:=bDx _,fr:=fun _ _ _=>rfl,hle:=fun _ _ x=>x,hnew:=fun _ _ x _ _=>x,
          lnew:=fun x hx _=>bDy hx,lsoft:=fun hs=>hs,
          frz:=fun hs b o hb ho=>by
            rcases hb with hb|hb
            .rw[Array.getElem?_eq_none Aa] at ho;cases ho
            .obtain⟨x,hx,rfl⟩:=List.mem_map.1 hb;rw[s.own x hx] at ho;cases ho;exact hs x hx }

theorem Inv.alloc(i:Inv w0 h0 L0 h L w)(o:Obj)(hso:aH7 o):Inv w0 h0 L0 h ((w.heap.size,o)::L) { w with heap:=w.heap.push o } where
 imm b o' hb:=by
  have:=i.toSat.lt_imm hb;show (w.heap.push o)[b]?=_;rw[Array.getElem?_push,if_neg Aa];exact i.imm _ _ hb
 own x hx:=by
  show (w.heap.push o)[x.1]?=_
  rw[Array.getElem?_push];rcases bDp.1 hx with rfl|hx
  .simp
  .have:=i.lt_own hx;rw[if_neg Aa];exact i.own _ hx
 sep x hx:=by
  rcases bDp.1 hx with rfl|hx
  .cases hh:h w.heap.size with
   | none=>rfl
   | some o'=>have:=i.toSat.lt_imm hh;omega
  .exact i.sep _ hx
 nd:=by
  simp only[bEe,List.nodup_cons];refine⟨fun hm=>?_,i.nd⟩
  obtain⟨x,hx,he⟩:=List.mem_map.1 hm;have:=i.lt_own hx;omega
 os:=i.os
 tape:=i.tape
 output:=i.output
 size:=by have:=i.size;simp;omega
 fr b hb hn:=by
  have:=i.size;show (w.heap.push o)[b]?=_;rw[Array.getElem?_push,if_neg Aa];exact i.fr b hb hn
 hle:=i.hle
 hnew:=i.hnew
 lnew x hx hl:=by
  rcases bDp.1 hx with rfl|hx
  .have:=i.size;simp at hl;omega
  .exact i.lnew _ hx hl
 lsoft hs x hx:=by
  rcases bDp.1 hx with rfl|hx
  .exact hso
  .exact i.lsoft hs x hx
 frz hs b o' hb ho:=by
  have ho:(w.heap.push o)[b]?=some o':=ho;rw[Array.getElem?_push] at ho
  split at ho
  .cases ho;exact hso
  .exact i.frz hs b o' hb ho

theorem Inv.drew(i:Inv w0 h0 L0 h L w):Inv w0 h0 L0 h L { w with drawn:=w.drawn+1 }:=
 ⟨⟨i.imm,i.own,i.sep,i.nd⟩,i.os,i.tape,i.output,i.size,i.fr,i.hle,i.hnew,i.lnew,i.lsoft,i.frz⟩

theorem Inv.upd(i:Inv w0 h0 L0 h L w){n b:Nat}{o o':Obj}{w':World}(hn:L[n]?=some (b,o))(u:Upd w b o' w'):Inv w0 h0 L0 h (L.set n (b,o')) w':=by
 obtain⟨hlt,hget⟩:=bC9.1 hn;have hmem:(b,o)∈L:=bDc hn;have hkeys:(L.set n (b,o')).map (·.1)=L.map (·.1):=by
  rw[List.map_set];apply bGr;intro j;rw[bHa]
  split
  .rename_i e;subst e;simp[hlt,hget]
  .rfl
 have hmem':∀x∈L.set n (b,o'),x=(b,o')\/(x∈L/\x.1≠b):=by
  intro x hx;obtain⟨j,hj,hjx⟩:=bFh hx;simp only[bFu] at hj;rw[List.getElem_set] at hjx
  split at hjx
  .exact .inl hjx.symm
  .rename_i hne;subst hjx;refine .inr ⟨bFe hj,fun he=>?_⟩
   have nd:=i.nd;exact hne (aBr nd (i:=n) (j:=j) (by simpa using hlt) (by simpa using hj) (by simp[hget,he]))
 refine⟨⟨fun b' x hb=>?_,fun x hx=>?_,fun x hx=>?_,by rw[hkeys];exact i.nd⟩,u.os.trans i.os,u.tape.trans i.tape,u.output.trans i.output,by rw[u.size];exact i.size,
   fun b' hb' hn'=>?_,i.hle,i.hnew,fun x hx hl=>?_,fun hs x hx=>?_,fun hs b' x hb ho=>?_⟩
 .have hne:b'≠b:=fun e=>by subst e;have:=i.sep _ hmem;simp[hb] at this
  rw[u.other _ hne];exact i.imm _ _ hb
 .rcases hmem' x hx with rfl|⟨hx,hne⟩
  .exact u.at_
  .rw[u.other _ hne];exact i.own _ hx
 .rcases hmem' x hx with rfl|⟨hx,_⟩
  .exact (i.sep _ hmem :)
  .exact i.sep _ hx
 .have hne:b'≠b:=fun e=>by subst e;exact hn' (i.lnew _ hmem hb')
  rw[u.other _ hne];exact i.fr _ hb' hn'
 .rcases hmem' x hx with rfl|⟨hx,_⟩
  .exact (i.lnew _ hmem hl :)
  .exact i.lnew _ hx hl
 .rcases hmem' x hx with rfl|⟨hx,_⟩
  .exact u.sft
  .exact i.lsoft hs x hx
 .by_cases hbb:b'=b
  .subst hbb;rw[u.at_] at ho;cases ho;exact u.sft
  .rw[u.other _ hbb] at ho;exact i.frz hs b' x hb ho

theorem Inv.eraseIdx(i:Inv w0 h0 L0 h L w)(n:Nat):Inv w0 h0 L0 h (L.eraseIdx n) w:=
 ⟨⟨i.imm,fun x hx=>i.own _ (bGs hx),fun x hx=>i.sep _ (bGs hx),(List.Sublist.nodup (List.Sublist.map _ (List.eraseIdx_sublist _ _)) i.nd)⟩,
   i.os,i.tape,i.output,i.size,i.fr,i.hle,i.hnew,fun x hx=>i.lnew _ (bGs hx),fun hs x hx=>i.lsoft hs x (bGs hx),i.frz⟩

theorem Inv.keep(i:Inv w0 h0 L0 h L w){n b:Nat}{o:Obj}(hn:L[n]?=some (b,o)):Inv w0 h0 L0 (h.put b o) (L.eraseIdx n) w:=by
 have hmem:(b,o)∈L:=bDc hn;obtain⟨hlt,hget⟩:=bC9.1 hn;have j:=i.eraseIdx n;have hne:∀x∈L.eraseIdx n,x.1≠b:=by
  intro x hx he;obtain⟨m,hm,hmn,hmx⟩:=List.mem_eraseIdx_iff_getElem.1 hx;subst hmx;exact hmn (aBr i.nd (i:=n) (j:=m) (by simpa using hlt) (by simpa using hm) (by simp[hget,he])).symm
 refine⟨⟨fun b' x hb=>?_,j.own,fun x hx=>?_,j.nd⟩,i.os,i.tape,i.output,i.size,i.fr,fun b' x hb=>?_,fun b' x hb hl hn'=>?_,j.lnew,j.lsoft,i.frz⟩
 .unfold aA.put at hb
  split at hb
  .rename_i e;subst e;cases hb;exact i.own _ hmem
  .exact i.imm _ _ hb
 .unfold aA.put;rw[if_neg (hne x hx)];exact j.sep _ hx
 .have:b'≠b:=fun e=>by subst e;have:=i.sep _ hmem;simp[i.hle _ _ hb] at this
  unfold aA.put;rw[if_neg this];exact i.hle _ _ hb
 .unfold aA.put at hb
  split at hb
  .rename_i e;subst e;exact (hn' (i.lnew _ hmem hl)).elim
  .exact i.hnew _ _ hb hl hn'

theorem Inv.perm(i:Inv w0 h0 L0 h L w){L':Own}(p:L.Perm L'):Inv w0 h0 L0 h L' w:=
 ⟨⟨i.imm,fun x hx=>i.own _ (p.mem_iff.2 hx),fun x hx=>i.sep _ (p.mem_iff.2 hx),(p.map _).nodup_iff.1 i.nd⟩,i.os,i.tape,i.output,i.size,i.fr,i.hle,i.hnew,fun x hx=>i.lnew _ (p.mem_iff.2 hx),fun hs x hx=>i.lsoft hs x (p.mem_iff.2 hx),i.frz⟩

theorem Inv.le_keep(i:Inv w0 h0 L0 h L w){n b:Nat}{o:Obj}(hn:L[n]?=some (b,o)):h.le (h.put b o):=fun b' x hb=>by
 have hmem:(b,o)∈L:=bDc hn;have:b'≠b:=fun e=>by subst e;have:=i.sep _ hmem;simp[hb] at this
 unfold aA.put;rw[if_neg this];exact hb

theorem Inv.fz{P:aA->Own->Prop}(f:FzN P h L):Inv w0 h0 L0 h L w->∃h' L',P h' L'/\Inv w0 h0 L0 h' L' w:=by
 induction f with
 | done r=>exact fun i=>⟨_,_,r,i⟩
 | keep n hn r ih=>exact fun i=>ih (i.le_keep hn) (i.keep hn)
 | drop n r ih=>exact fun i=>ih (i.eraseIdx n)

theorem Inv.call{La Lb La':Own}{h':aA}{w':World}(i:Inv w0 h0 L0 h (La++Lb) w)(c:Inv w h La h' La' w'):Inv w0 h0 L0 h' (La'++Lb) w':=by
 have nd:=i.nd;rw[bDl,bGt] at nd;obtain⟨nda,ndb,ndab⟩:=nd;have hb:∀x∈Lb,x.1<w.heap.size/\x.1∉La.map (·.1):=fun x hx=>
  ⟨i.lt_own (bD0 _ hx),fun hm=>ndab _ hm _ (bDy hx) rfl⟩
 refine⟨⟨c.imm,fun x hx=>?_,fun x hx=>?_,?_⟩,c.os.trans i.os,c.tape.trans i.tape,c.output.trans i.output,bDv i.size c.size,fun b hl hn=>?_,fun b o hb=>c.hle _ _ (i.hle _ _ hb),fun b o ho hl hn=>?_,fun x hx hl=>?_,fun hs x hx=>?_,fun hs b o hb ho=>?_⟩
 .rcases bDf.1 hx with hx|hx
  .exact c.own _ hx
  .obtain⟨h1,h2⟩:=hb x hx;rw[c.fr _ h1 h2];exact i.own _ (bD0 _ hx)
 .rcases bDf.1 hx with hx|hx
  .exact c.sep _ hx
  .obtain⟨h1,h2⟩:=hb x hx;cases hh:h' x.1 with
   | none=>rfl
   | some o=>have:=c.hnew _ _ hh h1 h2;have:=i.sep _ (bD0 _ hx);simp_all
 .rw[bDl,bGt];refine⟨c.nd,ndb,fun a ha b hb' e=>?_⟩
  subst e;obtain⟨x,hx,rfl⟩:=List.mem_map.1 ha;obtain⟨y,hy,he⟩:=List.mem_map.1 hb';obtain⟨h1,h2⟩:=hb y hy;rw[he] at h1 h2;exact h2 (c.lnew x hx h1)
 .have hnot:b∉La.map (·.1):=fun hm=>by
   obtain⟨x,hx,rfl⟩:=List.mem_map.1 hm;exact hn (i.lnew _ (bDz _ hx) hl)
  rw[c.fr _ (bD9 hl i.size) hnot];exact i.fr _ hl hn
 .have hnot:b∉La.map (·.1):=fun hm=>by
   obtain⟨x,hx,rfl⟩:=List.mem_map.1 hm;exact hn (i.lnew _ (bDz _ hx) hl)
  exact i.hnew _ _ (c.hnew _ _ ho (bD9 hl i.size) hnot) hl hn
 .rcases bDf.1 hx with hx|hx
  .have:=c.lnew _ hx (bD9 hl i.size);obtain⟨y,hy,he⟩:=List.mem_map.1 this;rw[<-he] at hl ⊢;exact i.lnew _ (bDz _ hy) hl
  .exact i.lnew _ (bD0 _ hx) hl
 .have hab:=i.lsoft hs;rcases bDf.1 hx with hx|hx
  .exact c.lsoft (fun y hy=>hab y (bDz _ hy)) x hx
  .exact hab x (bD0 _ hx)
 .have hab:=i.lsoft hs;by_cases h1:w.heap.size<=b\/b∈La.map (·.1)
  .exact c.frz (fun y hy=>hab y (bDz _ hy)) b o h1 ho
  .have h2:b<w.heap.size:=Aa;have h3:b∉La.map (·.1):=fun x=>h1 (.inr x)
   rw[c.fr b h2 h3] at ho;exact i.frz hs b o hb ho
end inv
section
variable {T:Tab} {w0:World} {h0:aA} {L0:Own} {ρ:Env} {h:aA} {L:Own} {w:World} {o:Oper} {k:Value->aA->Own->Prop} {K:Act->World->Prop} {Q:Exit->Act->World->Prop}

def bBb(w0:World)(h0:aA)(L0:Own)(k:Value->aA->Own->Prop)(ρ:Act)(o:Oper)(K:Act->World->Prop):Prop:=
 ∀v h' L' w',Inv w0 h0 L0 h' L' w'->k v h' L'->K (ρ.put o.dst v) w'

theorem aX{a:Act}{v:Value}{w':World}(hr:(execOp a.eval o).run T.prog w=.ok (.value v) w')(hk:K (a.put o.dst v) w'):o.wp T.prog a w K Q:=by
 unfold Oper.wp;rw[hr];exact hk
theorem qO{a:Act}{w':World}(hr:(execOp a.eval o).run T.prog w=.ok .skip w')(hk:K (a.put o.dst undef) w'):o.wp T.prog a w K Q:=by
 unfold Oper.wp;rw[hr];exact hk

theorem yK(ok:T.Ok)(hq:qF T ρ h L o.op fun v=>k v h L)(inv:Inv w0 h0 L0 h L w)(hK:bBb w0 h0 L0 k (act ρ) o K):o.wp T.prog (act ρ) w K Q:=by
 obtain⟨v,hv,hr⟩:=aDd ok hq;exact aX (hr h L w (aH.refl _ _) inv.toSat) (hK _ _ _ _ inv hv)

theorem fR{P:Program}(e:TypeId)(cs:Array Value):(newRow e cs).run P w=.ok ⟨w.heap.size,0,none⟩ { w with heap:=w.heap.push (.cells cs e) }:=by
 simp[newRow,bEg]

theorem aMp{t:TypeId}{a:Addr}{v:Value}{z:List Value}{n:Nat}(ok:T.Ok)(hi:T.inf t=some (z,n)){vs:List Value}(hvs:v.cells=vs.toArray)(hl:vs.length=z.length)
  {kk:Own->Prop} (hs:Sto L a vs kk) (inv:Inv w0 h0 L0 h L w):
  ∃w' L',(storeVar t a v).run T.prog w=.ok () w'/\Inv w0 h0 L0 h L' w'/\kk L':=by
 obtain⟨hsp,j,c,Tp,hj,hle,hall,hk⟩:=hs;have hb:=inv.own _ (bDc hj);obtain⟨b,off,sp⟩:=a;simp only at hsp hb hle hj;subst hsp;obtain⟨w',hr,hu⟩:=mI (P:=T.prog) vs w off 0 c hb (by simpa using hle) hall;refine⟨w',_,?_,?_,hk⟩
 .simp only[storeVar,bEg,gD ok hi,bEf];have h1:¬(v.cells.size≠z.length):=by rw[hvs];simpa using hl
  rw[if_neg h1];have h2:v.cells.toList=vs:=by rw[hvs]
  simp only[bEj,bEf,h2,hr,bEg]
 .rcases hu with ⟨rfl,rfl⟩|hu
  .simp only[kE];have:L.set j (b,.cells c Tp (0,0))=L:=by
    apply bGr
    intro m;rw[bHa]
    split
    .rename_i e;subst e;split
     .exact hj.symm
     .rename_i hlt;rw[bD5 Aa]
    .rfl
   rw[this];exact inv
  .exact inv.upd hj hu

theorem pE(z:List Value)(n:Nat):(Array.range (n*z.length)).map (fun i=>z.toArray[i%z.toArray.size]!)=((List.replicate n z).flatten).toArray:=by
 apply Array.ext'
 simp only[Array.toList_map,Array.toList_range];by_cases hz:z.length=0
 .have:z=[]:=bD7.1 hz;subst this;simp
 .induction n with
  | zero=>simp
  | succ n ih=>
   rw[List.replicate_succ,bGd,<-ih];rw[show (n+1)*z.length=z.length+n*z.length by rw[Nat.succ_mul];omega,List.range_add,bDl]
   congr 1
   .apply bG0
    .simp
    .intro i h1 h2;simp only[bDt,List.length_range] at h1;simp[bEl h1,h1]
   .rw[bGx];apply bHh;intro i _;simp[Nat.add_mod_left]

theorem aPg(v:Value)(n:Nat):(List.replicate n [v]).flatten=List.replicate n v:=by
 induction n with
 | zero=>rfl
 | succ n ih=>simp[List.replicate_succ,ih]

theorem jA{kd:IntKind}(n:Int)(h1:kd.min<=n)(h2:n<=kd.max):kd.wrap n=n:=by
 cases kd<;>simp[IntKind.min,IntKind.max,IntKind.signed,IntKind.bits] at h1 h2<;>simp[IntKind.wrap,IntKind.signed,IntKind.bits]<;>(try split)<;>omega

theorem aFm(ok:T.Ok)(hout:T.room->LetsOut Q)(hP:∀c h' L' w',Inv w0 h0 L0 h' L' w'->T.pan c h' L'->Q (.panic c) (act ρ) w')(hk:opF T ρ h L o.op k)(inv:Inv w0 h0 L0 h L w)(hK:bBb w0 h0 L0 k (act ρ) o K):
  o.wp T.prog (act ρ) w K Q\/(o.asks T.prog (act ρ) w/\LetsOut Q):=by
 cases hop:o.op
 case alloc e=>
  simp only[hop,opF] at hk
  split at hk
  .rename_i z n hi;rw[kM] at hk;refine .inl ?_;obtain⟨v,hz,hc⟩:=mH (w:=w) ok hi;refine aX (v:=.pointer (some ⟨w.heap.size,0,none⟩)) (w':={ w with heap:=w.heap.push (.cells z.toArray e) }) ?_ (hK _ _ _ _ (inv.alloc _ rfl) (hk w.heap.size))
   simp only[execOp,hop,Instr.alloc,bEg,hz,bEf,newVar,hc,fR]
   rfl
  .exact hk.elim
 case box e x=>
  simp only[hop,opF,dX] at hk;refine .inl ?_
  split at hk
  .rename_i cs hx;rw[kM] at hk;refine aX (v:=.pointer (some ⟨w.heap.size,0,none⟩)) (w':={ w with heap:=w.heap.push (.cells cs e) }) ?_ (hK _ _ _ _ (inv.alloc _ rfl) (by simpa using hk w.heap.size))
   simp only[execOp,hop,Instr.box,bEg,newVar,hx,Value.cells,fR,bEf]
   rfl
  .rename_i hx
   split at hk
   .rename_i hone;refine aX (v:=.pointer (some ⟨w.heap.size,0,none⟩)) (w':={ w with heap:=w.heap.push (.cells #[(act ρ).eval x] e) }) ?_ (hK _ _ _ _ (inv.alloc _ rfl) (hk w.heap.size))
    have hc:((act ρ).eval x).cells=#[(act ρ).eval x]:=by
     generalize (act ρ).eval x=v at *
     cases v<;>simp_all [Value.cells]
    simp only[execOp,hop,Instr.box,bEg,newVar,hc,fR,bEf]
    rfl
   .exact hk.elim
 case store t x y=>
  simp only[hop,opF,dX] at hk;refine .inl ?_
  split at hk
  .rename_i a hx
   split at hk
   .rename_i z n hi;have fin:∀vs:List Value,((act ρ).eval y).cells=vs.toArray->vs.length=z.length->Sto L a vs (fun L=>k undef h L)->o.wp T.prog (act ρ) w K Q:=by
     intro vs h1 h2 h3;obtain⟨w',L',hr,hinv,hkk⟩:=aMp ok hi h1 h2 h3 inv;refine qO (w':=w') ?_ (hK _ _ _ _ hinv hkk);simp only[execOp,hop,Instr.storeAt,bEg,hx,Instr.sureAddr,bEj,bEf,hr]
    split at hk
    .rename_i cs hy;rw[kM] at hk
     split at hk
     .rename_i hl;exact fin cs.toList (by simp[hy,Value.cells]) hl hk
     .exact hk.elim
    .rename_i hy
     split at hk
     .rename_i hl;refine fin [(act ρ).eval y] ?_ (by simp[hl]) hk
      generalize (act ρ).eval y=v at *
      cases v<;>simp_all [Value.cells]
     .exact hk.elim
   .exact hk.elim
  .exact hk.elim
 case makeSlice t l c=>
  simp only[hop,opF,dX] at hk;refine .inl ?_
  split at hk
  .rename_i e kl n kc n' hd hl hc
   split at hk
   .rename_i z bytes hi;obtain⟨m,rfl,hm,hb,⟨m',rfl,hm',hb',hle,hk⟩⟩:=hk;obtain⟨i,hir,hib,his⟩:=aBo (w:=w) ok hi;obtain⟨v,hz,hzc⟩:=mH (w:=w) ok hi;refine aX (v:=.slice (some ⟨w.heap.size,0,none⟩) m m') (w':={ w with heap:=w.heap.push (.cells (List.replicate m' z).toArray e) }) ?_ (hK _ _ _ _ (inv.alloc _ rfl) (hk w.heap.size))
    have hwm:IntKind.i64.wrap (m:Int)=m:=by
     exact jA _ (by simp only[IntKind.min,IntKind.signed,IntKind.bits,if_true];omega) (by simp only[IntKind.max,IntKind.signed,IntKind.bits,if_true];omega)
    have hwm':IntKind.i64.wrap (m':Int)=m':=by
     exact jA _ (by simp only[IntKind.min,IntKind.signed,IntKind.bits,if_true];omega) (by simp only[IntKind.max,IntKind.signed,IntKind.bits,if_true];omega)
    simp only[execOp,hop,hl,hc,bEg,Instr.makeSlice,dR ok hd,bEf,asInt,asIntOf,bEj,hir,hib,hwm,hwm'];rw[if_neg (by
      simp only[bG5,decide_eq_true_eq,not_or];refine⟨⟨⟨Aa,?_⟩,Aa⟩,Aa⟩;have:((bytes*m':Nat):Int)<=281474976710656:=by omega
      push_cast at this
      omega)]
    simp only[bEj,bEf,run_askRoom,gD ok hi,bHs,bD4,bFm,bEg];by_cases h0:m'=0
    .subst h0;have e0:∀f:Nat->Value,Array.map f (Array.range 0)=#[]:=fun f=>by apply Array.ext';simp
     simp[fR,bEg,e0]
    .rw[if_neg h0];simp only[bEg,hz,bEf,hzc,fR,bEj];have:=pE [z] m';rw[aPg] at this;simp only[bD4,bFm] at this;rw[this]
   .rename_i z bytes hz1 hi;obtain⟨m,rfl,hm,hb,⟨m',rfl,hm',hb',hle,hk⟩⟩:=hk;obtain⟨i,hir,hib,his⟩:=aBo (w:=w) ok hi;obtain⟨v,hz,hzc⟩:=mH (w:=w) ok hi;refine aX (v:=.slice (some ⟨w.heap.size,0,none⟩) m m') (w':={ w with heap:=w.heap.push (.cells ((List.replicate m' z).flatten).toArray e) }) ?_ (hK _ _ _ _ (inv.alloc _ rfl) (hk w.heap.size))
    have hwm:IntKind.i64.wrap (m:Int)=m:=by
     exact jA _ (by simp only[IntKind.min,IntKind.signed,IntKind.bits,if_true];omega) (by simp only[IntKind.max,IntKind.signed,IntKind.bits,if_true];omega)
    have hwm':IntKind.i64.wrap (m':Int)=m':=by
     exact jA _ (by simp only[IntKind.min,IntKind.signed,IntKind.bits,if_true];omega) (by simp only[IntKind.max,IntKind.signed,IntKind.bits,if_true];omega)
    simp only[execOp,hop,hl,hc,bEg,Instr.makeSlice,dR ok hd,bEf,asInt,asIntOf,bEj,hir,hib,hwm,hwm'];rw[if_neg (by
      simp only[bG5,decide_eq_true_eq,not_or];refine⟨⟨⟨Aa,?_⟩,Aa⟩,Aa⟩;have:((bytes*m':Nat):Int)<=281474976710656:=by omega
      push_cast at this
      omega)]
    simp only[bEj,bEf,run_askRoom,gD ok hi,bHs,bEg];by_cases h0:m'*z.length=0
    .rw[if_pos h0];have e0:∀f:Nat->Value,Array.map f (Array.range (m'*z.length))=((List.replicate m' z).flatten).toArray:=fun f=>by
      have:(List.replicate m' z).flatten=[]:=bD7.1 Aq;apply Array.ext';simp[this,h0]
     simp only[bEj,bEf,bEg,e0,fR]
    .rw[if_neg h0];simp only[bEg,hz,bEf,hzc,fR,bEj];rw[pE]
   .exact hk.elim
  .exact hk.elim
 case buildSlice t n ps=>
  simp only[hop,opF] at hk;refine .inl ?_
  split at hk
  .rename_i e hd
   split at hk
   .rename_i z bytes hi;simp only[aC9,kM] at hk
    split at hk
    .rename_i hlen;obtain⟨l,hf,hk⟩:=sU _ _ hk;obtain⟨v,hz,hzc⟩:=mH (w:=w) ok hi;refine aX (v:=.slice (some ⟨w.heap.size,0,none⟩) n n) (w':={ w with heap:=w.heap.push (.cells l.toArray e) }) ?_ (hK _ _ _ _ (inv.alloc _ rfl) (hk w.heap.size))
     have hfl:((List.replicate n z).flatten).length=n*z.length:=by simp
     have hps:(ps.map fun (x:Nat × Operand)=>(x.1,(act ρ).eval x.2)).toList=ps.toList.map fun p=>(p.1,(act ρ).eval p.2):=by simp
     simp only[execOp,hop,Instr.buildSlice,bEg,dR ok hd,bEf,gD ok hi];rw[if_neg Aa];simp only[bEj,bEf,hps];by_cases h0:n*z.length=0
     .rw[if_pos h0];have e0:∀f:Nat->Value,Array.map f (Array.range (n*z.length))=((List.replicate n z).flatten).toArray:=fun f=>by
       have:(List.replicate n z).flatten=[]:=bD7.1 Aa;apply Array.ext';simp[this,h0]
      simp only[bEj,bEf,bEg,e0,hf,fR]
     .rw[if_neg h0];simp only[bEg,hz,bEf,hzc,bEj];rw[pE];simp only[hf,bEg,fR,bEf,bEj]
    .exact hk.elim
   .exact hk.elim
  .exact hk.elim
 case call c=>
  by_cases hv:∃f,c.callee=.value f
  .obtain⟨f,hv⟩:=hv;simp only[hop,opF,hv,dX,gO,kM] at hk;refine .inl ?_
   split at hk
   .rename_i f' first captured hf
    obtain⟨hfn,hk⟩:=hk;obtain⟨h1,L1,⟨La,Lb,R,S,perm,hF,cont,contP⟩,inv1⟩:=inv.fz hk;have inv1:=inv1.perm perm;have sub:Sat h1 La w:=⟨inv1.imm,fun x hx=>inv1.own _ (bDz _ hx),fun x hx=>inv1.sep _ (bDz _ hx),by
      have:=inv1.nd;rw[bDl,bGt] at this;exact this.1⟩
    have hcall:=hF w sub;have hrun:(execOp (act ρ).eval o).run T.prog w=.ok (.enter f' (first.toList++c.args.toList.map (act ρ).eval++captured.toList).toArray) w:=by
     have e:(first.toList++c.args.toList.map (act ρ).eval++captured.toList).toArray=first++c.args.map (act ρ).eval++captured:=by
      apply Array.ext';simp
     rw[e];simp only[execOp,hop,resolve,hv,Deferred.ofValue,hf,bEg,bEj,bEf,invoke,ok.fn _ hfn]
    unfold Oper.wp;rw[hrun,Oper.upon_enter];refine hcall.mono fun e w' he=>?_
    cases e with
    | returned v=>
     obtain⟨h',L',i',r⟩:=he;obtain⟨L'',p,hk⟩:=cont _ _ _ i'.hle r;exact hK _ _ _ _ ((Inv.call inv1 i').perm p) hk
    | panicked ch=>
     obtain⟨h',L',i',r⟩:=he;obtain⟨L'',p,hk⟩:=contP _ _ _ i'.hle r;exact hP _ _ _ _ ((Inv.call inv1 i').perm p) hk
    | outgrown=>exact hout he
   .exact hk.elim
  .by_cases ha:c.callee=.builtin .append
   .simp only[hop,opF,ha] at hk
    split at hk
    .rename_i t u ht
     split at hk
     .rename_i e x hd hu
      split at hk
      .rename_i z bytes hi;simp only[gO] at hk
       split at hk
       .rename_i s y hsy;have ea:c.args.map (act ρ).eval=#[s,y]:=by apply Array.ext';simpa using hsy
        have et:c.argTypes=#[t,u]:=by apply Array.ext';simpa using ht
        refine hk.ex ok o (act ρ) K Q w0 h0 L0 w o.type c hop rfl ha ea (by simp[et,ok.und _ _ hd]) (by simp[et]) ⟨_,by simp[et];exact ok.und _ _ hu,by simp⟩ inv hout hK
       .exact hk.elim
      .exact hk.elim
     .rw[gO] at hk;exact hk.ex ok o (act ρ) K Q w0 h0 L0 w hop rfl inv hout hP hK
    .exact hk.elim
   .simp only[hop,opF] at hk
    split at hk
    .rename_i f hf;exact (hv ⟨f,hf⟩).elim
    .exact (ha Ab).elim
    .rw[gO] at hk;exact hk.ex ok o (act ρ) K Q w0 h0 L0 w hop rfl inv hout hP hK
    .rw[gO] at hk;exact hk.ex ok o (act ρ) K Q w0 h0 L0 w hop rfl inv hout hP hK
    .rw[gO] at hk;exact hk.ex ok o (act ρ) K Q w0 h0 L0 w hop rfl inv hout hP hK
    .rw[gO] at hk;exact hk.ex ok o (act ρ) K Q w0 h0 L0 w hop rfl inv hout hP hK
    .rw[gO] at hk;exact hk.ex ok o (act ρ) K Q w0 h0 L0 w hop rfl inv hout hP hK
    .rw[gO] at hk;exact hk.ex ok o (act ρ) K Q w0 h0 L0 w hop rfl inv hout hP hK
    .refine .inl (yK ok (k:=k) ?_ inv hK);rw[hop];exact hk
 case convert s d x=>
  simp only[hop,opF] at hk
  split at hk
  .simp only[dX] at hk;exact hk.ex ok o (act ρ) K Q w0 h0 L0 w hop rfl inv hout hP hK
  .refine .inl (yK ok (k:=k) ?_ inv hK);rw[hop];exact hk
 all_goals
  simp only[hop,opF,aXu] at hk
  first
   | (rw[gO] at hk
      exact hk.ex ok o (act ρ) K Q w0 h0 L0 w hop rfl inv hout hP hK)
   | (refine .inl (yK ok (k:=k) ?_ inv hK)
      rw[hop];exact hk)
end
theorem aYd{ρ:Env}{d:Nat}:ρ.toArray[d]?=if d < ρ.length then some (rd ρ d) else none:=by
 rw[aBn]
 split
 .rename_i h;simp[h]
 .rename_i h;simp;omega

theorem aPh:∀(ρ:Env) (d:Nat) (v:Value),rd ρ d=v->ρ.set d v=ρ\/ρ.length<=d
 | [],_,_,_=>.inr (bDw _)
 | x::ρ,0,v,h=>by simp only[rd] at h;subst h;exact .inl rfl
 | x::ρ,d+1,v,h=>by
  rcases aPh ρ d v h with h|h
  .exact .inl (by simp[h])
  .exact .inr (by simpa using h)

theorem xL{ρ:Env}{d:Nat}{v:Value}(h:rd ρ d=v):ρ.set d v=ρ:=by
 rcases aPh ρ d v h with h|h
 .exact h
 .exact List.set_eq_of_length_le h

theorem qP{all:List Oper}{ρ:Env}{o:Oper}{run skip:Env->Prop}(hg:qN all ρ o run skip):
  (Region.wanted o (yielded all.toArray (act ρ).tmps)=true/\run ρ)\/(Region.wanted o (yielded all.toArray (act ρ).tmps)=false/\skip ρ):=by
 unfold qN at hg;unfold Region.wanted
 split at hg
 .rename_i hn;rw[hn];exact .inl ⟨rfl,hg⟩
 .rename_i j want hn;rw[hn];simp only;have hy:yielded all.toArray (act ρ).tmps j=match ((all[j]?).bind (·.dst)).bind (ρ.toArray[·]?) with|some (.bool b)=>some b|_=>none:=by
   simp[yielded,act];rfl
  rw[hy]
  split at hg
  .rename_i d hd;rw[hd];simp only[Option.bind_some,aYd]
   split at hg
   .rename_i c hc;have hlt:d < ρ.length:=by
     rcases bEp d ρ.length with h|h
     .exact h
     .rw[aBn] at hc;have:ρ.toArray.getD d undef=undef:=by simp[Array.getD_eq_getD_getElem?,Array.getElem?_eq_none (xs:=ρ.toArray) (i:=d) (by simpa using h)]
      rw[this] at hc;cases hc
    rw[if_pos hlt,hc];simp only;cases want<;>cases c<;>simp only[cnd,aIa] at hg
    .rw[xL hc] at hg;exact .inl ⟨rfl,hg⟩
    .rw[xL hc] at hg;exact .inr ⟨rfl,hg⟩
    .rw[xL hc] at hg;exact .inr ⟨rfl,hg⟩
    .rw[xL hc] at hg;exact .inl ⟨rfl,hg⟩
   .rename_i hc;refine .inr ⟨?_,hg⟩;by_cases hlt:d < ρ.length
    .rw[if_pos hlt]
     generalize rd ρ d=v at *
     cases v<;>first|rfl|exact (hc _ rfl).elim
    .rw[if_neg hlt];rfl
  .rename_i hd;rw[hd];exact .inr ⟨rfl,hg⟩

section
variable {T:Tab} {w0:World} {h0:aA} {L0:Own}

theorem vQ(ok:T.Ok){all:List Oper}{Q:fN}{Q':Exit->Act->World->Prop}(hQ:QR w0 h0 L0 Q Q')(hout:T.room->LetsOut Q')(hP:∀c ρ h L w,Inv w0 h0 L0 h L w->T.pan c h L->Q' (.panic c) (act ρ) w):
  ∀(l:List Oper) (ρ:Env) (h:aA) (L:Own) (w:World),Inv w0 h0 L0 h L w->aFd T all Q l ρ h L->wpList T.prog all.toArray Q' l (act ρ) w
 | [],ρ,h,L,w,inv,hq=>hQ .normal ρ h L w inv hq
 | o::rest,ρ,h,L,w,inv,hq=>by
  simp only[aFd] at hq;unfold wpList;rcases qP hq with ⟨hw,hr⟩|⟨hw,hr⟩
  .rw[hw,if_pos rfl];refine aFm ok hout (fun c h' L' w'=>hP c ρ h' L' w') hr inv fun v h' L' w' i' hk=>?_
   rw[rP] at hk;rw[iN];exact vQ ok hQ hout hP rest _ _ _ _ i' hk
  .rw[hw];simp only[bF4,if_false];rw[rP] at hr;rw[iN];exact vQ ok hQ hout hP rest _ _ _ _ inv hr

theorem nZ{ws:List Nat}:∀{i:Nat} {ρ:Env} {k:Env->Prop},vP ws i ρ k->∀ρ',ρ'=over ws i ρ ρ'->k ρ'
 | i,[],k,h,ρ',e=>by
  cases ρ' with
  | nil=>exact h
  | cons y ρ'=>simp[over] at e
 | i,x::ρ,k,h,ρ',e=>by
  cases ρ' with
  | nil=>simp[over] at e
  | cons y ρ'=>
   simp only[over,List.cons.injEq] at e;obtain⟨e1,e2⟩:=e;simp only[vP] at h
   split at h
   .exact nZ (h y) ρ' e2
   .rename_i hc;have:y=x:=by rw[hc] at e1;exact e1
    subst this;exact nZ h ρ' e2

theorem aBb{P:Program}{c:Code}{Q:Exit->Act->World->Prop}{a:Act}{w:World}(I:Nat->Act->World->Prop)(hI:∃n,I n a w)
  (round:∀n a w,I n a w->c.wp P (Exit.then (fun a' w'=>∃m,m<n/\I m a' w') Q) a w):(Code.loop c).wp P Q a w:=by
 classical
 refine wp_loop (fun a w=>∃n,I n a w) (fun a w=>if h:∃n,I n a w then Classical.choose (show ∃n,I n a w/\∀m,I m a w->n<=m from ?_) else 0) hI ?_
 .obtain⟨n,hn⟩:=h
  induction n using Nat.strongRecOn with
  | _ n ih=>
   by_cases hx:∃m,m<n/\I m a w
   .obtain⟨m,hm,hi⟩:=hx;exact ih m hm hi
   .exact⟨n,hn,fun m hm=>by rcases bEp m n with h|h;exact (hx ⟨m,h,hm⟩).elim;exact h⟩
 .intro a w hex;have hspec:=Classical.choose_spec (show ∃n,I n a w/\∀m,I m a w->n<=m from by
    obtain⟨n,hn⟩:=hex
    induction n using Nat.strongRecOn with
    | _ n ih=>
      by_cases hx:∃m,m<n/\I m a w
      .obtain⟨m,hm,hi⟩:=hx;exact ih m hm hi
      .exact⟨n,hn,fun m hm=>by rcases bEp m n with h|h;exact (hx ⟨m,h,hm⟩).elim;exact h⟩)
  have hr:=round _ a w hspec.1;refine wp_mono hr fun e a' w' hq=>?_
  cases e with
  | normal=>
   obtain⟨m,hm,hi⟩:=hq;refine⟨⟨m,hi⟩,?_⟩;have hex':∃n,I n a' w':=⟨m,hi⟩
   rw[dif_pos hex',dif_pos hex];have h2:=(Classical.choose_spec (show ∃n,I n a' w'/\∀m,I m a' w'->n<=m from by
     obtain⟨n,hn⟩:=hex'
     induction n using Nat.strongRecOn with
     | _ n ih=>
       by_cases hx:∃m,m<n/\I m a' w'
       .obtain⟨m,hm,hi⟩:=hx;exact ih m hm hi
       .exact⟨n,hn,fun m hm=>by rcases bEp m n with h|h;exact (hx ⟨m,h,hm⟩).elim;exact h⟩)).2 m hi
   exact bFk h2 hm
  | _=>exact hq
end
/-! ### Regions that draw their order -/
section draw
variable {T:Tab} {w0:World} {h0:aA} {L0:Own} {ops:Array Oper} {Q':Exit->Act->World->Prop}

abbrev St:=Env->aA->Own->World->Prop

theorem aPi{fl:Dm}{h:aA}{L:Own}{w:World}(s:Sat h L w)(ho:xC fl L):Sat h (vw fl L) w:=by
 cases fl with
 | own V=>
  have hs:V.Sublist L:=ho;exact⟨s.imm,fun x hx=>s.own x (hs.subset hx),fun x hx=>s.sep x (hs.subset hx),(hs.map _).nodup s.nd⟩
 | each=>exact s
 | run=>exact s
theorem aMq{fl:Dm}{L:Own}{k:Own->Prop}:aXv fl L k↔k (vw fl L):=by
 cases fl<;>exact Iff.rfl
theorem aMr{fl:Dm}{o:Op}{h h':aA}{L L':Own}(ho:xC fl L)(hk:qB fl o=false->aPf fl h L h' L'):(qB fl o=false->aH h (vw fl L) h' (vw fl L'))/\xC fl L':=by
 cases fl with
 | own V=>exact⟨fun _=>(hk rfl).1,(hk rfl).2⟩
 | each=>exact⟨hk,trivial⟩
 | run=>exact⟨hk,trivial⟩
def qC(fl:Dm)(T:Tab)(w0:World)(h0:aA)(L0:Own)(ops:Array Oper)(Q':Exit->Act->World->Prop)(i:Nat)(K:St)(ρ:Env)(h:aA)(L:Own)(w:World):Prop:=
 match ops[i]? with
 | none=>K ρ h L w
 | some o=>if Region.wanted o (yielded ops (act ρ).tmps)
   then o.wp T.prog (act ρ) w (fun a' w'=>∃ρ' h' L',a'=act ρ'/\Inv w0 h0 L0 h' L' w'/\(qB fl o.op=false->aH h (vw fl L) h' (vw fl L'))/\xC fl L'/\K ρ' h' L' w') Q'\/(o.asks T.prog (act ρ) w/\LetsOut Q')
   else K (sJ ρ o.dst undef) h L w

def aMs(fl:Dm)(T:Tab)(w0:World)(h0:aA)(L0:Own)(ops:Array Oper)(Q':Exit->Act->World->Prop)(Qf:St):Nat->Array Bool->Env->aA->Own->World->Prop
 | 0,listed,ρ,h,L,w=>Region.ready .any ops listed=[]/\Qf ρ h L w
 | n+1,listed,ρ,h,L,w=>(Region.ready .any ops listed=[]->Qf ρ h L w)/\
   ∀i∈Region.ready .any ops listed,qC fl T w0 h0 L0 ops Q' i (aMs fl T w0 h0 L0 ops Q' Qf n (listed.setIfInBounds i true)) ρ h L w

variable {fl:Dm}
theorem nB{Qf:St}(hQ:∀ρ h L w,Inv w0 h0 L0 h L w->Qf ρ h L w->Q' .normal (act ρ) w):∀(n:Nat) (listed:Array Bool) (ρ:Env) (h:aA) (L:Own) (w:World),Inv w0 h0 L0 h L w->
  aMs fl T w0 h0 L0 ops Q' Qf n listed ρ h L w->wpAny T.prog .any ops Q' n listed (act ρ) w
 | 0,listed,ρ,h,L,w,inv,hh=>⟨hh.1,hQ _ _ _ _ inv hh.2⟩
 | n+1,listed,ρ,h,L,w,inv,hh=>by
  refine⟨fun h0=>hQ _ _ _ _ inv (hh.1 h0),fun i hi=>?_⟩
  have hs:=hh.2 i hi;unfold qC at hs;unfold wpOp;cases ho:ops[i]? with
  | none=>simp only[ho] at hs ⊢;exact nB hQ n _ _ _ _ _ inv hs
  | some o=>
   simp only[ho] at hs ⊢
   split
   .rename_i hw;rw[if_pos hw] at hs;refine yH (Oper.wp_mono fun a' w' hk=>?_) id hs
    obtain⟨ρ',h',L',rfl,i',_,_,hk⟩:=hk;exact nB hQ n _ _ _ _ _ i' hk
   .rename_i hw;rw[if_neg hw] at hs;rw[iN];exact nB hQ n _ _ _ _ _ inv hs

def pF(T:Tab)(ops:Array Oper)(o:Oper)(v:Value)(ρ:Env)(h:aA)(L:Own):Prop:=
 (Region.wanted o (yielded ops (act ρ).tmps)=true/\(∀h' L' w,aH h L h' L'->Sat h' L' w->(execOp (act ρ).eval o).run T.prog w=.ok (.value v) w)/\
   (aA8 o.op=true->∀w,(execOp (act ρ).eval o).run T.prog w=.ok (.value v) w))\/
 (Region.wanted o (yielded ops (act ρ).tmps)=false/\v=undef)
theorem aYe{T:Tab}{ρ:Env}{h h':aA}{L L':Own}{o:Op}{k:Value->Prop}(hd:aA8 o=true)(hq:qF T ρ h L o k):qF T ρ h' L' o k:=by
 unfold aA8 at hd
 split at hd
 all_goals first|(cases hd;done)|skip
 all_goals (simp only[qF] at hq ⊢;exact hq)
theorem aPj{T:Tab}(ok:T.Ok){ρ:Env}{h:aA}{L:Own}{o:Oper}{k:Value->Prop}(hq:qF T ρ h L o.op k):
  ∃v,k v/\(∀h' L' w,aH h L h' L'->Sat h' L' w->(execOp (act ρ).eval o).run T.prog w=.ok (.value v) w)/\(aA8 o.op=true->∀w,(execOp (act ρ).eval o).run T.prog w=.ok (.value v) w):=by
 cases hd:aA8 o.op with
 | false=>
  obtain⟨v,hv,hr⟩:=aDd ok hq;exact⟨v,hv,hr,fun x=>by cases x⟩
 | true=>
  obtain⟨v,hv,hr⟩:=aDd ok (aYe (h':=fun _=>none) (L':=[]) hd hq)
  have all:∀w,(execOp (act ρ).eval o).run T.prog w=.ok (.value v) w:=fun w=>hr (fun _=>none) [] w (aH.refl _ _) ⟨(fun _ _ x=>by cases x),(fun x hx=>by cases hx),(fun x hx=>by cases hx),bHz⟩
  exact⟨v,hv,fun _ _ w _ _=>all w,fun _=>all⟩

theorem aIb{i:Nat}{K K':St}{ρ:Env}{h:aA}{L:Own}{w:World}(hk:∀ρ' h' L' w',Inv w0 h0 L0 h' L' w'->(∀o,ops[i]?=some o->qB fl o.op=false->aH h (vw fl L) h' (vw fl L'))->xC fl L'->K ρ' h' L' w'->K' ρ' h' L' w')
  (inv:Inv w0 h0 L0 h L w) (hso:xC fl L) (hs:qC fl T w0 h0 L0 ops Q' i K ρ h L w):qC fl T w0 h0 L0 ops Q' i K' ρ h L w:=by
 unfold qC at *;cases ho:ops[i]? with
 | none=>simp only[ho] at hs ⊢;exact hk _ _ _ _ inv (fun o h=>by simp[ho] at h) hso hs
 | some o=>
  simp only[ho] at hs ⊢
  split
  .rename_i hw;rw[if_pos hw] at hs;refine yH (Oper.wp_mono fun a' w' h1=>?_) id hs
   obtain⟨ρ',h',L',e,i',hle,hso',h1⟩:=h1;exact⟨ρ',h',L',e,i',hle,hso',hk _ _ _ _ i' (fun o' ho'=>by rw[ho] at ho';cases ho';exact hle) hso' h1⟩
  .rename_i hw;rw[if_neg hw] at hs;exact hk _ _ _ _ inv (fun _ _ _=>aH.refl _ _) hso hs

theorem aBs(ρ:Env){x y:Option Tmp}(v u:Value)(h:∀d,x=some d->y≠some d):sJ (sJ ρ x v) y u=sJ (sJ ρ y u) x v:=by
 cases x with
 | none=>rfl
 | some d=>
  cases y with
  | none=>rfl
  | some e=>
   have hne:d≠e:=fun he=>h d rfl (he▸rfl)
   simp[sJ,List.set_comm _ _ hne]

theorem aUk{ρ ρ':Env}(h:act ρ=act ρ'):ρ=ρ':=by
 simp[act] at h;exact h

theorem aMt{j:Nat}{oi oj:Oper}{v:Value}{K:St}{ρ:Env}{h:aA}{L:Own}{w:World}(hj:ops[j]?=some oj)(hap:oi.apart ops oj=true)
  (hsi:∀cs b,oi.op≠.select cs b) (hsj:∀cs b,oj.op≠.select cs b) (hst:qB fl oj.op=false\/aA8 oi.op=true) (inv:Inv w0 h0 L0 h L w) (hQp:∀c ρ ρ' w,Q' (.panic c) (act ρ) w->Q' (.panic c) (act ρ') w)
  (hy:pF T ops oi v ρ h (vw fl L)) (hs:qC fl T w0 h0 L0 ops Q' j K (sJ ρ oi.dst v) h L w):
  qC fl T w0 h0 L0 ops Q' j (fun ρ' h' L' w'=>pF T ops oi v ρ' h' (vw fl L')/\K (sJ ρ' oi.dst v) h' L' w') ρ h L w:=by
 obtain⟨h1,h2,h3⟩:=Oper.apart_spec hap;unfold qC at *;simp only[hj] at *;rw[<-iN,wanted_put oj (act ρ) oi.dst v h1] at hs;have keep:∀(u:Value) (h':aA) (L':Own),(aH h (vw fl L) h' (vw fl L')\/aA8 oi.op=true)->pF T ops oi v (sJ ρ oj.dst u) h' (vw fl L'):=by
  intro u h' L' hle;unfold pF at *;rw[<-iN,wanted_put oi (act ρ) oj.dst u h3,execOp_put oi hsi (act ρ) oj.dst u h3];refine yH (fun ⟨a,b,c⟩=>⟨a,fun h'' L'' w hl=>?_,c⟩) id hy
  rcases hle with hle|hd
  .exact b h'' L'' w (hle.trans hl)
  .exact fun _=>c hd w
 split
 .rename_i hw;rw[if_pos hw] at hs;rcases hs with hs|⟨ha,hl⟩
  .refine .inl ?_;unfold Oper.wp at *;rw[execOp_put oj hsj (act ρ) oi.dst v h1] at hs
   generalize (execOp (act ρ).eval oj).run T.prog w=r at *
   have fin:∀u w',(∃ρ' h' L',((act ρ).put oi.dst v).put oj.dst u=act ρ'/\Inv w0 h0 L0 h' L' w'/\(qB fl oj.op=false->aH h (vw fl L) h' (vw fl L'))/\xC fl L'/\K ρ' h' L' w')->
     ∃ρ' h' L',(act ρ).put oj.dst u=act ρ'/\Inv w0 h0 L0 h' L' w'/\(qB fl oj.op=false->aH h (vw fl L) h' (vw fl L'))/\xC fl L'/\pF T ops oi v ρ' h' (vw fl L')/\K (sJ ρ' oi.dst v) h' L' w':=by
    rintro u w' ⟨ρ',h',L',e,i',hle,hso',hk⟩
    rw[iN,iN] at e;have e:=aUk e;refine⟨sJ ρ oj.dst u,h',L',iN _ _ _,i',hle,hso',keep u h' L' (hst.elim (fun x=>.inl (hle x)) .inr),?_⟩
    rw[<-aBs ρ v u h2,e];exact hk
   cases r with
   | ok n w'=>
    cases n<;>simp only[Oper.upon] at hs ⊢
    case value u=>exact fin u _ hs
    case skip=>exact fin _ _ hs
    case defer d=>
     obtain⟨ρ',h',L',e,_⟩:=hs;cases hd:oj.dst<;>cases hdi:oi.dst<;>simp[Act.put,act,hd,hdi] at e
    case enter f args=>
     refine Calls.mono hs fun e w'' he=>?_
     cases e with
     | returned u=>exact fin u _ he
     | panicked c=>rw[iN] at he;exact hQp _ _ _ _ he
     | outgrown=>exact he
    case row row args=>exact Rows.mono hs fun u w'' he=>fin u _ he
   | halt x w'=>
    cases x<;>simp only[Oper.upon] at hs ⊢
    case panic u=>rw[iN] at hs;exact hQp _ _ _ _ hs
  .refine .inr ⟨?_,hl⟩;unfold Oper.asks at *;rw[execOp_put oj hsj (act ρ) oi.dst v h1] at ha;exact ha
 .rename_i hw;rw[if_neg hw] at hs;refine⟨keep _ _ _ (.inl (aH.refl _ _)),?_⟩;rw[<-aBs ρ v undef h2];exact hs
end draw
theorem kF(p:Nat):∀es:List Edge,(bP es).testBit p=true↔∃e∈es,Region.binds .any e=true/\e.on=p
 | []=>by simp[bP]
 | e::es=>by
  have ih:=kF p es;unfold bP
  split
  .rename_i hb;rw[show Nat.lor (2^e.on) (bP es)=2^e.on ||| bP es from rfl,Nat.testBit_or]
   simp only[bG5,ih,bDp,exists_eq_or_imp,bHi,decide_eq_true_eq];constructor
   .rintro (h|h)
    .exact .inl ⟨hb,h⟩
    .exact .inr h
   .rintro (⟨_,h⟩|h)
    .exact .inl h
    .exact .inr h
  .rename_i hb;rw[ih];simp only[bDp,exists_eq_or_imp];constructor
   .exact .inr
   .rintro (⟨h,_⟩|h)
    .exact (hb h).elim
    .exact h

theorem vR{done m:Nat}:Nat.beq (Nat.land done m) m=true↔∀p,m.testBit p=true->done.testBit p=true:=by
 rw[show Nat.land done m=done &&& m from rfl,Nat.beq_eq];constructor
 .intro h p hp;rw[<-h,Nat.testBit_and] at hp;simp at hp;exact hp.1
 .intro h;apply Nat.eq_of_testBit_eq;intro p;rw[Nat.testBit_and];cases hm:m.testBit p with
  | false=>simp
  | true=>simp[h p hm]

theorem sV{fl:Dm}{done:Nat}:∀(os:List Oper) (i0 i:Nat) (o:Oper),aFe fl done os (dL os) i0=some (i,o)->
  ∃j,i=i0+j/\os[j]?=some o/\done.testBit i=false/\(∀p,(bP o.after.toList).testBit p=true->done.testBit p=true)/\aC7 fl o.op=true
 | [],_,_,_,h=>by simp[aFe,dL] at h
 | x::os,i0,i,o,h=>by
  simp only[aFe,dL,bEe] at h;cases hc:(!done.testBit i0 && (Nat.beq (Nat.land done (bP x.after.toList)) (bP x.after.toList) && aC7 fl x.op)) with
  | true=>
   rw[hc] at h;simp only[cond_true,Option.some.injEq,Prod.mk.injEq] at h;obtain⟨rfl,rfl⟩:=h;simp only[bFx,bGp] at hc;exact⟨0,rfl,rfl,hc.1,vR.1 hc.2.1,hc.2.2⟩
  | false=>
   rw[hc] at h;obtain⟨j,h1,h2⟩:=sV os (i0+1) i o h;exact⟨j+1,Aa,h2⟩

theorem sX{done:Nat}:∀(os:List Oper) (i0 j:Nat) (o:Oper),os[j]?=some o->done.testBit (i0+j)=false->(∀p,(bP o.after.toList).testBit p=true->done.testBit p=true)->
  (i0+j,o)∈mZ done os (dL os) i0
 | [],_,_,_,h,_,_=>by simp at h
 | x::os,i0,j,o,h,h1,h2=>by
  simp only[mZ,dL,bEe];cases j with
  | zero=>
   simp at h;subst h;have:(!done.testBit i0 && Nat.beq (Nat.land done (bP x.after.toList)) (bP x.after.toList))=true:=by
    simp only[bFx,bGp];exact⟨h1,vR.2 h2⟩
   rw[this];simp
  | succ j=>
   have ih:=sX os (i0+1) j o (by simpa using h) (by rw[show i0+1+j=i0+(j+1) by omega];exact h1) h2
   rw[show i0+1+j=i0+(j+1) by omega] at ih
   cases (!done.testBit i0 && Nat.beq (Nat.land done (bP x.after.toList)) (bP x.after.toList)) with
   | true=>exact bDh _ ih
   | false=>exact ih

theorem vS{α:Type}{p:α->Prop}:∀{l:List α},aKh p l->∀x∈l,p x
 | [],_,x,hx=>by simp at hx
 | [a],h,x,hx=>by simp at hx;subst hx;exact h
 | a::b::l,h,x,hx=>by
  simp only[aKh] at h;rcases bDp.1 hx with rfl|hx
  .exact h.l
  .exact vS (l:=b::l) h.r x hx

section draw
variable {fl:Dm} {T:Tab} {w0:World} {h0:aA} {L0:Own} {all:List Oper} {Q':Exit->Act->World->Prop}

def DC(bs:List Nat)(listed:Array Bool):Prop:=∀j p,listed.getD j false=true->(bs.getD j 0).testBit p=true->listed.getD p false=true

theorem yL{ms bs:List Nat}(h:aFg ms bs=true){i j:Nat}(hj:j<ms.length)(hi:i<ms.length)(hb:(bs.getD j 0).testBit i=true):
  (ms.getD j 0).testBit i=true\/∃p,p<ms.length/\(ms.getD j 0).testBit p=true/\(bs.getD p 0).testBit i=true:=by
 unfold aFg at h;have h1:=List.all_eq_true.1 (List.all_eq_true.1 h j (List.mem_range.2 hj)) i (List.mem_range.2 hi);simp only[hb,Bool.not_true,Bool.false_or,bG5,List.any_eq_true,List.mem_range,bFx] at h1;exact h1

theorem aIc{all:List Oper}{j:Nat}{o:Oper}(h:all[j]?=some o):(dL all).getD j 0=bP o.after.toList:=by
 simp[dL,bC7,h]

theorem nC{listed:Array Bool}{j:Nat}{o:Oper}(ho:all[j]?=some o)(hr:j∈Region.ready .any all.toArray listed){p:Nat}(hp:((dL all).getD j 0).testBit p=true):listed.getD p false=true:=by
 obtain⟨_,o',ho',h⟩:=mem_ready.1 hr;have:o'=o:=by simpa[ho] using ho'.symm
 subst this;rw[aIc ho] at hp;obtain⟨e,he,hb,rfl⟩:=(kF _ _).1 hp;exact h e (by simpa using he) hb

theorem DC.step{bs:List Nat}(hb:aFg (dL all) bs=true){listed:Array Bool}(hsz:listed.size=all.length)(dc:DC bs listed){j:Nat}{o:Oper}(ho:all[j]?=some o)(hr:j∈Region.ready .any all.toArray listed)
  (hbig:∀j p,(bs.getD j 0).testBit p=true->p<all.length):DC bs (listed.setIfInBounds j true):=by
 have hml:(dL all).length=all.length:=by simp[dL]
 intro k p hk hp;by_cases hkj:j=k
 .subst hkj;have hjl:j<all.length:=(bC9.1 ho).1;rcases yL hb Aa (by rw[hml];exact hbig _ _ hp) hp with h|⟨q,hq,h1,h2⟩
  .exact getD_set_true (nC ho hr h)
  .exact getD_set_true (dc q p (nC ho hr h1) h2)
 .rw[getD_set_ne false hkj] at hk;exact getD_set_true (dc k p hk hp)

theorem tU{i:Nat}{oi:Oper}{v:Value}{K:St}{ρ:Env}{h:aA}{L:Own}{w:World}(hi:all.toArray[i]?=some oi)(inv:Inv w0 h0 L0 h L w)(hso:xC fl L)(hy:pF T all.toArray oi v ρ h (vw fl L))(hk:K (sJ ρ oi.dst v) h L w):
  qC fl T w0 h0 L0 all.toArray Q' i K ρ h L w:=by
 unfold qC;simp only[hi];rcases hy with ⟨hw,hr,-⟩|⟨hw,rfl⟩
 .rw[if_pos hw];exact .inl (aX (hr h (vw fl L) w (aH.refl _ _) (aPi inv.toSat hso)) ⟨_,_,_,iN _ _ _,inv,fun _=>aH.refl _ _,hso,hk⟩)
 .rw[if_neg (by rw[hw];simp)];exact hk

theorem yM{Qf:St}{i:Nat}{oi:Oper}{v:Value}(hi:all[i]?=some oi)(hsel:∀(j:Nat) (o:Oper) cs b,all.toArray[j]?=some o->o.op≠.select cs b)(hQp:∀c ρ ρ' w,Q' (.panic c) (act ρ) w->Q' (.panic c) (act ρ') w)
  {bs:List Nat} (hb:aFg (dL all) bs=true) (hbig:∀j p,(bs.getD j 0).testBit p=true->p<all.length)
  (hfree:∀(j:Nat) oj,all[j]?=some oj->j≠i->(bs.getD j 0).testBit i=false->(bs.getD i 0).testBit j=false->oi.apart all.toArray oj=true/\(qB fl oj.op=false\/aA8 oi.op=true)):
  ∀(n:Nat) (listed:Array Bool) (ρ:Env) (h:aA) (L:Own) (w:World),listed.size=all.length->DC bs listed->Inv w0 h0 L0 h L w->xC fl L->i∈Region.ready .any all.toArray listed->pF T all.toArray oi v ρ h (vw fl L)->
   aMs fl T w0 h0 L0 all.toArray Q' Qf n (listed.setIfInBounds i true) (sJ ρ oi.dst v) h L w->aMs fl T w0 h0 L0 all.toArray Q' Qf (n+1) listed ρ h L w:=by
 have hi':all.toArray[i]?=some oi:=by simpa using hi
 intro n
 induction n with
 | zero=>
  intro listed ρ h L w hsz dc inv hso hr hy H;refine⟨fun h=>(by rw[h] at hr;cases hr),fun j hj=>?_⟩
  by_cases hji:j=i
  .subst hji;exact tU hi' inv hso hy H
  .have:=ready_mono hj hji;rw[H.1] at this;cases this
 | succ n ih=>
  intro listed ρ h L w hsz dc inv hso hr hy H;refine⟨fun h=>(by rw[h] at hr;cases hr),fun j hj=>?_⟩
  by_cases hji:j=i
  .subst hji;exact tU hi' inv hso hy H
  .have h1:=H.2 j (ready_mono hj hji);obtain⟨hjun,oj,hoj,_⟩:=mem_ready.1 hj;obtain⟨hiun,_⟩:=mem_ready.1 hr;have hoj':all[j]?=some oj:=by simpa using hoj
   have hjl:j<all.length:=(bC9.1 hoj').1;have hil:i<all.length:=(bC9.1 hi).1;have unl:∀k,k<all.length->listed.getD k true=false->listed.getD k false=false:=fun k hk hu=>by
    have hk':k<listed.size:=Aa
    simpa[hk'] using hu
   have ml:(dL all).length=all.length:=by simp[dL]
   have pre:∀a o,all[a]?=some o->a∈Region.ready .any all.toArray listed->∀p,(bs.getD a 0).testBit p=true->listed.getD p false=true:=fun a o ha har p hp=>by
    have hal:a<all.length:=(bC9.1 ha).1;rcases yL hb Aa (by rw[ml];exact hbig _ _ hp) hp with h|⟨q,hq,h1,h2⟩
    .exact nC ha har h
    .exact dc q p (nC ha har h1) h2
   have n1:(bs.getD j 0).testBit i=false:=by
    cases hx:(bs.getD j 0).testBit i with
    | false=>rfl
    | true=>have:=pre j oj hoj' hj i hx;rw[unl i hil hiun] at this;cases this
   have n2:(bs.getD i 0).testBit j=false:=by
    cases hx:(bs.getD i 0).testBit j with
    | false=>rfl
    | true=>have:=pre i oi hi hr j hx;rw[unl j hjl hjun] at this;cases this
   obtain⟨hap,hst⟩:=hfree j oj hoj' hji n1 n2;have h2:=aMt hoj hap (fun cs b=>hsel i oi cs b hi') (fun cs b=>hsel j oj cs b hoj) hst inv hQp hy h1
   refine aIb (fun ρ' h' L' w' i' _ hso' h3=>?_) inv hso h2
   refine ih (listed.setIfInBounds j true) ρ' h' L' w' (by simpa using hsz) (dc.step hb hsz hoj' hj hbig) i' hso' (ready_mono hr (Ne.symm hji)) h3.1 ?_;rw[Array.setIfInBounds_comm _ _ hji];exact h3.2
end draw
theorem aBt{p q:Nat->Bool}(hqp:∀k,q k=true->p k=true){i:Nat}(hp:p i=true)(hq:q i=false):∀{l:List Nat},i∈l->l.countP q<l.countP p
 | [],h=>by simp at h
 | x::l,h=>by
  have mono:l.countP q<=l.countP p:=List.countP_mono_left (fun k _=>hqp k)
  rcases bDp.1 h with rfl|h
  .rw[List.countP_cons_of_neg (by simp[hq]),List.countP_cons_of_pos (by simpa using hp)];omega
  .have ih:=aBt hqp hp hq h;rw[List.countP_cons,List.countP_cons];cases hqx:q x with
   | true=>have:=hqp x hqx;simp[this];omega
   | false=>simp;split<;>omega

section draw
variable {fl:Dm} {T:Tab} {w0:World} {h0:aA} {L0:Own} {all:List Oper} {Q':Exit->Act->World->Prop}

structure Rel (all:List Oper) (done:Nat) (listed:Array Bool):Prop where
 sz:listed.size=all.length
 bit:∀i,listed.getD i false=done.testBit i

theorem Rel.set{done:Nat}{listed:Array Bool}(r:Rel all done listed){i:Nat}(hi:i<all.length):Rel all (Nat.lor done (2^i)) (listed.setIfInBounds i true) where
 sz:=by simp[r.sz]
 bit k:=by
  rw[show Nat.lor done (2^i)=done ||| 2^i from rfl,Nat.testBit_or,bHi,<-r.bit k]
  by_cases hik:i=k
  .subst hik;have:i<listed.size:=by rw[r.sz];exact hi
   simp[this]
  .rw[getD_set_ne false hik];simp[hik]

theorem Rel.unlisted{done:Nat}{listed:Array Bool}(r:Rel all done listed){i:Nat}(hi:i<all.length):listed.getD i true=listed.getD i false:=by
 have:i<listed.size:=by rw[r.sz];exact hi
 simp[this]

theorem Rel.ready{done:Nat}{listed:Array Bool}(r:Rel all done listed){i:Nat}{o:Oper}(ho:all[i]?=some o):
  i∈Region.ready .any all.toArray listed↔done.testBit i=false/\∀p,(bP o.after.toList).testBit p=true->done.testBit p=true:=by
 have hil:i<all.length:=(bC9.1 ho).1;rw[mem_ready,r.unlisted hil,r.bit];constructor
 .rintro⟨h1,o',ho',h2⟩
  have:o'=o:=by simpa[ho] using ho'.symm
  subst this;refine⟨h1,fun p hp=>?_⟩
  obtain⟨e,he,hb,rfl⟩:=(kF _ _).1 hp;rw[<-r.bit];exact h2 e (by simpa using he) hb
 .rintro⟨h1,h2⟩
  refine⟨h1,o,by simpa using ho,fun e he hb=>?_⟩
  rw[r.bit];exact h2 _ ((kF _ _).2 ⟨e,by simpa using he,hb,rfl⟩)

def cnt(all:List Oper)(done:Nat):Nat:=(List.range all.length).countP fun k=>!done.testBit k

theorem yN{done i:Nat}(hi:i<all.length)(hd:done.testBit i=false):cnt all (Nat.lor done (2^i))<cnt all done:=by
 refine aBt (i:=i) (fun k hk=>?_) (by simp[hd]) ?_ (List.mem_range.2 hi)
 .rw[show Nat.lor done (2^i)=done ||| 2^i from rfl,Nat.testBit_or] at hk
  simp at hk;simp[hk.1]
 .rw[show Nat.lor done (2^i)=done ||| 2^i from rfl,Nat.testBit_or,bHi]
  simp

theorem aId(ok:T.Ok)(hout:T.room->LetsOut Q')(hP:∀c ρ h L w,Inv w0 h0 L0 h L w->T.pan c h L->Q' (.panic c) (act ρ) w)(hQp:∀c ρ ρ' w,Q' (.panic c) (act ρ) w->Q' (.panic c) (act ρ') w)(hok:vN fl all=true){Qf:Env->aA->Own->Prop}:
  ∀(m done:Nat) (listed:Array Bool) (ρ:Env) (h:aA) (L:Own) (w:World),cnt all done<=m->Rel all done listed->DC (aFf (dL all) []) listed->Inv w0 h0 L0 h L w->xC fl L->
   nX fl T all (dL all) Qf (m+1) done ρ h L->aMs fl T w0 h0 L0 all.toArray Q' (fun ρ h L _=>Qf ρ h L) m listed ρ h L w:=by
 simp only[vN,bFx] at hok;obtain⟨hsel,⟨hbef,hbigb⟩,hpairs⟩:=hok;have hsel':=Region.noSelect_spec hsel;have hbig:∀j p,((aFf (dL all) []).getD j 0).testBit p=true->p<all.length:=by
  intro j p hp;rcases bEp p all.length with h|h
  .exact h
  .exfalso
   have hlt:(aFf (dL all) []).getD j 0<2^all.length:=by
    rcases bEp j (aFf (dL all) []).length with hj|hj
    .rw[bC7,bC8 hj];have:=List.all_eq_true.1 hbigb _ (bFe hj)
     simpa[Nat.blt_eq] using this
    .rw[bC7,bD5 hj];simp[bEr]
   have:=Nat.testBit_lt_two_pow (bD9 hlt (bD8 Aa h));rw[this] at hp;cases hp
 intro m
 induction m with
 | zero=>
  intro done listed ρ h L w hc r dc inv hso hq;have none_ready:∀i o,all[i]?=some o->done.testBit i=true:=fun i o ho=>by
   have hil:i<all.length:=(bC9.1 ho).1;cases hd:done.testBit i with
   | true=>rfl
   | false=>have:=yN (done:=done) hil hd;omega
  refine⟨?_,?_⟩
  .apply List.eq_nil_iff_forall_not_mem.2
   intro i hi;obtain⟨_,o,ho,_⟩:=mem_ready.1 hi;have ho:all[i]?=some o:=by simpa using ho
   have:=((r.ready ho).1 hi).1;rw[none_ready i o ho] at this;cases this
  .simp only[nX] at hq
   split at hq
   .rename_i i o hf;obtain⟨j,rfl,ho,hd,_⟩:=sV _ _ _ _ hf;have:=none_ready j o ho;rw[bDu] at hd;rw[this] at hd;cases hd
   .split at hq
    .exact hq
    .rename_i ls hne;have hx:=vS hq;cases hl:mZ done all (dL all) 0 with
     | nil=>exact (hne hl).elim
     | cons x xs=>
      -- an operation that is ready though all are done: impossible
      have hm:∀(os:List Oper) (i0:Nat) (i:Nat) (o:Oper),(i,o)∈mZ done os (dL os) i0->∃j,i=i0+j/\os[j]?=some o/\done.testBit i=false:=by
       intro os
       induction os with
       | nil=>intro i0 i o h;simp[mZ,dL] at h
       | cons y os ih=>
        intro i0 i o h;simp only[mZ,dL,bEe] at h;cases hc:(!done.testBit i0 && Nat.beq (Nat.land done (bP y.after.toList)) (bP y.after.toList)) with
        | true=>
         rw[hc] at h;simp only[cond_true,bDp,Prod.mk.injEq] at h;rcases h with ⟨rfl,rfl⟩|h
         .simp only[bFx,bGp] at hc;exact⟨0,rfl,rfl,hc.1⟩
         .obtain⟨j,h1,h2⟩:=ih _ _ _ h;exact⟨j+1,Aa,h2⟩
        | false=>
         rw[hc] at h;obtain⟨j,h1,h2⟩:=ih _ _ _ h;exact⟨j+1,Aa,h2⟩
      obtain⟨j,h1,h2,h3⟩:=hm all 0 x.1 x.2 (by rw[hl];exact bDe ..);rw[bDu] at h1;subst h1;rw[none_ready _ _ h2] at h3;cases h3
 | succ m ih=>
  intro done listed ρ h L w hc r dc inv hso hq;rw[nX] at hq
  split at hq
  .rename_i i o hf;obtain⟨j,hj,ho,hd,hp,hqu⟩:=sV _ _ _ _ hf;rw[bDu] at hj;subst hj;have hil:i<all.length:=(bC9.1 ho).1;have hr:i∈Region.ready .any all.toArray listed:=(r.ready ho).2 ⟨hd,hp⟩;have hcc:=yN (done:=done) hil hd;have hfree:∀(j:Nat) oj,all[j]?=some oj->j≠i->((aFf (dL all) []).getD j 0).testBit i=false->((aFf (dL all) []).getD i 0).testBit j=false->o.apart all.toArray oj=true/\(qB fl oj.op=false\/aA8 o.op=true):=by
    intro j oj hoj hji n1 n2;have hjl:j<all.length:=(bC9.1 hoj).1;have:=List.all_eq_true.1 (List.all_eq_true.1 hpairs i (List.mem_range.2 hil)) j (List.mem_range.2 hjl);simp only[ho,hoj,hqu,n1,n2,Bool.not_true,Bool.false_or,bG5,beq_iff_eq,bFx,bGp,Bool.or_false] at this;rcases this with h|h
    .exact (hji h.symm).elim
    .exact h
   rcases qP hq with ⟨hw,hq⟩|⟨hw,hq⟩
   .rw[aMq] at hq;obtain⟨v,hv,hrun,hany⟩:=aPj ok hq;rw[rP] at hv;refine yM ho hsel' hQp hbef hbig hfree m listed ρ h L w r.sz dc inv hso hr (v:=v) (.inl ⟨hw,hrun,hany⟩) ?_;exact ih _ _ _ _ _ _ Aa (r.set hil) (dc.step hbef r.sz ho hr hbig) inv hso hv
   .rw[rP] at hq;refine yM ho hsel' hQp hbef hbig hfree m listed ρ h L w r.sz dc inv hso hr (v:=undef) (.inr ⟨hw,rfl⟩) ?_;exact ih _ _ _ _ _ _ Aa (r.set hil) (dc.step hbef r.sz ho hr hbig) inv hso hq
  .have main:∀i o,all[i]?=some o->i∈Region.ready .any all.toArray listed->(∀x,x∈mZ done all (dL all) 0->(fun (x:Nat × Oper)=>qN all ρ x.2
       (fun ρ=>opF T ρ h L x.2.op fun v h' L'=>(qB fl x.2.op=false->aPf fl h L h' L')/\stO v ρ x.2.dst fun ρ=>nX fl T all (dL all) Qf (m+1) (Nat.lor done (2^x.1)) ρ h' L')
       (fun ρ=>stO undef ρ x.2.dst fun ρ=>nX fl T all (dL all) Qf (m+1) (Nat.lor done (2^x.1)) ρ h L)) x)->
     qC fl T w0 h0 L0 all.toArray Q' i (aMs fl T w0 h0 L0 all.toArray Q' (fun ρ h L _=>Qf ρ h L) m (listed.setIfInBounds i true)) ρ h L w:=by
    intro i o ho hr hx;have hil:i<all.length:=(bC9.1 ho).1;obtain⟨hd,hp⟩:=(r.ready ho).1 hr;have hcc:=yN (done:=done) hil hd;have hmem:=sX (done:=done) all 0 i o ho (by rw[bDu];exact hd) hp;rw[bDu] at hmem;have hg:=hx _ hmem;unfold qC;have ho':all.toArray[i]?=some o:=by simpa using ho
    simp only[ho'];rcases qP hg with ⟨hw,hg⟩|⟨hw,hg⟩
    .rw[if_pos hw];refine aFm ok hout (fun c h' L' w'=>hP c ρ h' L' w') hg inv fun v h' L' w' i' hk=>?_
     obtain⟨hle,hk⟩:=hk;obtain⟨hle,hso'⟩:=aMr hso hle;rw[rP] at hk;exact⟨_,h',L',iN _ _ _,i',hle,hso',ih _ _ _ _ _ _ Aa (r.set hil) (dc.step hbef r.sz ho hr hbig) i' hso' hk⟩
    .rw[if_neg (by rw[hw];simp)];rw[rP] at hg;exact ih _ _ _ _ _ _ Aa (r.set hil) (dc.step hbef r.sz ho hr hbig) inv hso hg
   split at hq
   .rename_i hnil;have hn:Region.ready .any all.toArray listed=[]:=by
     apply List.eq_nil_iff_forall_not_mem.2
     intro i hi;obtain⟨_,o,ho,_⟩:=mem_ready.1 hi;have ho:all[i]?=some o:=by simpa using ho
     obtain⟨hd,hp⟩:=(r.ready ho).1 hi;have hmem:=sX (done:=done) all 0 i o ho (by rw[bDu];exact hd) hp;rw[hnil] at hmem;cases hmem
    exact⟨fun _=>hq,fun i hi=>by rw[hn] at hi;cases hi⟩
   .rename_i ls hne;refine⟨fun hn=>?_,fun i hi=>?_⟩
    .exfalso
     cases hl:mZ done all (dL all) 0 with
     | nil=>exact hne hl
     | cons x xs=>
      have hm:∀(os:List Oper) (i0:Nat) (i:Nat) (o:Oper),(i,o)∈mZ done os (dL os) i0->∃j,i=i0+j/\os[j]?=some o/\done.testBit i=false/\(∀p,(bP o.after.toList).testBit p=true->done.testBit p=true):=by
       intro os
       induction os with
       | nil=>intro i0 i o h;simp[mZ,dL] at h
       | cons y os ih=>
        intro i0 i o h;simp only[mZ,dL,bEe] at h;cases hc:(!done.testBit i0 && Nat.beq (Nat.land done (bP y.after.toList)) (bP y.after.toList)) with
        | true=>
         rw[hc] at h;simp only[cond_true,bDp,Prod.mk.injEq] at h;rcases h with ⟨rfl,rfl⟩|h
         .simp only[bFx,bGp] at hc;exact⟨0,rfl,rfl,hc.1,vR.1 hc.2⟩
         .obtain⟨j,h1,h2⟩:=ih _ _ _ h;exact⟨j+1,Aa,h2⟩
        | false=>
         rw[hc] at h;obtain⟨j,h1,h2⟩:=ih _ _ _ h;exact⟨j+1,Aa,h2⟩
      obtain⟨j,h1,h2,h3,h4⟩:=hm all 0 x.1 x.2 (by rw[hl];exact bDe ..);rw[bDu] at h1;subst h1;have:=(r.ready h2).2 ⟨h3,h4⟩;rw[hn] at this;cases this
    .obtain⟨_,o,ho,_⟩:=mem_ready.1 hi;exact main i o (by simpa using ho) hi fun x hx=>vS hq x hx

theorem yO(ok:T.Ok):∀(c:Code) (Q:fN) (Q':Exit->Act->World->Prop) (ρ:Env) (h:aA) (L:Own) (w:World),QR w0 h0 L0 Q Q'->(T.room->LetsOut Q')->(∀c ρ h L w,Inv w0 h0 L0 h L w->T.pan c h L->Q' (.panic c) (act ρ) w)->(∀c ρ ρ' w,Q' (.panic c) (act ρ) w->Q' (.panic c) (act ρ') w)->
  Inv w0 h0 L0 h L w->gS T c Q ρ h L->c.wp T.prog Q' (act ρ) w:=by
 intro c
 induction c with
 | skip=>intro Q Q' ρ h L w hQ _ _ _ inv hc;exact wp_skip (hQ .normal _ _ _ _ inv hc)
 | label l=>intro Q Q' ρ h L w hQ _ _ _ inv hc;exact wp_label (hQ .normal _ _ _ _ inv hc)
 | exit id=>intro Q Q' ρ h L w hQ _ _ _ inv hc;exact wp_exit (hQ (.exit id) _ _ _ _ inv hc)
 | ret=>intro Q Q' ρ h L w hQ _ _ _ inv hc;exact wp_ret (hQ .ret _ _ _ _ inv hc)
 | goto l=>intro Q Q' ρ h L w hQ _ _ _ inv hc;exact hc.elim
 | refuse y=>intro Q Q' ρ h L w hQ _ _ _ inv hc;exact hc.elim
 | scope c _=>intro Q Q' ρ h L w hQ _ _ _ inv hc;exact hc.elim
 | rangeFunc f ps a b _ _=>intro Q Q' ρ h L w hQ hout hP _ inv hc;exact hc.ex ok Q' w0 h0 L0 w hQ hout hP inv
 | region id ops draw=>
  intro Q Q' ρ h L w hQ hout hP hQp inv hc;cases draw with
  | false=>
   have:=vQ ok hQ hout hP ops.toList ρ h L w inv hc;exact wp_region_list (by simpa using this)
  | true=>
   obtain⟨fl,hso,hok,hd⟩:=hc.ex;have hx:=aId ok hout hP hQp hok (Qf:=Q .normal) ops.toList.length 0 (Array.replicate ops.size false) ρ h L { w with drawn:=w.drawn+1 } (by
       unfold cnt;exact bDv (List.countP_le_length) Ao)
    ⟨by simp,fun i=>by
      rw[Nat.zero_testBit];rcases bEp i ops.size with h|h
      .simp[h]
      .simp[Array.getElem?_replicate,Nat.not_lt.2 h]⟩
    (fun j p hj=>by
      rcases bEp j ops.size with h|h
      .simp[h] at hj
      .simp[Array.getElem?_replicate,Nat.not_lt.2 h] at hj) inv.drew hso hd
   refine wp_region_any ok.mixed ?_;have:=nB (Q':=Q') (fun ρ h L w i hq=>hQ .normal ρ h L w i hq) _ _ _ _ _ _ inv.drew hx
   simpa using this
 | seq a b iha ihb=>
  intro Q Q' ρ h L w hQ hout hP hQp inv hc;have hout':∀N,(T.room->LetsOut (Exit.then N Q')):=fun N hr=>by obtain⟨a,w,hh⟩:=hout hr;exact⟨a,w,hh⟩
  simp only[gS] at hc;refine wp_seq ?_;obtain⟨J,hJ,hb⟩:=hc;refine iha _ _ ρ h L w (fun e ρ h L w i hq=>?_) (hout' _) (fun c ρ h L w i hh=>hP c ρ h L w i hh) (fun c a a' w hh=>hQp c a a' w hh) inv hJ
  cases e with
  | normal=>exact ihb Q Q' ρ h L w hQ hout hP hQp i (hb _ _ _ hq)
  | exit id=>exact hQ (.exit id) _ _ _ _ i hq
  | ret=>exact hQ .ret _ _ _ _ i hq
 | cond x a b iha ihb=>
  intro Q Q' ρ h L w hQ hout hP hQp inv hc;simp only[gS,dX] at hc
  split at hc
  .rename_i t ht;refine wp_cond ht ?_;cases t with
   | true=>exact iha Q Q' ρ h L w hQ hout hP hQp inv hc
   | false=>exact ihb Q Q' ρ h L w hQ hout hP hQp inv hc
  .exact hc.elim
 | block id c ih=>
  intro Q Q' ρ h L w hQ hout hP hQp inv hc;refine wp_block (ih _ _ ρ h L w (fun e ρ h L w i hq=>?_) (fun hr=>by obtain⟨a,w,hh⟩:=hout hr;exact⟨a,w,hh⟩) (fun c ρ h L w i hh=>hP c ρ h L w i hh) (fun c a a' w hh=>hQp c a a' w hh) inv hc)
  cases e with
  | normal=>exact hQ .normal _ _ _ _ i hq
  | exit id'=>
   simp only[Ex.to,Exit.inBlock];simp only at hq
   split at hq
   .rename_i e;rw[if_pos e];exact hQ .normal _ _ _ _ i hq
   .rename_i e;rw[if_neg e];exact hQ (.exit id') _ _ _ _ i hq
  | ret=>exact hQ .ret _ _ _ _ i hq
 | loop c ih=>
  intro Q Q' ρ h L w hQ hout hP hQp inv hc;obtain⟨h1,L1,⟨I,⟨n,hn⟩,hr⟩,inv1⟩:=inv.fz hc.ex;refine aBb (fun n a w=>∃ρ' h' L',a=act ρ'/\ρ'=over (wr c) 0 ρ ρ'/\I n ρ' h' L'/\Inv w0 h0 L0 h' L' w) ⟨n,ρ,h1,L1,rfl,?_,hn,inv1⟩ ?_
  .have:∀(ws:List Nat) (i:Nat) (ρ:Env),ρ=over ws i ρ ρ:=by
    intro ws i ρ
    induction ρ generalizing i with
    | nil=>rfl
    | cons x ρ ih=>simp only[over,<-ih];cases ws.contains i<;>rfl
   exact this _ _ _
  .rintro n a w ⟨ρ',h',L',rfl,hov,hI,i⟩
   refine ih _ _ ρ' h' L' w (fun e ρ'' h'' L'' w' i' hq=>?_) (fun hr=>by obtain⟨a,w,hh⟩:=hout hr;exact⟨a,w,hh⟩) (fun c ρ h L w i hh=>hP c ρ h L w i hh) (fun c a a' w hh=>hQp c a a' w hh) i (hr n ρ' h' L' hov hI)
   cases e with
   | normal=>obtain⟨ho,m,hm,hI'⟩:=hq;exact⟨m,hm,ρ'',h'',L'',rfl,ho,hI',i'⟩
   | exit id=>exact hQ (.exit id) _ _ _ _ i' hq
   | ret=>exact hQ .ret _ _ _ _ i' hq

def yP(tmps:Array Value):ResultVar->Sem Value
 | .tmp t=>pure (tmps.getD t undef)
 | .cell a t=>do loadVar t (<-asAddr (tmps.getD a undef))

theorem vT(ok:T.Ok){ρ:Env}{h:aA}{L:Own}{w:World}(s:Sat h L w):∀(rs:List ResultVar) {k:List Value->Prop},aC8 T ρ h L rs k->
  ∃vs,k vs/\(rs.mapM (yP ρ.toArray)).run T.prog w=.ok vs w
 | [],k,hk=>⟨[],hk,by simp⟩
 | .tmp t::rs,k,hk=>by
  simp only[aC8,xJ] at hk;obtain⟨vs,h1,h2⟩:=vT ok s rs hk;refine⟨_,h1,?_⟩;simp only[List.mapM_cons,bEg,bEj,bEf,h2,yP,<-aBn]
 | .cell a t::rs,k,hk=>by
  simp only[aC8,xJ] at hk;have fin:∀{ad:Addr} {kk:Value->Prop},rd ρ a=.pointer (some ad)->(∃v,kk v/\Y T h L (loadVar t ad) v)->(∀v,kk v->aC8 T ρ h L rs fun vs=>k (v::vs))->
    ∃vs,k vs/\((ResultVar.cell a t::rs).mapM (yP ρ.toArray)).run T.prog w=.ok vs w:=by
   rintro ad kk hp ⟨v,hv,hy⟩ hkk
   obtain⟨vs,h1,h2⟩:=vT ok s rs (hkk v hv);refine⟨_,h1,?_⟩;have hl:=hy h L w (aH.refl _ _) s;simp only[List.mapM_cons,bEg,bEj,bEf,h2,yP,<-aBn,hp,asAddr,hl]
  split at hk
  .rename_i ad hp
   split at hk
   .rename_i d z n hd hagg hi;exact fin hp (aBq ok hd hagg hi hk) (fun v hv=>hv)
   .rename_i d hd hagg;exact fin hp (aFj ok hd hagg hk) (fun v hv=>hv)
   .exact hk.elim
  .exact hk.elim

theorem wR(ok:T.Ok){f:FuncId}{fn:Func}{c:Code}{args:List Value}{h:aA}{L:Own}{R:Value->aA->Own->Prop}
  (hf:T.prog.funcs[f]?=some fn) (hb:fn.body=some c)
  (hc:gS T c (aMn T fn.results.toList R) (args++List.replicate (fn.ntmps-args.length) undef) h L):FnP T f args h L R T.pan:=by
 intro w s;refine calls_of_wp hf hb ?_;have:=yO (w0:=w) (h0:=h) (L0:=L) ok c (aMn T fn.results.toList R) (bodyPost T.prog fn fun e w'=>match e with
   | .returned v=>∃h' L',Inv w h L h' L' w'/\R v h' L'
   | .panicked c=>∃h' L',Inv w h L h' L' w'/\T.pan c h' L'
   | .outgrown=>T.room) _ h L w ?_ (fun hr=>⟨⟨#[],[]⟩,w,hr⟩) (fun c ρ h L w i hh=>⟨rfl,_,_,i,hh⟩) (fun c ρ ρ' w hh=>⟨rfl,hh.2⟩) (Inv.init s) hc
 .have e:act (args++List.replicate (fn.ntmps-args.length) undef)={ tmps:=args.toArray++Array.replicate (fn.ntmps-args.toArray.size) undef,defers:=[] }:=by
   simp[act]
  rw[e] at this;exact this
 .intro e ρ h' L' w' i hq;have fin:(aC8 T ρ h' L' fn.results.toList fun vs=>match vs with
      | [v]=>RN v h' L' R
      | vs=>RN (.tuple vs.toArray) h' L' R)->(act ρ).defers=[]/\∃v,(results fn (act ρ).tmps).run T.prog w'=.ok v w'/\∃h'' L'',Inv w h L h'' L'' w'/\R v h'' L'':=by
   intro hr;obtain⟨vs,hk,hrun⟩:=vT ok i.toSat _ hr;refine⟨rfl,?_⟩;have hres:∀v,(if h:vs.toArray.size=1 then vs.toArray[0] else .tuple vs.toArray)=v->(results fn (act ρ).tmps).run T.prog w'=.ok v w':=by
    intro v hv;unfold results;rw[Array.mapM_eq_mapM_toList];simp only[bEg,Sem.run_map];have hrr:∀g:ResultVar->Sem Value,(∀x,g x=yP ρ.toArray x)->(List.mapM g fn.results.toList).run T.prog w'=.ok vs w':=fun g hg=>by rw[funext hg];exact hrun
    rw[hrr _ (fun x=>by cases x<;>rfl)]
    simp only[bEf,bEj,hv]
   split at hk
   .rename_i v;obtain⟨h'',L'',hR,i''⟩:=i.fz hk.ex;exact⟨v,hres v Ao,h'',L'',i'',hR⟩
   .rename_i hne;obtain⟨h'',L'',hR,i''⟩:=i.fz hk.ex;refine⟨_,hres _ (dif_neg ?_),h'',L'',i'',hR⟩;intro h1
    match vs,h1,hne with
    | [v],_,hne=>exact hne v rfl
  cases e with
  | normal=>exact fin hq
  | ret=>exact fin hq
  | exit id=>exact hq.elim
theorem yQ(ok:T.Ok){f:FuncId}{fn:Func}{c:Code}{args:List Value}{h:aA}{L:Own}{R:Value->aA->Own->Prop}(hn:∀c h L,¬T.pan c h L)
  (hf:T.prog.funcs[f]?=some fn) (hb:fn.body=some c)
  (hc:gS T c (aMn T fn.results.toList R) (args++List.replicate (fn.ntmps-args.length) undef) h L):Fn T f args h L R:=
 fun w s=>(wR ok hf hb hc w s).mono fun e w' he=>by
  cases e with
  | returned v=>exact he
  | panicked c=>obtain⟨_,_,_,x⟩:=he;exact hn _ _ _ x
  | outgrown=>exact he
end draw
end Go.Vc