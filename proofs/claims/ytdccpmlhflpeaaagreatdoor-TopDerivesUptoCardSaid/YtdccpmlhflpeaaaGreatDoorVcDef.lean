/- The executable form of the walk: what the code of a function computes on a frame that is written out, over memory that is told as a list. Plain definitions; the next text proves that they speak of the model. -/
import Derived.Calls
import Derived.Orders
import Derived.Below
import Derived.Laws.Sem
set_option linter.all false
namespace Go
theorem Aa{p:Prop}(h:p:=by omega):p:=h
theorem Ab{p:Prop}(h:p:=by assumption):p:=h
theorem Ad{p:Prop}(h:p:=by decide):p:=h
theorem Al{p:Prop}(h:p:=by decide +kernel):p:=h
theorem Am{p:Prop}(h:p:=by first|decide|exact⟨by omega,by omega⟩):p:=h
theorem Ao{p:Prop}(h:p:=by simp):p:=h
theorem Aq{p:Prop}(h:p:=by simp;omega):p:=h
theorem Ay{p:Prop}(h:p:=by split<;>omega):p:=h
theorem Az{p:Prop}(h:p:=by first|assumption|omega):p:=h
theorem AB{α:Sort _}(a:α):∃x,x=a:=⟨a,rfl⟩
end Go
namespace Go
abbrev bC6:=@List.length_append
theorem AA{p:Prop}(h:p:=by simp only[bC6];omega):p:=h
abbrev bC7:=@List.getD_eq_getElem?_getD
abbrev bC8:=@List.getElem?_eq_getElem
abbrev bC9:=@List.getElem?_eq_some_iff
abbrev bDa:=@List.length_cons
abbrev bDb:=@List.append_assoc
abbrev bDc:=@List.mem_of_getElem?
abbrev bDd:=@List.length_nil
theorem Au{p:Prop}(h:p:=by simp only[bC6,bDa,bDd];omega):p:=h
abbrev bDe:=@List.mem_cons_self
abbrev bDf:=@List.mem_append
abbrev bDg:=@List.append_nil
abbrev bDh:=@List.mem_cons_of_mem
abbrev bDi:=@List.getElem?_append_left
abbrev bDj:=@Nat.mul_comm
abbrev bDk:=@List.mem_singleton
abbrev bDl:=@List.map_append
abbrev bDm:=@List.take_length
abbrev bDn:=@List.eq_nil_of_length_eq_zero
abbrev bDo:=@List.take_append_drop
abbrev bDp:=@List.mem_cons
abbrev bDq:=@Nat.mul_le_mul_right
abbrev bDr:=@List.length_take
abbrev bDs:=@List.getElem?_append_right
abbrev bDt:=@List.length_map
abbrev bDu:=@Nat.zero_add
abbrev bDv:=@Nat.le_trans
abbrev bDw:=@Nat.zero_le
abbrev bDx:=@Nat.le_refl
abbrev bDy:=@List.mem_map_of_mem
abbrev bDz:=@List.mem_append_left
abbrev bD0:=@List.mem_append_right
abbrev bD1:=@List.getElem?_toArray
abbrev bD2:=@Nat.mul_le_mul_left
abbrev bD3:=@List.length_drop
abbrev bD4:=@List.length_singleton
abbrev bD5:=@List.getElem?_eq_none
abbrev bD6:=@List.drop_eq_getElem_cons
abbrev bD7:=@List.length_eq_zero_iff
abbrev bD8:=@Nat.pow_le_pow_right
abbrev bD9:=@Nat.lt_of_lt_of_le
abbrev bEa:=@Nat.mul_assoc
abbrev bEb:=@Nat.mul_add
abbrev bEc:=@Nat.add_mul
abbrev bEd:=@List.mem_of_mem_take
abbrev bEe:=@List.map_cons
abbrev bEf:=@Result.andThen_ok
abbrev bEg:=@Sem.run_bind
abbrev bEh:=@Nat.add_zero
abbrev bEi:=@Nat.div_lt_iff_lt_mul
abbrev bEj:=@Sem.run_pure
abbrev bEk:=@Nat.pow_succ
abbrev bEl:=@Nat.mod_eq_of_lt
abbrev bEm:=@List.nil_append
abbrev bEn:=@List.cons_append
abbrev bEo:=@List.set_append_right
abbrev bEp:=@Nat.lt_or_ge
abbrev bEq:=@Rat.mul_assoc
abbrev bEr:=@Nat.two_pow_pos
abbrev bEs:=@Nat.pow_add
abbrev bEt:=@Rat.one_mul
abbrev bEu:=@Nat.div_div_eq_div_mul
abbrev bEv:=@Nat.zero_mul
abbrev bEw:=@Nat.add_sub_cancel_left
abbrev bEx:=@Nat.div_eq_of_lt
abbrev bEy:=@List.getElem?_set_self
abbrev bEz:=@Rat.zero_mul
abbrev bE0:=@Nat.mul_left_comm
abbrev bE1:=@List.nil_sublist
theorem Aw{p:Prop}(h:p:=by exact List.Sublist.cons _ (List.Sublist.cons_cons _ (List.Sublist.cons_cons _ (bE1 _)))):p:=h
abbrev bE2:=@List.mem_of_mem_drop
abbrev bE3:=@Nat.mod_lt
abbrev bE4:=@Nat.add_assoc
abbrev bE5:=@List.drop_zero
abbrev bE6:=@List.size_toArray
abbrev bE7:=@Nat.eq_zero_or_pos
abbrev bE8:=@Nat.pos_of_ne_zero
abbrev bE9:=@Nat.min_eq_left
abbrev bFa:=@List.take_zero
abbrev bFb:=@List.getElem?_take
abbrev bFc:=@Nat.mul_zero
abbrev bFd:=@List.map_nil
abbrev bFe:=@List.getElem_mem
abbrev bFf:=@Nat.mul_le_mul
abbrev bFg:=@Int.sign_eq_neg_one_of_neg
abbrev bFh:=@List.getElem_of_mem
abbrev bFi:=@Nat.pow_pos
abbrev bFj:=@List.set_cons_succ
abbrev bFk:=@Nat.lt_of_le_of_lt
abbrev bFl:=@Rat.add_assoc
abbrev bFm:=@Nat.mul_one
abbrev bFn:=@Rat.mul_zero
abbrev bFo:=@List.perm_append_comm
abbrev bFp:=@Rat.mul_comm
abbrev bFq:=@Rat.sub_eq_add_neg
abbrev bFr:=@Nat.sub_self
abbrev bFs:=@Rat.add_zero
abbrev bFt:=@Int.sign_eq_one_of_pos
abbrev bFu:=@List.length_set
abbrev bFv:=@Nat.mod_add_div
abbrev bFw:=@Nat.div_add_mod
abbrev bFx:=@Bool.and_eq_true
abbrev bFy:=@List.not_mem_nil
abbrev bFz:=@Nat.pow_mul
abbrev bF0:=@List.takeWhile_cons
abbrev bF1:=@List.getElem?_map
abbrev bF2:=@Rat.pow_zero
abbrev bF3:=@List.take_left
abbrev bF4:=@Bool.false_eq_true
abbrev bF5:=@List.getElem?_drop
abbrev bF6:=@List.filter_append
abbrev bF7:=@Rat.mul_one
abbrev bF8:=@Int.toNat_of_nonneg
abbrev bF9:=@Nat.le_div_iff_mul_le
abbrev bGa:=@List.set_getElem_self
abbrev bGb:=@Rat.pow_succ
abbrev bGc:=@List.getElem?_cons_succ
abbrev bGd:=@List.flatten_cons
abbrev bGe:=@Nat.one_mul
abbrev bGf:=@Nat.pow_le_pow_left
abbrev bGg:=@List.drop_eq_nil_of_le
abbrev bGh:=@Nat.le_max_right
abbrev bGi:=@Nat.le_of_lt
abbrev bGj:=@Nat.add_comm
abbrev bGk:=@List.eq_nil_or_concat
abbrev bGl:=@List.eraseIdx_append_of_length_le
abbrev bGm:=@Nat.lt_of_mul_lt_mul_left
abbrev bGn:=@List.drop_left
abbrev bGo:=@List.lt_irrefl
abbrev bGp:=@Bool.not_eq_true'
abbrev bGq:=@Option.map_some
abbrev bGr:=@List.ext_getElem?
abbrev bGs:=@List.mem_of_mem_eraseIdx
abbrev bGt:=@List.nodup_append
abbrev bGu:=@Nat.le_max_left
abbrev bGv:=@Nat.div_le_self
abbrev bGw:=@Int.lt_trichotomy
abbrev bGx:=@List.map_map
abbrev bGy:=@List.getD_cons_succ
abbrev bGz:=@List.append_toArray
abbrev bG0:=@List.ext_getElem
abbrev bG1:=@List.drop_append_of_le_length
abbrev bG2:=@List.drop_drop
abbrev bG3:=@List.take_of_length_le
abbrev bG4:=@List.drop_of_length_le
abbrev bG5:=@Bool.or_eq_true
abbrev bG6:=@Option.map_none
abbrev bG7:=@Nat.le_of_ble_eq_true
abbrev bG8:=@Rat.zero_add
abbrev bG9:=@List.length_filter_le
abbrev bHa:=@List.getElem?_set
abbrev bHb:=@List.push_toArray
abbrev bHc:=@List.set_append_left
abbrev bHd:=@Nat.add_mul_mod_self_left
abbrev bHe:=@List.mem_or_eq_of_mem_set
abbrev bHf:=@List.sublist_append_right
abbrev bHg:=@List.getD_cons_zero
abbrev bHh:=@List.map_congr_left
abbrev bHi:=@Nat.testBit_two_pow
abbrev bHj:=@Rat.neg_den
abbrev bHk:=@Nat.gcd_pos_of_pos_right
abbrev bHl:=@Rat.add_comm
abbrev bHm:=@List.getLast_eq_getElem
abbrev bHn:=@Nat.mul_ne_zero
abbrev bHo:=@List.eraseIdx_cons_succ
abbrev bHp:=@List.filter_cons_of_neg
abbrev bHq:=@List.filter_cons_of_pos
abbrev bHr:=@List.lt_trans
abbrev bHs:=@Int.toNat_natCast
abbrev bHt:=@List.getElem_take
abbrev bHu:=@Rat.div_def
abbrev bHv:=@Nat.div_one
abbrev bHw:=@List.flatMap_cons
abbrev bHx:=@Rat.mul_add
abbrev bHy:=@Rat.add_mul
abbrev bHz:=@List.nodup_nil
abbrev bH0:=@Nat.lt_trans
abbrev bH1:=@Nat.pow_zero
abbrev bH2:=@List.perm_middle
abbrev bH3:=@List.filter_cons
abbrev bH4:=@Rat.neg_mul
end Go
namespace Go.Vc
open Go

abbrev Env:=List Value
abbrev aA:=Nat->Option Obj
abbrev Own:=List (Nat × Obj)

def aA.put(h:aA)(b:Nat)(o:Obj):aA:=fun x=>if x=b then some o else h x
def aA.le(h h':aA):Prop:=∀b o,h b=some o->h' b=some o

/-! ### The frame -/
def rd:Env->Nat->Value
 | [],_=>undef
 | v::_,0=>v
 | _::e,n+1=>rd e n

def rdK(k:Value->Prop):Env->Nat->Prop
 | [],_=>k undef
 | v::_,0=>k v
 | _::e,n+1=>rdK k e n

def st(v:Value):Env->Nat->(Env->Prop)->Prop
 | [],_,k=>k []
 | _::e,0,k=>k (v::e)
 | x::e,n+1,k=>st v e n (fun e'=>k (x::e'))

def stO(v:Value)(e:Env)(d:Option Tmp)(k:Env->Prop):Prop:=
 match d with
 | none=>k e
 | some d=>st v e d k

def ev(ρ:Env)(x:Operand)(k:Value->Prop):Prop:=
 match x with
 | .tmp t=>rdK k ρ t
 | .const v=>k v
 | .global g=>k (.pointer (some ⟨g,0,none⟩))
 | .func f=>k (.func (.func f) #[] #[])

def evs(ρ:Env):List Operand->(List Value->Prop)->Prop
 | [],k=>k []
 | x::xs,k=>ev ρ x fun v=>evs ρ xs fun vs=>k (v::vs)

def aA7{α:Type}:List α->(List α->Prop)->Prop
 | [],k=>k []
 | x::xs,k=>aA7 xs fun ys=>k (x::ys)

def vL{α:Type}(v:α):List α->Nat->(List α->Prop)->Prop
 | [],_,k=>k []
 | _::e,0,k=>k (v::e)
 | x::e,n+1,k=>vL v e n (fun e'=>k (x::e'))

def yF:List Value->List Value->Nat->(List Value->Prop)->Prop
 | [],l,_,k=>k l
 | v::vs,l,o,k=>vL v l o fun l=>yF vs l (o+1) k

/-! ### What the program's tables say -/
structure Tab where
 prog:Program
 und:TypeId->Option TypeDesc
 inf:TypeId->Option (List Value × Nat)
 fn:FuncId->Bool
 room:Prop
 /-- what must hold where a panic leaves the function that is walked -/
 pan:List PanicEntry->aA->Own->Prop:=fun _ _ _=>False

structure Tab.Ok (T:Tab):Prop where
 und:∀t d,T.und t=some d->T.prog.underlying t=some d
 inf:∀t z n,T.inf t=some (z,n)->∃i v,T.prog.info? t=some i/\i.zero=some v/\v.cells=z.toArray/\i.size=z.length/\i.bytes=n
 fn:∀f,T.fn f=true->∀args w,(callFunc f args).run T.prog w=.ok (.enter f args) w
 mixed:T.prog.follows .mixedOrders=true

/-! ### Places where the walk asks for something -/
structure WN (kd:IntKind) (n:Int) (k:Int->Prop):Prop where
 h:k (kd.wrap n)
structure fM (kd:IntKind) (a b:Int) (k:Int->Prop):Prop where
 nz:b≠0
 h:k (kd.wrap (a.tdiv b))
structure iQ (a b:Int) (k:Int->Prop):Prop where
 nz:b≠0
 h:k (a.tmod b)
structure kK (kd:IntKind) (a b:Int) (k:Int->Prop):Prop where
 nn:¬b<0
 h:k (kd.wrap (a*2^(min b.toNat kd.bits)))
structure cG (kd:IntKind) (a b:Int) (k:Int->Prop):Prop where
 nn:¬b<0
 h:k (a.fdiv (2^(min b.toNat kd.bits)))
def bits(op:BinOp)(kd:IntKind)(a b:Int):Nat:=
 match op with
 | .and=>(BitVec.ofInt kd.bits a &&& BitVec.ofInt kd.bits b).toNat
 | .or=>(BitVec.ofInt kd.bits a ||| BitVec.ofInt kd.bits b).toNat
 | .xor=>(BitVec.ofInt kd.bits a ^^^ BitVec.ofInt kd.bits b).toNat
 | _=>(BitVec.ofInt kd.bits a &&& ~~~BitVec.ofInt kd.bits b).toNat
structure kL (op:BinOp) (kd:IntKind) (a b:Int) (k:Int->Prop):Prop where
 h:k (kd.wrap (bits op kd a b))

@[irreducible] def lt (a b:Int):Bool:=decide (a<b)
@[irreducible] def le (a b:Int):Bool:=decide (a<=b)
@[irreducible] def eq (a b:Int):Bool:=decide (a=b)
@[irreducible] def beq (a b:Bool):Bool:=a == b
@[irreducible] def seq (a b:ByteArray):Bool:=a.toList == b.toList
@[irreducible] def slt (a b:ByteArray):Bool:=Op.bytesLess a.toList b.toList

def cnd:Bool->Prop->Prop->Prop
 | true,p,_=>p
 | false,_,q=>q

def Has(h:aA)(L:Own)(a:Addr)(v:Value):Prop:=
 a.spot=none/\∃c T fz,(h a.block=some (.cells c T fz)\/(a.block,.cells c T fz)∈L)/\c[a.off]?=some v

def aH(h:aA)(L:Own)(h':aA)(L':Own):Prop:=∀a v,Has h L a v->Has h' L' a v

structure Ld (h:aA) (L:Own) (a:Addr) (k:Value->Prop):Prop where
 ex:∃v,Has h L a v/\k v

structure LdN (h:aA) (L:Own) (a:Addr) (n:Nat) (k:Value->Prop):Prop where
 ex:∃vs:List Value,vs.length=n/\(∀i,i<n->Has h L (a.add i) (vs.getD i undef))/\k (.agg vs.toArray)

structure Idx (a:Option Addr) (i:Int) (n:Nat) (size:Nat) (k:Addr->Prop):Prop where
 ex:∃(ad:Addr) (j:Nat),a=some ad/\i=j/\j<n/\k (ad.add (j*size))

structure eB (s:ByteArray) (i:Int) (k:Int->Prop):Prop where
 ex:∃(j:Nat) (c:UInt8),i=j/\s[j]?=some c/\k c.toNat

structure Cut (l h m:Int) (k:Nat->Nat->Nat->Prop):Prop where
 ex:∃l' h' m':Nat,l=l'/\h=h'/\m=m'/\l'<=h'/\h'<=m'/\k l' h' m'

structure lH (a:Option Addr) (l h:Int) (cap size:Nat) (k:Option Addr->Nat->Nat->Prop):Prop where
 ex:∃(l' h':Nat) (a':Option Addr) (n c:Nat),l=l'/\h=h'/\l'<=h'/\h'<=cap/\a'=(if cap=l' then a else a.map (·.add (l'*size)))/\n=h'-l'/\c=cap-l'/\k a' n c

def gC:Value->Bool
 | .agg _|.tuple _=>false
 | _=>true

def kE(c:Array Value)(o:Nat):List Value->Array Value
 | []=>c
 | v::vs=>kE (c.setIfInBounds o v) (o+1) vs

structure Sto (L:Own) (a:Addr) (vs:List Value) (k:Own->Prop):Prop where
 ex:a.spot=none/\∃n c T,L[n]?=some (a.block,.cells c T (0,0))/\a.off+vs.length<=c.size/\vs.all gC=true/\
  k (L.set n (a.block,.cells (kE c a.off vs) T (0,0)))

inductive FzN (P:aA->Own->Prop):aA->Own->Prop where
 | done {h L} (r:P h L):FzN P h L
 | keep {h L b o} (n:Nat) (hn:L[n]?=some (b,o)) (r:h.le (h.put b o)->FzN P (h.put b o) (L.eraseIdx n)):FzN P h L
 | drop {h L} (n:Nat) (r:FzN P h (L.eraseIdx n)):FzN P h L

structure Sat (h:aA) (L:Own) (w:World):Prop where
 imm:∀b o,h b=some o->w.heap[b]?=some o
 own:∀x∈L,w.heap[x.1]?=some x.2
 sep:∀x∈L,h x.1=none
 nd:(L.map (·.1)).Nodup

def aH7(_:Obj):Prop:=0=0

structure Inv (w0:World) (h0:aA) (L0:Own) (h:aA) (L:Own) (w:World):Prop extends Sat h L w where
 os:w.os=w0.os
 tape:w.tape=w0.tape
 output:w.output=w0.output
 size:w0.heap.size<=w.heap.size
 fr:∀b,b<w0.heap.size->b∉L0.map (·.1)->w.heap[b]?=w0.heap[b]?
 hle:h0.le h
 hnew:∀b o,h b=some o->b<w0.heap.size->b∉L0.map (·.1)->h0 b=some o
 lnew:∀x∈L,x.1<w0.heap.size->x.1∈L0.map (·.1)
 lsoft:(∀x∈L0,aH7 x.2)->∀x∈L,aH7 x.2
 frz:(∀x∈L0,aH7 x.2)->∀b o,w0.heap.size<=b\/b∈L0.map (·.1)->w.heap[b]?=some o->aH7 o

def Fn(T:Tab)(f:FuncId)(args:List Value)(h:aA)(L:Own)(R:Value->aA->Own->Prop):Prop:=
 ∀w,Sat h L w->Calls T.prog f args.toArray w fun e w'=>match e with
  | .returned v=>∃h' L',Inv w h L h' L' w'/\R v h' L'
  | .panicked _=>False
  | .outgrown=>T.room

def FnP(T:Tab)(f:FuncId)(args:List Value)(h:aA)(L:Own)(R:Value->aA->Own->Prop)(S:List PanicEntry->aA->Own->Prop):Prop:=
 ∀w,Sat h L w->Calls T.prog f args.toArray w fun e w'=>match e with
  | .returned v=>∃h' L',Inv w h L h' L' w'/\R v h' L'
  | .panicked c=>∃h' L',Inv w h L h' L' w'/\S c h' L'
  | .outgrown=>T.room
theorem Fn.pan{T:Tab}{f:FuncId}{args:List Value}{h:aA}{L:Own}{R:Value->aA->Own->Prop}(hf:Fn T f args h L R):FnP T f args h L R fun _ _ _=>False:=
 fun w s=>(hf w s).mono fun e w' he=>by
  cases e with
  | returned v=>exact he
  | panicked c=>exact he.elim
  | outgrown=>exact he
theorem FnP.fn{T:Tab}{f:FuncId}{args:List Value}{h:aA}{L:Own}{R:Value->aA->Own->Prop}(hf:FnP T f args h L R fun _ _ _=>False):Fn T f args h L R:=
 fun w s=>(hf w s).mono fun e w' he=>by
  cases e with
  | returned v=>exact he
  | panicked c=>obtain⟨_,_,_,x⟩:=he;exact x
  | outgrown=>exact he

structure CN (T:Tab) (f:FuncId) (args:List Value) (h:aA) (L:Own) (k:Value->aA->Own->Prop):Prop where
 ok:T.fn f=true
 ex:FzN (fun h1 L1=>∃La Lb R S,L1.Perm (La++Lb)/\FnP T f args h1 La R S/\(∀v h' La',h1.le h'->R v h' La'->∃L',(La'++Lb).Perm L'/\k v h' L')/\∀c h' La',h1.le h'->S c h' La'->∃L',(La'++Lb).Perm L'/\T.pan c h' L') h L
theorem CN.of{T:Tab}{f:FuncId}{args:List Value}{h:aA}{L:Own}{k:Value->aA->Own->Prop}(ok:T.fn f=true)(ex:FzN (fun h1 L1=>∃La Lb R,L1.Perm (La++Lb)/\Fn T f args h1 La R/\∀v h' La',h1.le h'->R v h' La'->∃L',(La'++Lb).Perm L'/\k v h' L') h L):CN T f args h L k:=by
 refine⟨ok,?_⟩
 induction ex with
 | done r=>obtain⟨La,Lb,R,p,hf,hk⟩:=r;exact .done ⟨La,Lb,R,_,p,hf.pan,hk,fun _ _ _ _ x=>x.elim⟩
 | keep n hn r ih=>exact .keep n hn fun hl=>ih hl
 | drop n r ih=>exact .drop n ih

structure Mk (n:Int) (bytes:Nat) (k:Nat->Prop):Prop where
 ex:∃m:Nat,n=m/\m<=281474976710656/\bytes*m<=281474976710656/\k m

/-! ### The operations -/
def aC6(op:BinOp)(kd:IntKind)(a b:Int)(k:Value->Prop):Prop:=
 match op with
 | .add=>WN kd (a+b) fun n=>k (.int kd n)
 | .sub=>WN kd (a-b) fun n=>k (.int kd n)
 | .mul=>WN kd (a*b) fun n=>k (.int kd n)
 | .quo=>fM kd a b fun n=>k (.int kd n)
 | .rem=>iQ a b fun n=>k (.int kd n)
 | .and|.or|.xor|.andNot=>kL op kd a b fun n=>k (.int kd n)
 | .shl=>kK kd a b fun n=>k (.int kd n)
 | .shr=>cG kd a b fun n=>k (.int kd n)
 | .eql=>k (.bool (eq a b))
 | .neq=>k (.bool (!eq a b))
 | .lss=>k (.bool (lt a b))
 | .leq=>k (.bool (le a b))
 | .gtr=>k (.bool (lt b a))
 | .geq=>k (.bool (le b a))

structure Cat (x y:ByteArray) (k:ByteArray->Prop):Prop where
 sz:x.size+y.size<=9223372036854775807
 h:k (x++y)

def aH8(op:BinOp)(a b:ByteArray)(k:Value->Prop):Prop:=
 match op with
 | .add=>Cat a b fun s=>k (.string s)
 | .eql=>k (.bool (seq a b))
 | .neq=>k (.bool (!seq a b))
 | .lss=>k (.bool (slt a b))
 | .leq=>k (.bool (slt a b || seq a b))
 | .gtr=>k (.bool !(slt a b || seq a b))
 | .geq=>k (.bool !slt a b)
 | _=>False

def sR:Option TypeDesc->Bool
 | some (.struct _)|some (.array _ _)=>true
 | _=>false

def aFc(T:Tab)(t:TypeId)(cs:List Value)(off:Nat)(k:Value->Prop):Prop:=
 match sR (T.und t),T.und t,T.inf t with
 | true,some _,some (z,_)=>aA7 ((cs.drop off).take z.length) fun l=>k (.agg l.toArray)
 | false,some _,_=>match cs[off]? with
  | some v=>k v
  | none=>False
 | _,_,_=>False

structure aYb (T:Tab) (e:TypeId) (cs:List Value) (i:Int) (n size:Nat) (k:Value->Prop):Prop where
 ex:∃j:Nat,i=j/\j<n/\aFc T e cs (j*size) k
def aH9(v:Value):List Value:=match v with|.agg cs=>cs.toList|v=>[v]

def aBl(place:Nat->Option (Nat × Nat))(cells:List Value):List (Nat × Value)->(List Value->Prop)->Prop
 | [],k=>k cells
 | (i,v)::rest,k=>match place i with
  | none=>False
  | some (off,size)=>aA7 (aH9 v) fun vs=>
   if vs.length=size/\off+vs.length<=cells.length then yF vs cells off fun cells=>aBl place cells rest k else False

def evp(ρ:Env):List (Nat × Operand)->(List (Nat × Value)->Prop)->Prop
 | [],k=>k []
 | (i,x)::xs,k=>ev ρ x fun v=>evp ρ xs fun vs=>k ((i,v)::vs)

def aMm(ρ:Env)(x:Option Operand)(d:Int)(k:Int->Prop):Prop:=
 match x with
 | none=>k d
 | some x=>ev ρ x fun v=>match v with
  | .int _ n=>k n
  | _=>False

def yG(T:Tab)(t:TypeId):Nat:=match T.inf t with|some (z,_)=>z.length|none=>0

def aKg:Op->Bool
 | .move _|.assign _|.pick ..|.build ..|.load ..|.binOp ..|.unOp ..|.convert ..|.fieldAddr ..|.indexAddr ..|.index ..
 | .extract ..|.slice ..|.makeFunc ..|.field ..|.nilCheck _=>true
 | .call { callee:=.builtin .len,.. }|.call { callee:=.builtin .min,.. }|.call { callee:=.builtin .max,.. }=>true
 | _=>false

def mm(isMax:Bool)(a b:Int):Int:=if isMax then (if b>a then b else a) else (if b<a then b else a)

def qF(T:Tab)(ρ:Env)(h:aA)(L:Own)(op:Op)(k:Value->Prop):Prop:=
 match op with
 | .move x|.assign x=>ev ρ x k
 | .pick c a b=>ev ρ c fun vc=>match vc with
  | .bool t=>ev ρ a fun va=>ev ρ b fun vb=>cnd t (k va) (k vb)
  | _=>False
 | .binOp op t x y _=>ev ρ x fun a=>ev ρ y fun b=>match a,b with
  | .int ka a,.int kb b=>match op with
   | .shl|.shr=>aC6 op ka a b k
   | _=>if ka=kb then aC6 op ka a b k else False
  | .string a,.string b=>aH8 op a b k
  | .bool a,.bool b=>match T.und t,op with
   | some .bool,.eql=>k (.bool (beq a b))
   | some .bool,.neq=>k (.bool (!beq a b))
   | _,_=>False
  | .slice a _ _,.slice none _ _=>match T.und t,op with
   | some (.slice _),.eql=>k (.bool a.isNone)
   | some (.slice _),.neq=>k (.bool (!a.isNone))
   | _,_=>False
  | _,_=>False
 | .unOp op _ x=>ev ρ x fun a=>match op,a with
  | .neg,.int kd n=>WN kd (0-n) fun n=>k (.int kd n)
  | .not,.bool b=>k (.bool (!b))
  | _,_=>False
 | .convert s d x=>ev ρ x fun v=>match T.und s,T.und d,v with
  | some _,some (.int kd),.int _ n=>WN kd n fun n=>k (.int kd n)
  | _,_,_=>False
 | .load t x=>ev ρ x fun v=>match v with
  | .pointer (some a)=>match T.und t,sR (T.und t),T.inf t with
   | some _,true,some (z,_)=>LdN h L a z.length k
   | some _,false,_=>Ld h L a k
   | _,_,_=>False
  | _=>False
 | .field t x f=>ev ρ x fun v=>match T.und t,v with
  | some (.struct fs),.agg cs=>match fs[f]? with
   | some f=>aFc T f.type cs.toList f.offset k
   | none=>False
  | _,_=>False
 | .fieldAddr t x f=>ev ρ x fun vx=>match T.und t,vx with
  | some (.struct fs),.pointer (some a)=>match fs[f]? with
   | some f=>match T.inf f.type with
    | some (_::_,_)=>k (.pointer (some (a.add f.offset)))
    | _=>False
   | none=>False
  | _,_=>False
 | .indexAddr t x i=>ev ρ x fun vx=>ev ρ i fun vi=>match T.und t,vx,vi with
  | some (.slice e),.slice a len _,.int _ i=>match T.inf e with
   | some (z,_)=>Idx a i len z.length fun ad=>k (.pointer (some ad))
   | none=>False
  | some (.array len e),.pointer (some a),.int _ i=>match T.inf e with
   | some (z,_)=>Idx (some a) i len z.length fun ad=>k (.pointer (some ad))
   | none=>False
  | _,_,_=>False
 | .index t x i=>ev ρ x fun vx=>ev ρ i fun vi=>match T.und t,vx,vi with
  | some .string,.string s,.int _ i=>eB s i fun c=>k (.int .u8 c)
  | some (.array len e),.agg cs,.int _ i=>match T.inf e with
   | some (z,_)=>aYb T e cs.toList i len z.length k
   | none=>False
  | _,_,_=>False
 | .extract x i=>ev ρ x fun v=>match v with
  | .tuple vs=>match vs[i]? with
   | some v=>k v
   | none=>False
  | _=>False
 | .nilCheck x=>ev ρ x fun v=>match v with
  | .pointer (some a)=>k (.pointer (some a))
  | _=>False
 | .slice t x l hi mx=>ev ρ x fun vx=>match T.und t,vx,mx with
  | some (.slice e),.slice a len cap,none=>match T.inf e with
   | some (z,_)=>aMm ρ l 0 fun l=>aMm ρ hi len fun hi=>lH a l hi cap z.length fun a n c=>k (.slice a n c)
   | none=>False
  | some .string,.string s,none=>aMm ρ l 0 fun l=>aMm ρ hi s.size fun hi=>Cut l hi s.size fun l hi _=>k (.string (s.extract l hi))
  | _,_,_=>False
 | .build t ps=>match T.inf t,T.und t with
  | some (z,_),some (.struct fs)=>evp ρ ps.toList fun ps=>aBl (fun i=>(fs[i]?).map fun f=>(f.offset,yG T f.type)) z ps fun l=>
    match fs.toList.all (fun f=>(T.inf f.type).isSome) with
    | true=>k (.agg l.toArray)
    | false=>False
  | _,_=>False
 | .makeFunc fn fs cs=>evs ρ fs.toList fun fs=>evs ρ cs.toList fun cs=>k (.func fn fs.toArray cs.toArray)
 | .call c=>match c.callee with
  | .builtin .len=>match c.args.toList,c.argTypes.toList with
   | [x],[t]=>ev ρ x fun v=>match T.und t,v with
    | some (.slice _),.slice _ n _=>k (.int .i64 n)
    | some .string,.string s=>k (.int .i64 s.size)
    | _,_=>False
   | _,_=>False
  | .builtin .min=>evs ρ c.args.toList fun vs=>match vs with
   | [.int ka a,.int _ b]=>k (.int ka (mm false a b))
   | _=>False
  | .builtin .max=>evs ρ c.args.toList fun vs=>match vs with
   | [.int ka a,.int _ b]=>k (.int ka (mm true a b))
   | _=>False
  | _=>False
 | _=>False

structure App (T:Tab) (e:TypeId) (size bytes:Nat) (s x:Value) (h:aA) (L:Own) (k:Value->aA->Own->Prop):Prop where
 ex:T.Ok->∀(o:Oper) (ρ:Act) (K:Act->World->Prop) (Q:Exit->Act->World->Prop) (w0:World) (h0:aA) (L0:Own) (w:World) (ty:TypeId) (c:Call),
  o.op=.call c->o.type=ty->c.callee=.builtin .append->c.args.map ρ.eval=#[s,x]->(T.prog.underlying (c.argTypes.getD 0 0)=some (.slice e))->c.argTypes.size=2->
  (∃d,T.prog.underlying (c.argTypes.getD 1 0)=some d/\∀kd,d≠.int kd)->
  Inv w0 h0 L0 h L w->(T.room->LetsOut Q)->(∀v h' L' w',Inv w0 h0 L0 h' L' w'->k v h' L'->K (ρ.put o.dst v) w')->o.wp T.prog ρ w K Q\/(o.asks T.prog ρ w/\LetsOut Q)

structure Ext (T:Tab) (op:Op) (xs:List Operand) (vs:List Value) (h:aA) (L:Own) (k:Value->aA->Own->Prop):Prop where
 ex:T.Ok->∀(o:Oper) (ρ:Act) (K:Act->World->Prop) (Q:Exit->Act->World->Prop) (w0:World) (h0:aA) (L0:Own) (w:World),
  o.op=op->xs.map ρ.eval=vs->
  Inv w0 h0 L0 h L w->(T.room->LetsOut Q)->(∀c h' L' w',Inv w0 h0 L0 h' L' w'->T.pan c h' L'->Q (.panic c) ρ w')->(∀v h' L' w',Inv w0 h0 L0 h' L' w'->k v h' L'->K (ρ.put o.dst v) w')->o.wp T.prog ρ w K Q\/(o.asks T.prog ρ w/\LetsOut Q)
def aXu:Op->Bool
 | .makeInterface ..|.makeMap ..|.insert ..|.lookup ..|.mapUpdate ..|.mapEntry ..|.entryStore ..|.range ..|.next ..|.entry ..|.typeAssert ..|.panic ..|.ready ..|.waits ..=>true
 | _=>false

def aYc(T:Tab)(s d:TypeId):Bool:=
 match T.und s,T.und d with
 | some .string,some (.slice _)=>true
 | some (.slice _),some .string=>true
 | some (.pointer _),some .unsafePointer=>true
 | some .unsafePointer,some (.pointer _)=>true
 | _,_=>false

def opF(T:Tab)(ρ:Env)(h:aA)(L:Own)(op:Op)(k:Value->aA->Own->Prop):Prop:=
 match op with
 | .alloc e=>match T.inf e with
  | some (z,_)=>aA7 z fun z=>∀b:Nat,k (.pointer (some ⟨b,0,none⟩)) h ((b,.cells z.toArray e (0,0))::L)
  | none=>False
 | .box e x=>ev ρ x fun v=>match v with
  | .agg cs=>aA7 cs.toList fun cs=>∀b:Nat,k (.pointer (some ⟨b,0,none⟩)) h ((b,.cells cs.toArray e (0,0))::L)
  | v=>if gC v then ∀b:Nat,k (.pointer (some ⟨b,0,none⟩)) h ((b,.cells [v].toArray e (0,0))::L) else False
 | .store t x y=>ev ρ x fun vx=>ev ρ y fun vy=>match vx with
  | .pointer (some a)=>match T.inf t with
   | some (z,_)=>match vy with
    | .agg cs=>aA7 cs.toList fun cs=>if cs.length=z.length then Sto L a cs fun L=>k undef h L else False
    | vy=>if z.length=1 then Sto L a [vy] fun L=>k undef h L else False
   | _=>False
  | _=>False
 | .makeSlice t l c=>ev ρ l fun vl=>ev ρ c fun vc=>match T.und t,vl,vc with
  | some (.slice e),.int _ n,.int _ n'=>match T.inf e with
   | some ([z],bytes)=>Mk n bytes fun m=>Mk n' bytes fun m'=>m<=m'/\∀b:Nat,k (.slice (some ⟨b,0,none⟩) m m') h ((b,.cells (List.replicate m' z).toArray e (0,0))::L)
   | some (z,bytes)=>Mk n bytes fun m=>Mk n' bytes fun m'=>m<=m'/\∀b:Nat,k (.slice (some ⟨b,0,none⟩) m m') h ((b,.cells ((List.replicate m' z).flatten).toArray e (0,0))::L)
   | none=>False
  | _,_,_=>False
 | .buildSlice t n ps=>match T.und t with
  | some (.slice e)=>match T.inf e with
   | some (z,_)=>evp ρ ps.toList fun ps=>aA7 ((List.replicate n z).flatten) fun zs=>if zs.length<=16777216 then
     aBl (fun i=>some (i*z.length,z.length)) zs ps fun l=>∀b:Nat,k (.slice (some ⟨b,0,none⟩) n n) h ((b,.cells l.toArray e (0,0))::L) else False
   | none=>False
  | _=>False
 | .call c=>match c.callee with
  | .value f=>ev ρ f fun vf=>match vf with
   | .func (.func f) first captured=>evs ρ c.args.toList fun vs=>aA7 (first.toList++vs++captured.toList) fun args=>CN T f args h L k
   | _=>False
  | .builtin .append=>match c.argTypes.toList with
   | [t,u]=>match T.und t,T.und u with
    | some (.slice e),some (.slice _)=>match T.inf e with
     | some (z,bytes)=>evs ρ c.args.toList fun vs=>match vs with
      | [s,x]=>App T e z.length bytes s x h L k
      | _=>False
     | none=>False
    | _,_=>evs ρ c.args.toList fun vs=>Ext T (.call c) c.args.toList vs h L k
   | _=>False
  | .builtin .copy|.builtin .delete|.builtin .clear|.builtin .unsafeSliceData|.builtin .unsafeString=>evs ρ c.args.toList fun vs=>Ext T (.call c) c.args.toList vs h L k
  | .invoke r _=>evs ρ (r::c.args.toList) fun vs=>Ext T (.call c) (r::c.args.toList) vs h L k
  | _=>qF T ρ h L op fun v=>k v h L
 | .convert s d x=>match aYc T s d with
  | true=>ev ρ x fun v=>Ext T (.convert s d x) [x] [v] h L k
  | false=>qF T ρ h L op fun v=>k v h L
 | op=>match aXu op with
  | true=>evs ρ op.operands.toList fun vs=>Ext T op op.operands.toList vs h L k
  | false=>qF T ρ h L op fun v=>k v h L

def qN(all:List Oper)(ρ:Env)(o:Oper)(run skip:Env->Prop):Prop:=
 match o.guard with
 | none=>run ρ
 | some (j,want)=>match (all[j]?).bind (·.dst) with
  | some d=>match rd ρ d with
   | .bool c=>match want with
    | true=>cnd c (st (.bool true) ρ d run) (st (.bool false) ρ d skip)
    | false=>cnd c (st (.bool true) ρ d skip) (st (.bool false) ρ d run)
   | _=>skip ρ
  | none=>skip ρ

inductive Ex where
 | normal|exit (id:Nat)|ret

abbrev fN:=Ex->Env->aA->Own->Prop

def aFd(T:Tab)(all:List Oper)(Q:fN):List Oper->Env->aA->Own->Prop
 | [],ρ,h,L=>Q .normal ρ h L
 | o::rest,ρ,h,L=>
  qN all ρ o
   (fun ρ=>opF T ρ h L o.op fun v h L=>stO v ρ o.dst fun ρ=>aFd T all Q rest ρ h L)
   (fun ρ=>stO undef ρ o.dst fun ρ=>aFd T all Q rest ρ h L)

/-! ### Regions that draw their order -/
def bP:List Edge->Nat
 | []=>0
 | e::es=>if Region.binds .any e then Nat.lor (2^e.on) (bP es) else bP es
def dL(all:List Oper):List Nat:=all.map fun o=>bP o.after.toList
def bA9(n:Nat)(k:Nat->Prop):Prop:=match n with|0=>k 0|m+1=>k (m+1)
def vM:List Oper->(List Nat->Prop)->Prop
 | [],k=>k []
 | o::os,k=>bA9 (bP o.after.toList) fun m=>vM os fun ms=>k (m::ms)

def aUj:Op->Bool
 | .store ..=>true
 | _=>false
def dry:Op->Bool
 | .move _|.assign _|.extract ..=>true
 | _=>false
def aA8:Op->Bool
 | .move _|.assign _|.extract ..|.binOp ..|.indexAddr ..=>true
 | _=>false
inductive Dm where
 | each
 | run
 | own (V:Own)
def aC7:Dm->Op->Bool
 | .each,o=>aKg o && dry o
 | _,o=>aKg o
def qB:Dm->Op->Bool
 | .each,_=>true
 | .run,o=>aUj o
 | .own _,_=>false
def aXv:Dm->Own->(Own->Prop)->Prop
 | .own V,_,k=>k V
 | .each,L,k=>k L
 | .run,L,k=>k L
def vw:Dm->Own->Own
 | .own V,_=>V
 | _,L=>L
def xC:Dm->Own->Prop
 | .own V,L=>V.Sublist L
 | _,_=>True
def aPf:Dm->aA->Own->aA->Own->Prop
 | .own V,h,_,h',L'=>aH h V h' V/\V.Sublist L'
 | .each,h,L,h',L'=>aH h L h' L'
 | .run,h,L,h',L'=>aH h L h' L'
def aFe(fl:Dm)(done:Nat):List Oper->List Nat->Nat->Option (Nat × Oper)
 | o::os,m::ms,i=>cond (!done.testBit i && (Nat.beq (Nat.land done m) m && aC7 fl o.op)) (some (i,o)) (aFe fl done os ms (i+1))
 | _,_,_=>none
def mZ(done:Nat):List Oper->List Nat->Nat->List (Nat × Oper)
 | o::os,m::ms,i=>cond (!done.testBit i && Nat.beq (Nat.land done m) m) ((i,o)::mZ done os ms (i+1)) (mZ done os ms (i+1))
 | _,_,_=>[]

structure sS (p q:Prop):Prop where
 l:p
 r:q
def aKh{α:Type}(p:α->Prop):List α->Prop
 | []=>True
 | [x]=>p x
 | x::xs=>sS (p x) (aKh p xs)

def nX(fl:Dm)(T:Tab)(all:List Oper)(ms:List Nat)(Q:Env->aA->Own->Prop):Nat->Nat->Env->aA->Own->Prop
 | 0,_,_,_,_=>False
 | n+1,done,ρ,h,L=>
  match aFe fl done all ms 0 with
  | some (i,o)=>qN all ρ o
    (fun ρ=>aXv fl L fun L1=>qF T ρ h L1 o.op fun v=>stO v ρ o.dst fun ρ=>nX fl T all ms Q n (Nat.lor done (2^i)) ρ h L)
    (fun ρ=>stO undef ρ o.dst fun ρ=>nX fl T all ms Q n (Nat.lor done (2^i)) ρ h L)
  | none=>match mZ done all ms 0 with
   | []=>Q ρ h L
   | ls=>aKh (fun (i,o)=>qN all ρ o
       (fun ρ=>opF T ρ h L o.op fun v h' L'=>(qB fl o.op=false->aPf fl h L h' L')/\stO v ρ o.dst fun ρ=>nX fl T all ms Q n (Nat.lor done (2^i)) ρ h' L')
       (fun ρ=>stO undef ρ o.dst fun ρ=>nX fl T all ms Q n (Nat.lor done (2^i)) ρ h L)) ls

def aFf:List Nat->List Nat->List Nat
 | [],acc=>acc
 | m::ms,acc=>aFf ms (acc++[(List.range acc.length).foldl (fun s p=>if m.testBit p then Nat.lor s (acc.getD p 0) else s) m])

def aFg(ms bs:List Nat):Bool:=
 (List.range ms.length).all fun j=>(List.range ms.length).all fun i=>
  !(bs.getD j 0).testBit i || (ms.getD j 0).testBit i || (List.range ms.length).any fun p=>(ms.getD j 0).testBit p && (bs.getD p 0).testBit i

def vN(fl:Dm)(all:List Oper):Bool:=
 Region.noSelect all.toArray &&
 (let ms:=dL all
  let bs:=aFf ms []
  aFg ms bs && (bs.all fun b=>Nat.blt b (2^all.length)) &&
  (List.range all.length).all fun i=>(List.range all.length).all fun j=>
    match all[i]?,all[j]? with
    | some oi,some oj=>!aC7 fl oi.op || i == j || (bs.getD j 0).testBit i || (bs.getD i 0).testBit j || (oi.apart all.toArray oj && (!qB fl oj.op || aA8 oi.op))
    | _,_=>true)

structure DrN (T:Tab) (all:List Oper) (Q:Env->aA->Own->Prop) (ρ:Env) (h:aA) (L:Own):Prop where
 ex:∃fl,xC fl L/\vN fl all=true/\nX fl T all (dL all) Q (all.length+1) 0 ρ h L

/-! ### Code -/
def Ex.to:Ex->Exit
 | .normal=>.normal
 | .exit id=>.exit id
 | .ret=>.ret
def QR(w0:World)(h0:aA)(L0:Own)(Q:fN)(Q':Exit->Act->World->Prop):Prop:=
 ∀e (ρ:Env) h L w,Inv w0 h0 L0 h L w->Q e ρ h L->Q' e.to ⟨ρ.toArray,[]⟩ w
structure bBa (T:Tab) (c:Code) (Q:fN) (ρ:Env) (h:aA) (L:Own):Prop where
 ex:T.Ok->∀(Q':Exit->Act->World->Prop) (w0:World) (h0:aA) (L0:Own) (w:World),QR w0 h0 L0 Q Q'->(T.room->LetsOut Q')->(∀c (ρ:Env) h L w,Inv w0 h0 L0 h L w->T.pan c h L->Q' (.panic c) ⟨ρ.toArray,[]⟩ w)->
  Inv w0 h0 L0 h L w->c.wp T.prog Q' ⟨ρ.toArray,[]⟩ w
def over(ws:List Nat):Nat->Env->Env->Env
 | i,x::ρ,y::ρ'=>cond (ws.contains i) y x::over ws (i+1) ρ ρ'
 | _,ρ,[]=>ρ
 | _,[],_=>[]

def vP(ws:List Nat):Nat->Env->(Env->Prop)->Prop
 | _,[],k=>k []
 | i,x::ρ,k=>match ws.contains i with
  | true=>∀y,vP ws (i+1) ρ fun ρ'=>k (y::ρ')
  | false=>vP ws (i+1) ρ fun ρ'=>k (x::ρ')

structure LpN (body:fN->Env->aA->Own->Prop) (ws:List Nat) (Q:fN) (ρ:Env) (h:aA) (L:Own):Prop where
 ex:FzN (fun h1 L1=>∃(I:Nat->Env->aA->Own->Prop),(∃n,I n ρ h1 L1)/\
   ∀n ρ' h' L',ρ'=over ws 0 ρ ρ'->I n ρ' h' L'->
    body (fun e ρ'' h'' L''=>match e with|.normal=>ρ''=over ws 0 ρ ρ''/\∃m,m<n/\I m ρ'' h'' L''|e=>Q e ρ'' h'' L'') ρ' h' L') h L

structure aQ (a b:fN->Env->aA->Own->Prop) (ws:List Nat) (Q:fN) (ρ:Env) (h:aA) (L:Own):Prop where
 ex:∃J:Env->aA->Own->Prop,a (fun e ρ h L=>match e with|.normal=>J ρ h L|e=>Q e ρ h L) ρ h L/\∀ρ' h' L',J ρ' h' L'->b Q ρ' h' L'

def wrO(os:List Oper):List Nat:=os.filterMap (·.dst)++os.filterMap fun o=>o.guard.bind fun g=>(os[g.1]?).bind (·.dst)
def wr:Code->List Nat
 | .region _ ops _=>wrO ops.toList
 | .seq a b=>wr a++wr b
 | .cond _ a b=>wr a++wr b
 | .block _ c|.loop c|.scope c=>wr c
 | .rangeFunc _ _ a b=>wr a++wr b
 | _=>[]

def aBm:Code->Bool
 | .seq a b=>aBm a && aBm b
 | .cond _ a b=>aBm a || aBm b
 | .exit _|.ret|.goto _|.loop _|.refuse _=>false
 | _=>true
def tR:Code->Bool
 | .seq a b=>tR a || tR b
 | .cond _ a b=>(aBm a && aBm b) || tR a || tR b
 | .block _ c=>tR c
 | _=>false

def gS(T:Tab):Code->fN->Env->aA->Own->Prop
 | .skip,Q,ρ,h,L=>Q .normal ρ h L
 | .label _,Q,ρ,h,L=>Q .normal ρ h L
 | .seq a b,Q,ρ,h,L=>aQ (gS T a) (gS T b) (wr a) Q ρ h L
 | .cond c x y,Q,ρ,h,L=>ev ρ c fun v=>match v with
  | .bool t=>cnd t (gS T x Q ρ h L) (gS T y Q ρ h L)
  | _=>False
 | .block id c,Q,ρ,h,L=>gS T c (fun e ρ h L=>match e with|.exit id'=>(if id'=id then Q .normal ρ h L else Q (.exit id') ρ h L)|e=>Q e ρ h L) ρ h L
 | .loop c,Q,ρ,h,L=>LpN (gS T c) (wr c) Q ρ h L
 | .exit id,Q,ρ,h,L=>Q (.exit id) ρ h L
 | .ret,Q,ρ,h,L=>Q .ret ρ h L
 | .region _ ops false,Q,ρ,h,L=>aFd T ops.toList Q ops.toList ρ h L
 | .region _ ops true,Q,ρ,h,L=>DrN T ops.toList (Q .normal) ρ h L
 | .rangeFunc f ps a b,Q,ρ,h,L=>bBa T (.rangeFunc f ps a b) Q ρ h L
 | _,_,_,_,_=>False

/-! ### The end -/
structure RN (v:Value) (h:aA) (L:Own) (R:Value->aA->Own->Prop):Prop where
 ex:FzN (R v) h L

def aC8(T:Tab)(ρ:Env)(h:aA)(L:Own):List ResultVar->(List Value->Prop)->Prop
 | [],k=>k []
 | .tmp t::rs,k=>rdK (fun v=>aC8 T ρ h L rs fun vs=>k (v::vs)) ρ t
 | .cell a t::rs,k=>rdK (fun p=>match p with
   | .pointer (some a)=>match T.und t,sR (T.und t),T.inf t with
     | some _,true,some (z,_)=>LdN h L a z.length fun v=>aC8 T ρ h L rs fun vs=>k (v::vs)
     | some _,false,_=>Ld h L a fun v=>aC8 T ρ h L rs fun vs=>k (v::vs)
     | _,_,_=>False
   | _=>False) ρ a

def aMn(T:Tab)(rs:List ResultVar)(R:Value->aA->Own->Prop):fN:=fun e ρ h L=>
 match e with
 | .exit _=>False
 | _=>aC8 T ρ h L rs fun vs=>match vs with
  | [v]=>RN v h L R
  | vs=>RN (.tuple vs.toArray) h L R

end Go.Vc