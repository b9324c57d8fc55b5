/- Trees of expressions: as plain data, and in memory; the parser as a plain function over tokens. -/
import Derived.Test.YtdccpmlhflpeaaaGreatDoorE4
set_option linter.all false
set_option maxHeartbeats 2000000
set_option maxRecDepth 20000
namespace Go.Dig
inductive Tr where
 | mk (op arg:Int) (neg:Bool) (num den:List Nat) (name:List Nat) (kids:List Tr)
namespace Tr
def op:Tr->Int|mk o _ _ _ _ _ _=>o
def arg:Tr->Int|mk _ a _ _ _ _ _=>a
def neg:Tr->Bool|mk _ _ n _ _ _ _=>n
def num:Tr->List Nat|mk _ _ _ l _ _ _=>l
def den:Tr->List Nat|mk _ _ _ _ m _ _=>m
def name:Tr->List Nat|mk _ _ _ _ _ s _=>s
def kids:Tr->List Tr|mk _ _ _ _ _ _ k=>k
end Tr
def aF(op arg:Int)(kids:List Tr):Tr:=.mk op arg false [] [] [] kids
def tE(name:List Nat):Tr:=.mk 2 0 false [] [] name []
structure Cn where
 pos:Nat
 low:Nat
 high:Nat
 n:Nat
inductive Pr (α:Type) where
 | ok (x:α) (i:Nat) (cs:List Cn)
 | bad (i:Nat)
inductive Md where
 | sum|sumL (e:Tr)|term|termL (e:Tr)|fac|atom
 | kids (k:Nat)|kidsL (k j:Nat) (acc:List Tr)
section
variable (ts:List Tk)
def bO(s:List Nat)(i:Nat):Bool:=match ts[i]? with
 | some t=>decide (t.kind=0/\t.text=s)
 | none=>false
def uI(high:Nat):List Nat->Nat->Nat
 | [],n=>n
 | c::l,n=>if n<=high then uI high l (10*n+(c-48)) else n
def sK(low high i:Nat)(cs:List Cn):Pr Nat:=match ts[i]? with
 | some t=>if t.kind=1/\jI t.text=t.text.length then .ok (uI high t.text 0) (i+1) (cs++[⟨t.pos,low,high,uI high t.text 0⟩]) else .bad i
 | none=>.bad i
def Pr.bnd{α β:Type}:Option (Pr α)->(α->Nat->List Cn->Option (Pr β))->Option (Pr β)
 | some (.ok x i cs),f=>f x i cs
 | some (.bad i),_=>some (.bad i)
 | none,_=>none
def jT(s:List Nat)(i:Nat)(cs:List Cn):Option (Pr Unit):=if bO ts s i then some (.ok () (i+1) cs) else some (.bad i)
def aF8(t:List Nat)(parse:List Nat->Bool × List Nat × List Nat):Tr:=.mk 1 0 (parse t).1 (parse t).2.1 (parse t).2.2 [] []
def pp(parse:List Nat->Bool × List Nat × List Nat):Nat->Md->Nat->List Cn->Option (Pr Tr)
 | 0,_,_,_=>none
 | n+1,.sum,i,cs=>Pr.bnd (pp parse n .term i cs) fun e i cs=>pp parse n (.sumL e) i cs
 | n+1,.sumL e,i,cs=>
  if bO ts [43] i then Pr.bnd (pp parse n .term (i+1) cs) fun f i cs=>pp parse n (.sumL (aF 5 0 [e,f])) i cs
  else if bO ts [45] i then Pr.bnd (pp parse n .term (i+1) cs) fun f i cs=>pp parse n (.sumL (aF 6 0 [e,f])) i cs
  else some (.ok e i cs)
 | n+1,.term,i,cs=>Pr.bnd (pp parse n .fac i cs) fun e i cs=>pp parse n (.termL e) i cs
 | n+1,.termL e,i,cs=>
  if bO ts [42] i then Pr.bnd (pp parse n .fac (i+1) cs) fun f i cs=>pp parse n (.termL (aF 7 0 [e,f])) i cs
  else if bO ts [47] i then Pr.bnd (pp parse n .fac (i+1) cs) fun f i cs=>pp parse n (.termL (aF 8 0 [e,f])) i cs
  else some (.ok e i cs)
 | n+1,.fac,i,cs=>
  if bO ts [45] i then Pr.bnd (pp parse n .fac (i+1) cs) fun e i cs=>some (.ok (aF 4 0 [e]) i cs)
  else Pr.bnd (pp parse n .atom i cs) fun e i cs=>
   if bO ts [94] i then
    if bO ts [45] (i+1) then Pr.bnd (some (sK ts 0 32 (i+2) cs)) fun k i cs=>some (.ok (aF 9 (-(k:Int)) [e]) i cs)
    else Pr.bnd (some (sK ts 0 32 (i+1) cs)) fun k i cs=>some (.ok (aF 9 k [e]) i cs)
   else some (.ok e i cs)
 | n+1,.atom,i,cs=>match ts[i]? with
  | none=>some (.bad i)
  | some t=>
   if t.kind=2 then some (.ok (tE t.text) (i+1) cs)
   else if t.kind=3 then Pr.bnd (pp parse n (.kids 1) (i+1) cs) fun e i cs=>some (.ok (aF 11 (aNd t.text) e.kids) i cs)
   else if t.kind=1 then some (.ok (aF8 t.text parse) (i+1) cs)
   else if t.text=[112,105] then some (.ok (aF 3 0 []) (i+1) cs)
   else if t.text=[40] then Pr.bnd (pp parse n .sum (i+1) cs) fun e i cs=>Pr.bnd (jT ts [41] i cs) fun _ i cs=>some (.ok e i cs)
   else if t.text=[97,98,115] then Pr.bnd (pp parse n (.kids 1) (i+1) cs) fun e i cs=>some (.ok (aF 12 0 e.kids) i cs)
   else if t.text=[115,113,114,116] then Pr.bnd (pp parse n (.kids 1) (i+1) cs) fun e i cs=>some (.ok (aF 10 2 e.kids) i cs)
   else if t.text=[109,105,110] then Pr.bnd (pp parse n (.kids 2) (i+1) cs) fun e i cs=>some (.ok (aF 13 0 e.kids) i cs)
   else if t.text=[109,97,120] then Pr.bnd (pp parse n (.kids 2) (i+1) cs) fun e i cs=>some (.ok (aF 14 0 e.kids) i cs)
   else if t.text=[105,102] then Pr.bnd (pp parse n (.kids 3) (i+1) cs) fun e i cs=>some (.ok (aF 15 0 e.kids) i cs)
   else if t.text=[114,111,111,116] then Pr.bnd (jT ts [40] (i+1) cs) fun _ i cs=>Pr.bnd (some (sK ts 2 8 i cs)) fun k i cs=>Pr.bnd (jT ts [44] i cs) fun _ i cs=>
    Pr.bnd (pp parse n .sum i cs) fun e i cs=>Pr.bnd (jT ts [41] i cs) fun _ i cs=>some (.ok (aF 10 k [e]) i cs)
   else some (.bad i)
 | n+1,.kids k,i,cs=>Pr.bnd (jT ts [40] i cs) fun _ i cs=>pp parse n (.kidsL k 0 []) i cs
 | n+1,.kidsL k j acc,i,cs=>
  if j<k then
   if 0<j then Pr.bnd (jT ts [44] i cs) fun _ i cs=>Pr.bnd (pp parse n .sum i cs) fun e i cs=>pp parse n (.kidsL k (j+1) (acc++[e])) i cs
   else Pr.bnd (pp parse n .sum i cs) fun e i cs=>pp parse n (.kidsL k (j+1) (acc++[e])) i cs
  else Pr.bnd (jT ts [41] i cs) fun _ i cs=>some (.ok (aF 0 0 acc) i cs)
end
end Go.Dig
namespace Go.Proofs.Y
open Go Go.Vc Go.Dig
mutual
def IsE(h:aA):List Value->Tr->Prop
 | vs,.mk op arg neg num den name kids=>∃a b s:Sl,vs=[.int .i64 op,.int .i64 arg,.bool neg,a.val,b.val,.string (txt name),s.val]/\(-9223372036854775808<=op/\op<=9223372036854775807)/\(-9223372036854775808<=arg/\arg<=9223372036854775807)/\
   bJ h a b num den/\(∀y∈name,y<256)/\s.l=kids.length/\s.l<=s.c/\(kids=[]\/∃bl off c T fz,s.a=some ⟨bl,off,none⟩/\h bl=some (.cells c T fz)/\iU h c off kids)
def iU(h:aA)(c:Array Value):Nat->List Tr->Prop
 | _,[]=>True
 | off,t::ts=>(∃vs,vs.length=7/\(∀i,i<7->c[off+i]?=vs[i]?)/\IsE h vs t)/\iU h c (off+7) ts
end
end Go.Proofs.Y
/- The parser's small steps: the token at hand, a sign taken, the failure. -/
namespace Go.Vc
open Go Go.Dig
theorem Ext.iface{T:Tab}{h:aA}{L:Own}{k:Value->aA->Own->Prop}{t:TypeId}{x:Operand}{v:Value}{d:TypeDesc}(hd:T.und t=some d)(hn:∀m,d≠.interface m)(hk:k (.iface t v) h L):
  Ext T (.makeInterface t x) [x] [v] h L k:=by
 refine⟨fun ok o ρ K Q w0 h0 L0 w hop hargs inv hout hP hK=>.inl ?_⟩
 simp only[bEe,bFd,List.cons.injEq,and_true] at hargs;refine aX (w':=w) (v:=.iface t v) ?_ (hK _ _ _ _ inv hk);have hu:=dR (w:=w) ok hd;simp only[execOp,hop,Instr.makeInterface,bEg,hu,bEf,hargs];cases d<;>first|rfl|exact absurd rfl (hn _)
theorem Ext.panic{T:Tab}{h:aA}{L:Own}{k:Value->aA->Own->Prop}{t:TypeId}{x:Operand}{v:Value}(hp:T.pan [{ v:=.iface t v,recovered:=false }] h L):Ext T (.panic x) [x] [.iface t v] h L k:=by
 refine⟨fun ok o ρ K Q w0 h0 L0 w hop hargs inv hout hP hK=>.inl ?_⟩
 simp only[bEe,bFd,List.cons.injEq,and_true] at hargs;have hr:(execOp ρ.eval o).run T.prog w=.halt (.panic (.iface t v)) w:=by
  simp only[execOp,hop,bEg,hargs]
  rfl
 unfold Oper.wp;rw[hr];exact hP _ _ _ _ inv hp
theorem CN.par{T:Tab}{f:FuncId}{args:List Value}{h:aA}{A Lp:Own}{k:Value->aA->Own->Prop}{R:Value->aA->Own->Prop}{S:List PanicEntry->aA->Own->Prop}(ok:T.fn f=true)(hf:FnP T f args h Lp R S)
  (hk:∀v h' Lp',h.le h'->R v h' Lp'->k v h' (A++Lp')) (hs:∀c h' Lp',h.le h'->S c h' Lp'->T.pan c h' (A++Lp')):CN T f args h (A++Lp) k:=
 ⟨ok,.done ⟨Lp,A,R,S,bFo,hf,fun v h' La hl r=>⟨A++La,bFo,hk v h' La hl r⟩,fun c h' La hl r=>⟨A++La,bFo,hs c h' La hl r⟩⟩⟩
theorem FnP.withPan{T:Tab}{S0:List PanicEntry->aA->Own->Prop}{f:FuncId}{args:List Value}{h:aA}{L:Own}{R:Value->aA->Own->Prop}{S:List PanicEntry->aA->Own->Prop}(x:FnP T f args h L R S):FnP (T.withPan S0) f args h L R S:=x
theorem Fn.wP{T:Tab}{S0:List PanicEntry->aA->Own->Prop}{f:FuncId}{args:List Value}{h:aA}{L:Own}{R:Value->aA->Own->Prop}(x:Vc.Fn T f args h L R):Vc.Fn (T.withPan S0) f args h L R:=x
theorem aVk{ts:List Tk}{j:Nat}{t:Tk}(ht:ts[j]?=some t)(m:Nat)(hm:m<3):(tkc ts)[j*3+m]?=(tkv t)[m]?:=by
 induction ts generalizing j with
 | nil=>simp at ht
 | cons u ts ih=>
  unfold tkc;rw[bHw];cases j with
  | zero=>
   simp at ht;subst ht;rw[bDi (by simp[tkv];omega),bEv,bDu]
  | succ j=>
   rw[bDs (by simp[tkv];omega)];have:=ih (j:=j) (by simpa using ht);unfold tkc at this;rw[<-this]
   congr 1
   simp[tkv];omega
theorem Idx.tok{h:aA}{s:Sl}{ts:List Tk}(w:Rw h s 3 (tkc ts)){i:Int}{k:Addr->Prop}(j:Nat)(t:Tk)(hi:i=j)(ht:ts[j]?=some t)
  (hk:∀b off,(∀L,Has h L ⟨b,off,none⟩ (.int .i64 t.kind))->(∀L,Has h L ⟨b,off+1,none⟩ (.string (txt t.text)))->(∀L,Has h L ⟨b,off+2,none⟩ (.int .i64 t.pos))->k ⟨b,off,none⟩):Idx s.a i s.l 3 k:=by
 have hj:=(bC9.1 ht).1;have hl:=aDz ts;have hne:tkc ts≠[]:=fun e=>by rw[e] at hl;simp at hl;omega
 obtain⟨b,off,c,T,fz,h1,h2,h3⟩:=w.mem hne;have hlen:=w.len;have get:∀m,m<3->∀L,Has h L ⟨b,off+j*3+m,none⟩ ((tkv t).getD m undef):=fun m hm L=>by
  refine Has.imm h2 ?_;rw[bE4,h3 _ Aa,aVk ht m hm]
  match m,hm with
  | 0,_=>rfl
  | 1,_=>rfl
  | 2,_=>rfl
 exact Idx.of j h1 hi Aa (hk _ _ (get 0 Ad) (get 1 Ad) (get 2 Ad))
end Go.Vc
namespace Go.Proofs.Y
open Go Go.Vc Go.Dig
def iX(ts:List Tk)(e:Nat)(i:Nat):Nat:=match ts[i]? with
 | some t=>t.pos
 | none=>e
def Pst(bp:Nat)(s:Sl)(i e:Nat)(v:Value):Nat × Obj:=(bp,.cells [s.val,.int .i64 i,.int .i64 e,v].toArray Ty.syntax_Parser (0,0))
def flt(i:Nat):List PanicEntry:=[{ v:=.iface Ty.syntax_Fault (.agg #[.int .i64 3,.int .i64 i]),recovered:=false }]
def NkT(ts:List Tk):Prop:=∀t∈ts,t.kind=1\/t.kind=2\/(t.kind=0/\t.text∉([[112,105],[97,98,115],[115,113,114,116],[109,105,110],[109,97,120],[105,102],[114,111,111,116]]:List (List Nat)))
structure dU (h:aA) (s:Sl) (ts:List Tk):Prop where
 rw:Rw h s 3 (tkc ts)
 len:s.l=ts.length
 lt:∀t∈ts,∀y∈t.text,y<256
 sz:ts.length<=1000000
 ps:∀t∈ts,t.pos<=1000000/\t.kind<=3/\t.text.length<=1000000
 nk:NkT ts
theorem dU.mono{h h':aA}{s:Sl}{ts:List Tk}(w:dU h s ts)(hl:h.le h'):dU h' s ts:=⟨w.rw.mono hl,w.len,w.lt,w.sz,w.ps,w.nk⟩
theorem Aj{p:Prop}(h:p:=by (iterate 30 try first|assumption|refine dU.mono ?_ (by assumption));first|done|assumption):p:=h
theorem aQs(h:aA)(bp:Nat)(s:Sl)(ts:List Tk)(i e:Nat)(v:Value)(w:dU h s ts):Vc.Fn T F.q131 [.pointer (some ⟨bp,0,none⟩)] h [Pst bp s i e v] fun r h' L'=>L'=[Pst bp s i e v]/\h'=h/\r=.int .i64 (iX ts e i:Nat):=by
 have hl:=w.len;have hw:=w.rw;cases ht:ts[i]? with
 | none=>
  have hi:ts.length<=i:=by simpa using ht
  have e1:iX ts e i=e:=by unfold iX;rw[ht]
  rw[e1];refine f1C ok D.q131 rfl ?_;conv=>whnf
  repeat' ((first|((first|apply oI.z|apply cI.z))|refine Ld.o 0 rfl rfl ?_|refine DrN.run Al ?_|(apply aB<;>intro _<;>try (exfalso;omega)))<;>conv=>whnf)
  all_goals exact RN.done ⟨rfl,rfl,rfl⟩
 | some t=>
  have hi:=(bC9.1 ht).1;have e1:iX ts e i=t.pos:=by unfold iX;rw[ht]
  rw[e1];refine f1C ok D.q131 rfl ?_;conv=>whnf
  repeat' ((first|(show Idx _ _ _ _ _;refine Idx.tok hw i t Aa ht (fun tb to v0 v1 v2=>?_))|(show Ld _ _ _ _;first|refine Ld.of (v2 _) ?_|refine Ld.o 0 rfl rfl ?_)|((first|apply oI.z|apply cI.z))|refine DrN.run Al ?_|(apply aB<;>intro _<;>try (exfalso;omega)))<;>conv=>whnf)
  all_goals exact RN.done ⟨rfl,rfl,rfl⟩
def uJ(ts:List Tk)(x:List Nat)(i:Nat):Nat:=if bO ts x i then i+1 else i
theorem wA(h:aA)(bp:Nat)(s:Sl)(ts:List Tk)(i e:Nat)(v:Value)(x:List Nat)(w:dU h s ts)(hi:i<=ts.length)(hx:∀y∈x,y<256):Vc.Fn T F.q75 [.pointer (some ⟨bp,0,none⟩),.string (txt x)] h [Pst bp s i e v] fun r h' L'=>L'=[Pst bp s (uJ ts x i) e v]/\h'=h/\r=.bool (bO ts x i):=by
 have hl:=w.len;have hw:=w.rw;have hsz:=w.sz;cases ht:ts[i]? with
 | none=>
  have hi2:ts.length<=i:=by simpa using ht
  have e1:bO ts x i=false:=by unfold bO;rw[ht]
  have e2:uJ ts x i=i:=by unfold uJ;rw[e1];rfl
  rw[e1,e2];refine f1C ok D.q75 rfl ?_;conv=>whnf
  repeat' ((first|((first|apply oI.z|apply cI.z))|refine Ld.o 0 rfl rfl ?_|refine DrN.run Al ?_|(apply aD<;>intro _<;>try (exfalso;omega)))<;>conv=>whnf)
  all_goals exact RN.done ⟨rfl,rfl,rfl⟩
 | some t=>
  have hi2:=(bC9.1 ht).1;have ht8:=w.lt t (bDc ht);have y1:t.kind=0->t.text=x->bO ts x i=true/\uJ ts x i=i+1:=fun a b=>by
   have:bO ts x i=true:=by unfold bO;rw[ht];simp[a,b]
   exact⟨this,by unfold uJ;rw[this];rfl⟩
  have n1:¬(t.kind=0/\t.text=x)->bO ts x i=false/\uJ ts x i=i:=fun a=>by
   have:bO ts x i=false:=by unfold bO;rw[ht];simp only[decide_eq_false_iff_not];exact a
   exact⟨this,by unfold uJ;rw[this];rfl⟩
  obtain⟨kd,hkd⟩:=AB t.kind;obtain⟨tx,htx⟩:=AB t.text;rw[<-hkd] at y1 n1;rw[<-htx] at y1 n1 ht8;have hT:∀{j:Int} {k:Addr->Prop},j=i->(∀b off,(∀L,Has h L ⟨b,off,none⟩ (.int .i64 kd))->(∀L,Has h L ⟨b,off+1,none⟩ (.string (txt tx)))->k ⟨b,off,none⟩)->Idx s.a j s.l 3 k:=fun {j k} a f=>Idx.tok hw i t a ht fun b off v0 v1 _=>f b off (by rw[hkd];exact v0) (by rw[htx];exact v1)
  refine f1C ok D.q75 rfl ?_;conv=>whnf
  repeat' first|((first|refine hT Aa (fun tb to v0 v1=>?_)|((first|apply oI.z|apply cI.z))|(show Ld _ _ _ _;first|refine Ld.of (v0 _) ?_|refine Ld.of (v1 _) ?_|refine Ld.o 0 rfl rfl ?_)|refine WN.i64 Aa Aa ?_|refine Sto.l 0 rfl rfl rfl ?_|refine DrN.run Al ?_)<;>conv=>whnf)|(show cnd _ _ _;first|(refine nI ht8 hx (fun _=>?_) (fun _=>?_)<;>(conv=>whnf))|(apply aD<;>intro _<;>first|(exfalso;omega)|conv=>whnf)|(refine aJ ?_))
  all_goals first
   | (rw[(y1 Aa Ab).1,(y1 Aa Ab).2];exact RN.done ⟨rfl,rfl,rfl⟩)
   | (rw[(n1 (fun a=>by first|omega|exact absurd a.2 Ab)).1,(n1 (fun a=>by first|omega|exact absurd a.2 Ab)).2];exact RN.done ⟨rfl,rfl,rfl⟩)
theorem LdN.hs3{h:aA}{L:Own}{b off:Nat}{k:Value->Prop}{u v w:Value}(h0:Has h L ⟨b,off,none⟩ u)(h1:Has h L ⟨b,off+1,none⟩ v)(h2:Has h L ⟨b,off+2,none⟩ w)(hk:k (.agg #[u,v,w])):LdN h L ⟨b,off,none⟩ 3 k:=
 ⟨[u,v,w],rfl,fun i hi=>by
   rw[bB]
   match i,hi with
   | 0,_=>exact h0
   | 1,_=>exact h1
   | 2,_=>exact h2,hk⟩
theorem RN.drop0{v:Value}{h:aA}{L:Own}{x:Nat × Obj}{R:Value->aA->Own->Prop}(hk:RN v h L R):RN v h (x::L) R:=⟨.drop 0 hk.ex⟩
def lJ(ts:List Tk)(kd i:Nat):Option Tk:=match ts[i]? with
 | some t=>if t.kind=kd then some t else none
 | none=>none
def bCr:Option Tk->Value
 | some t=>.tuple #[.agg (tkv t).toArray,.bool true]
 | none=>.tuple #[.agg #[.int .i64 0,.string (txt []),.int .i64 0],.bool false]
def bCs:Option Tk->Nat->Nat
 | some _,i=>i+1
 | none,i=>i
theorem uK(h:aA)(bp:Nat)(s:Sl)(ts:List Tk)(i e:Nat)(v:Value)(kd:Nat)(w:dU h s ts)(hi:i<=ts.length):Vc.Fn T F.q209 [.pointer (some ⟨bp,0,none⟩),.int .i64 kd] h [Pst bp s i e v] fun r h' L'=>L'=[Pst bp s (bCs (lJ ts kd i) i) e v]/\h'=h/\r=bCr (lJ ts kd i):=by
 have hl:=w.len;have hw:=w.rw;have hsz:=w.sz;cases ht:ts[i]? with
 | none=>
  have hi2:ts.length<=i:=by simpa using ht
  have e1:lJ ts kd i=none:=by unfold lJ;rw[ht]
  rw[e1];refine f1C ok D.q209 rfl ?_;conv=>whnf
  repeat' ((first|((first|apply oI.z|apply cI.z))|intro (_:Nat)|refine LdN.o 0 rfl rfl ?_|refine Ld.o 1 rfl rfl ?_|refine Sto.l 0 rfl rfl rfl ?_|refine DrN.run Al ?_|(apply aD<;>intro _<;>try (exfalso;omega)))<;>conv=>whnf)
  all_goals exact RN.drop0 (RN.done ⟨rfl,rfl,rfl⟩)
 | some t=>
  have hi2:=(bC9.1 ht).1;have y1:t.kind=kd->lJ ts kd i=some t:=fun a=>by unfold lJ;rw[ht];simp[a]
  have n1:¬t.kind=kd->lJ ts kd i=none:=fun a=>by unfold lJ;rw[ht];simp[a]
  obtain⟨K,hK⟩:=AB t.kind;rw[<-hK] at y1 n1;have hT:∀{j:Int} {k:Addr->Prop},j=i->(∀b off,(∀L,Has h L ⟨b,off,none⟩ (.int .i64 K))->(∀L,Has h L ⟨b,off+1,none⟩ (.string (txt t.text)))->(∀L,Has h L ⟨b,off+2,none⟩ (.int .i64 t.pos))->k ⟨b,off,none⟩)->Idx s.a j s.l 3 k:=fun {j k} a f=>Idx.tok hw i t a ht fun b off v0 v1 v2=>f b off (by rw[hK];exact v0) v1 v2
  refine f1C ok D.q209 rfl ?_;conv=>whnf
  repeat' first|((first|refine hT Aa (fun tb to v0 v1 v2=>?_)|((first|apply oI.z|apply cI.z))|refine⟨fun hst=>(by cases (show true=false from hst)),?_⟩|intro (_:Nat)|(show LdN _ _ _ _ _;first|refine LdN.hs3 (v0 _) (v1 _) (v2 _) ?_|refine LdN.o 0 rfl rfl ?_)|(show Ld _ _ _ _;first|refine Ld.of (v0 _) ?_|refine Ld.o 1 rfl rfl ?_)|refine WN.i64 Aa Aa ?_|(show Sto _ _ _ _;first|refine Sto.l 0 rfl rfl rfl ?_|refine Sto.l 1 rfl rfl rfl ?_)|refine DrN.run Al ?_)<;>conv=>whnf)|(show cnd _ _ _;first|(apply aD<;>intro _<;>first|(exfalso;omega)|conv=>whnf)|(refine aJ ?_))
  all_goals first
   | (rw[y1 Aa];refine RN.drop0 (RN.done ⟨rfl,rfl,?_⟩);show _=Value.tuple #[.agg #[.int .i64 (t.kind:Nat),.string (txt t.text),.int .i64 t.pos],.bool true];rw[<-hK])
   | (rw[n1 Aa];exact RN.drop0 (RN.done ⟨rfl,rfl,rfl⟩))
theorem aD1(h:aA)(bp:Nat)(s:Sl)(ts:List Tk)(i e:Nat)(v:Value)(w:dU h s ts):FnP T F.q77 [.pointer (some ⟨bp,0,none⟩)] h [Pst bp s i e v] (fun _ _ _=>False) fun c h' L'=>c=flt (iX ts e i):=by
 refine fPC ok _ D.q77 rfl ?_;conv=>whnf
 repeat' ((first|(show CN _ _ _ _ _ _;(refine CN.own 0 rfl rfl (Fn.wP (aQs _ _ _ ts _ _ _ w)) (fun v h' La hl hr=>?_);obtain⟨rfl,rfl,rfl⟩:=hr;refine⟨_,rfl,?_⟩))|(show Ext _ _ _ _ _ _ _;refine Ext.iface rfl (fun m x=>by cases x) ?_)|((first|apply oI.z|apply cI.z)))<;>conv=>whnf)
 exact Ext.panic rfl
theorem aVl(h:aA)(bp:Nat)(s:Sl)(ts:List Tk)(i e:Nat)(v:Value)(x:List Nat)(w:dU h s ts)(hi:i<=ts.length)(hx:∀y∈x,y<256):
  FnP T F.q211 [.pointer (some ⟨bp,0,none⟩),.string (txt x)] h [Pst bp s i e v] (fun r h' L'=>h'=h/\bO ts x i=true/\L'=[Pst bp s (i+1) e v]/\r=.tuple #[]) fun c h' L'=>bO ts x i=false/\c=flt (iX ts e i):=by
 have ac:∀h,dU h s ts->Vc.Fn T F.q75 [.pointer (some ⟨bp,0,none⟩),.string (txt x)] h [Pst bp s i e v] fun r h' L'=>L'=[Pst bp s (uJ ts x i) e v]/\h'=h/\r=.bool (bO ts x i):=fun h w=>wA h bp s ts i e v x w hi hx
 cases hA:bO ts x i with
 | true=>
  have e1:uJ ts x i=i+1:=by unfold uJ;rw[hA];rfl
  rw[e1,hA] at ac;refine fPC ok _ D.q211 rfl ?_;conv=>whnf
  repeat' ((first|(show CN _ _ _ _ _ _;(refine CN.own 0 rfl rfl (Fn.wP (ac _ w)) (fun v h' La hl hr=>?_);obtain⟨rfl,rfl,rfl⟩:=hr;refine⟨_,rfl,?_⟩))|((first|apply oI.z|apply cI.z)))<;>conv=>whnf)
  all_goals exact RN.done ⟨rfl,rfl,rfl,rfl⟩
 | false=>
  have e1:uJ ts x i=i:=by unfold uJ;rw[hA];rfl
  rw[e1,hA] at ac;refine fPC ok _ D.q211 rfl ?_;conv=>whnf
  repeat' ((first|(show CN _ _ _ _ _ _;(refine CN.own 0 rfl rfl (Fn.wP (ac _ w)) (fun v h' La hl hr=>?_);obtain⟨rfl,rfl,rfl⟩:=hr;refine⟨_,rfl,?_⟩))|((first|apply oI.z|apply cI.z)))<;>conv=>whnf)
  all_goals exact CN.par (A:=[]) rfl (FnP.withPan (aD1 _ _ _ ts _ _ _ w)) (fun v h' Lp hl hr=>hr.elim) (fun c h' Lp hl hs=>⟨rfl,hs⟩)
theorem lQ{ts:List Tk}{x:List Nat}{i:Nat}(h:bO ts x i=true):i<ts.length:=by
 unfold bO at h
 split at h
 .rename_i t ht;exact (bC9.1 ht).1
 .cases h
theorem kW(h:aA)(bp:Nat)(s:Sl)(ts:List Tk)(i e:Nat)(v:Value)(x:List Nat)(w:dU h s ts)(hx:∀y∈x,y<256)(hA:bO ts x i=true):Vc.Fn T F.q75 [.pointer (some ⟨bp,0,none⟩),.string (txt x)] h [Pst bp s i e v] fun r h' L'=>L'=[Pst bp s (i+1) e v]/\h'=h/\r=.bool true:=by
 have:=wA h bp s ts i e v x w (bGi (lQ hA)) hx;unfold uJ at this;rw[hA] at this;exact this
theorem bS(h:aA)(bp:Nat)(s:Sl)(ts:List Tk)(i e:Nat)(v:Value)(x:List Nat)(w:dU h s ts)(hi:i<=ts.length)(hx:∀y∈x,y<256)(hA:bO ts x i=false):Vc.Fn T F.q75 [.pointer (some ⟨bp,0,none⟩),.string (txt x)] h [Pst bp s i e v] fun r h' L'=>L'=[Pst bp s i e v]/\h'=h/\r=.bool false:=by
 have:=wA h bp s ts i e v x w hi hx;unfold uJ at this;rw[hA] at this;exact this
theorem aQt(h:aA)(bp:Nat)(s:Sl)(ts:List Tk)(i e:Nat)(v:Value)(w:dU h s ts):
  FnP T F.q37 [.pointer (some ⟨bp,0,none⟩)] h [Pst bp s i e v] (fun r h' L'=>h'=h/\ts.length<=i/\L'=[Pst bp s i e v]/\r=.tuple #[]) fun c h' L'=>i<ts.length/\c=flt (iX ts e i):=by
 have hl:=w.len;refine fPC ok _ D.q37 rfl ?_;conv=>whnf
 repeat' ((first|((first|apply oI.z|apply cI.z))|refine Ld.o 0 rfl rfl ?_|refine DrN.run Al ?_|(apply aB<;>intro _<;>try (exfalso;omega)))<;>conv=>whnf)
 .exact CN.par (A:=[]) rfl (FnP.withPan (aD1 _ _ _ ts _ _ _ w)) (fun v h' Lp hl hr=>hr.elim) (fun c h' Lp hl hs=>⟨Aa,hs⟩)
 .exact RN.done ⟨rfl,Aa,rfl,rfl⟩
theorem aVm(h:aA)(op arg:Int)(s:Sl):Fn0 T F.q76 [.int .i64 op,.int .i64 arg,s.val] h fun v h'=>h'=h/\v=.agg #[.int .i64 op,.int .i64 arg,.bool false,.slice none 0 0,.slice none 0 0,.string (txt []),s.val]:=by
 refine f0C ok D.q76 rfl ?_;conv=>whnf
 repeat' ((first|((first|apply oI.z|apply cI.z))|intro (_:Nat)|refine LdN.o 0 rfl rfl ?_|refine Sto.l 0 rfl rfl rfl ?_)<;>conv=>whnf)
 exact RN.a ⟨rfl,rfl⟩
def cnv(c:Cn):List Value:=[.int .i64 c.pos,.int .i64 c.low,.int .i64 c.high,.int .i64 c.n]
def cnc(cs:List Cn):List Value:=cs.flatMap cnv
theorem aQu(cs:List Cn)(c:Cn):cnc (cs++[c])=cnc cs++cnv c:=by unfold cnc;simp
end Go.Proofs.Y
/- The parser's steps that read numbers and counts. -/
namespace Go.Dig
theorem aK3{high:Nat}:∀(l:List Nat) (n:Nat),(∀c∈l,dgt c=true)->n<=10*high+9->uI high l n<=10*high+9
 | [],n,_,h=>h
 | c::l,n,hd,h=>by
  unfold uI
  split
  .have:=eN.1 (hd c bDe);exact aK3 l _ (fun x hx=>hd x (bDh _ hx)) Aa
  .exact h
end Go.Dig
namespace Go.Vc
open Go
theorem App.growK0{T:Tab}{e:TypeId}{size bytes:Nat}{s:Value}{h:aA}{A F:Own}{k:Value->aA->Own->Prop}{z:List Value}{n:Nat}{xs:List Value}
  (hi:T.inf e=some (z,bytes)) (hz:z.length=size) (g:aE e size s n xs F)
  (ad:Addr) (m c:Nat) (news:List Value) (hl:news.length=m*size) (hnews:∀j,j<news.length->Has h (A++F) (ad.add j) (news.getD j undef)) (ho:news.all gC=true)
  (hm0:0<m) (hm:n+m<=70368744177664) (hby:(n+m)*bytes<=140737488355328) (hsz:0<size)
  (hk:∀v' F',aE e size v' (n+m) (xs++news) F'->k v' h (A++F')):
  App T e size bytes s (.slice (some ad) m c) h (A++F) k:=by
 have:=App.growK (T:=T) (A:=A) (F:=F) (tl:=[]) (k:=k) hi hz g ad m c news hl (by simpa using hnews) ho hm0 hm hby hsz (fun v' F' g'=>by rw[bDg];exact hk v' F' g')
 simpa using this
theorem CN.par2{T:Tab}{f:FuncId}{args:List Value}{h:aA}{A B Lp:Own}{k:Value->aA->Own->Prop}{R:Value->aA->Own->Prop}{S:List PanicEntry->aA->Own->Prop}(ok:T.fn f=true)(hf:FnP T f args h Lp R S)
  (hk:∀v h' Lp',h.le h'->R v h' Lp'->k v h' (A++(Lp'++B))) (hs:∀c h' Lp',h.le h'->S c h' Lp'->T.pan c h' (A++(Lp'++B))):CN T f args h (A++(Lp++B)) k:=
 have p:∀X:Own,(A++(X++B)).Perm (X++(A++B)):=fun X=>by
  rw[<-bDb,<-bDb];exact List.perm_append_comm.append_right B
 ⟨ok,.done ⟨Lp,A++B,R,S,p Lp,hf,fun v h' La hl r=>⟨A++(La++B),(p La).symm,hk v h' La hl r⟩,fun c h' La hl r=>⟨A++(La++B),(p La).symm,hs c h' La hl r⟩⟩⟩
theorem Has.four{h:aA}{b:Nat}{u v w x:Value}{T:TypeId}{fz:Nat × Nat}(L:Own)(j:Nat)(hj:j < [u,v,w,x].length):Has h ((b,.cells [u,v,w,x].toArray T fz)::L) ((⟨b,0,none⟩:Addr).add j) ([u,v,w,x].getD j undef):=by
 rw[bB];refine⟨rfl,_,_,_,.inr (bDe),?_⟩
 match j,hj with
 | 0,_=>rfl
 | 1,_=>rfl
 | 2,_=>rfl
 | 3,_=>rfl
end Go.Vc
namespace Go.Proofs.Y
open Go Go.Vc Go.Dig
def prs(t:List Nat):Bool × List Nat × List Nat:=(sg (parseL t).1,dg 4294967296 (nu (parseL t).1),dg 4294967296 (dn (parseL t).1))
theorem aNi(h:aA)(tb:Tb h)(bp:Nat)(s:Sl)(ts:List Tk)(i e:Nat)(v:Value)(t:Tk)(w:dU h s ts)(ht:ts[i]?=some t)(hk:t.kind=1):
  FnP T F.q212 [.pointer (some ⟨bp,0,none⟩)] h [Pst bp s i e v] (fun r h' L'=>L'=[Pst bp s (i+1) e v]/\∃a b:Sl,r=.agg #[.bool (prs t.text).1,a.val,b.val]/\bJ h' a b (prs t.text).2.1 (prs t.text).2.2) fun c h' L'=>False:=by
 have hi:=(bC9.1 ht).1;have ht8:=w.lt t (bDc ht);have e1:lJ ts 1 i=some t:=by unfold lJ;rw[ht];simp[hk]
 have c1:=fun h w=>uK h bp s ts i e v 1 w (bGi hi)
 rw[e1] at c1;obtain⟨p,hp⟩:=AB (parseL t.text);have k:=Fok.parseL t.text;unfold prs;rw[<-hp] at k ⊢;refine fPC ok _ D.q212 rfl ?_;conv=>whnf
 repeat' ((first|(show CN _ _ _ _ _ _;first|(refine CN.own 1 rfl rfl (Fn.wP (c1 _ w)) (fun v h' La hl hr=>?_);obtain⟨rfl,rfl,rfl⟩:=hr;refine⟨_,rfl,?_⟩)|(refine CN.f rfl (Fn0.wP (aF3 _ tb t.text ht8)) (fun v h' hl hr=>?_);rw[<-hp] at hr;obtain⟨x,y,rfl,hq⟩:=hr))|(apply aQ.go)|((first|apply oI.z|apply cI.z))|intro (_:Nat)|(show LdN _ _ _ _ _;first|refine LdN.o 0 rfl rfl ?_|refine LdN.o 2 rfl rfl ?_)|refine Ld.o 0 rfl rfl ?_|(show Sto _ _ _ _;first|refine Sto.l 0 rfl rfl rfl ?_|refine Sto.l 2 rfl rfl rfl ?_))<;>conv=>whnf)
 exact RN.drop0 (RN.drop0 (RN.drop0 (RN.done ⟨rfl,x,y,rfl,mD hq k.sz⟩)))
theorem aI1(h:aA)(bp:Nat)(s:Sl)(ts:List Tk)(i e:Nat)(x:Int)(v:Value)(hx:x=i)(w:dU h s ts):FnP T F.q77 [.pointer (some ⟨bp,0,none⟩)] h [(bp,.cells [s.val,.int .i64 x,.int .i64 e,v].toArray Ty.syntax_Parser (0,0))] (fun _ _ _=>False) fun c h' L'=>c=flt (iX ts e i):=by
 subst hx;exact aD1 h bp s ts i e v w
theorem aQv(h:aA)(bp:Nat)(s:Sl)(ts:List Tk)(i e:Nat)(v:Value)(w:dU h s ts)(hi:i<=ts.length)(hk:lJ ts 1 i=none):
  FnP T F.q212 [.pointer (some ⟨bp,0,none⟩)] h [Pst bp s i e v] (fun r h' L'=>False) fun c h' L'=>c=flt (iX ts e i):=by
 have c1:=fun h w=>uK h bp s ts i e v 1 w hi
 rw[hk] at c1;refine fPC ok _ D.q212 rfl ?_;conv=>whnf
 repeat' ((first|(show CN _ _ _ _ _ _;(refine CN.own 1 rfl rfl (Fn.wP (c1 _ w)) (fun v h' La hl hr=>?_);obtain⟨rfl,rfl,rfl⟩:=hr;refine⟨_,rfl,?_⟩))|(apply aQ.go)|((first|apply oI.z|apply cI.z))|intro (_:Nat)|refine Sto.l 0 rfl rfl rfl ?_)<;>conv=>whnf)
 all_goals exact CN.par (A:=[_,_]) rfl (FnP.withPan (aI1 _ _ _ ts i _ _ _ rfl w)) (fun v h' Lp hl hr=>hr.elim) (fun c h' Lp hl hs=>hs)
theorem aF9(h:aA)(bp:Nat)(s:Sl)(ts:List Tk)(i e:Nat)(v:Value)(cs:List Cn)(G:Own)(low high:Nat)(w:dU h s ts)(hi:i<=ts.length)(g:aE Ty.syntax_count 4 v cs.length (cnc cs) G)(hc:cs.length<=i)(hh:high<=100):
  FnP T F.q184 [.pointer (some ⟨bp,0,none⟩),.int .i64 low,.int .i64 high] h (Pst bp s i e v::G)
   (fun r h' L'=>h'=h/\∃n cs' v' G',sK ts low high i cs=.ok n (i+1) cs'/\i<ts.length/\cs'.length=cs.length+1/\L'=Pst bp s (i+1) e v'::G'/\aE Ty.syntax_count 4 v' cs'.length (cnc cs') G'/\r=.int .i64 n/\n<=2000)
   fun c h' L'=>sK ts low high i cs=.bad i/\c=flt (iX ts e i):=by
 have c0:=fun h w=>aQs h bp s ts i e v w
 have c1:=fun h w=>uK h bp s ts i e v 1 w hi
 have hsz:=w.sz;cases hN:lJ ts 1 i with
 | none=>
  have hbad:sK ts low high i cs=.bad i:=by
   unfold lJ at hN;unfold sK
   split at hN
   .rename_i t ht
    try rw[ht]
    split at hN
    .cases hN
    .rename_i hk;try simp only
     rw[if_neg fun x=>hk x.1]
   .rename_i ht;first|rw[ht]|rfl
  rw[hN] at c1;refine fPC ok _ D.q184 rfl ?_;conv=>whnf
  repeat' ((first|(show CN _ _ _ _ _ _;first|(refine CN.own 0 rfl rfl (Fn.wP (c0 _ w)) (fun v h' La hl hr=>?_);obtain⟨rfl,rfl,rfl⟩:=hr;refine⟨_,rfl,?_⟩)|(refine CN.own 0 rfl rfl (Fn.wP (c1 _ w)) (fun v h' La hl hr=>?_);obtain⟨rfl,rfl,rfl⟩:=hr;refine⟨_,rfl,?_⟩))|(apply aQ.go)|((first|apply oI.z|apply cI.z))|intro (_:Nat)|refine Sto.l 0 rfl rfl rfl ?_|refine DrN.run Al ?_)<;>conv=>whnf)
  all_goals exact CN.par2 (A:=[_]) (B:=G) rfl (FnP.withPan (aI1 _ _ _ ts i _ _ _ rfl w)) (fun v h' Lp hl hr=>hr.elim) (fun c h' Lp hl hs=>⟨hbad,hs⟩)
 | some t => 
  obtain⟨ht,hk⟩:ts[i]?=some t/\t.kind=1:=by
   unfold lJ at hN
   split at hN
   .rename_i t' ht
    split at hN
    .rename_i hk;cases hN;exact⟨ht,hk⟩
    .cases hN
   .cases hN
  have hi2:=(bC9.1 ht).1;have ht8:=w.lt t (bDc ht);obtain⟨pz,-,tz⟩:=w.ps t (bDc ht);have hpos:iX ts e i=t.pos:=by unfold iX;rw[ht]
  have zt:=bF t.text;have c2:=fun h=>vZ h t.text ht8 Aa
  rw[hN] at c1;replace c1:∀h,dU h s ts->Vc.Fn T F.q209 [.pointer (some ⟨bp,0,none⟩),.int .i64 (1:Nat)] h [Pst bp s i e v] fun r h' L'=>L'=[Pst bp s (i+1) e v]/\h'=h/\r=.tuple #[.agg #[.int .i64 t.kind,.string (txt t.text),.int .i64 t.pos],.bool true]:=c1
  by_cases hd:jI t.text=t.text.length
  .have hdig:∀y∈t.text,dgt y=true:=fun y hy=>by
    by_cases hh:dgt y=true
    .exact hh
    .have:=kH (p:=dgt) t.text ⟨y,hy,hh⟩;unfold jI at hd;omega
   obtain⟨V,hV⟩:=AB (uI high t.text 0);have hV2:V<=2000:=by
    have:=aK3 (high:=high) t.text 0 hdig Aa;omega
   have hgood:sK ts low high i cs=.ok V (i+1) (cs++[⟨t.pos,low,high,V⟩]):=by
    unfold sK;rw[ht];simp only;rw[if_pos ⟨hk,hd⟩,hV]
   rw[hpos] at c0;obtain⟨tp,htp⟩:=AB t.pos;obtain⟨tx,htx⟩:=AB t.text;rw[<-htp] at c0 c1 pz hgood;rw[<-htx] at c1 c2 hV hd zt ht8 hdig tz;refine fPC ok _ D.q184 rfl ?_;conv=>whnf
   repeat' first|((first|(show CN _ _ _ _ _ _;first|(refine CN.own 0 rfl rfl (Fn.wP (c0 _ w)) (fun v h' La hl hr=>?_);obtain⟨rfl,rfl,rfl⟩:=hr;refine⟨_,rfl,?_⟩)|(refine CN.own 0 rfl rfl (Fn.wP (c1 _ w)) (fun v h' La hl hr=>?_);obtain⟨rfl,rfl,rfl⟩:=hr;refine⟨_,rfl,?_⟩)|refine CN.quiet rfl (Fn0.wP (c2 _)) ?_)|(apply aQ.go)|((first|apply oI.z|apply cI.z))|refine⟨fun _=>aH.o (aA.lr _),?_⟩|intro (_:Nat)|refine Ld.o 0 rfl rfl ?_|refine Sto.l 0 rfl rfl rfl ?_|refine DrN.run Al ?_)<;>conv=>whnf)|(show cnd _ _ _;first|(apply aD<;>intro _<;>first|(exfalso;omega)|conv=>whnf)|(refine aJ ?_))
   rename_i b8 _;refine LpN.of (fun r ρ hc L=>∃(j n:Nat),r=tx.length-j/\hc=h'/\rd ρ 11=.int .i64 j/\rd ρ 10=.int .i64 n/\j<=tx.length/\n<=10*high+9/\L=(b8,.cells [.int .i64 t.kind,.string (txt tx),.int .i64 tp].toArray Ty.syntax_Token (0,0))::Pst bp s (i+1) e v::G/\Hq (uI high (tx.drop j) n=V)) tx.length
    ⟨0,0,rfl,rfl,vi rfl,vi rfl,Aa,Aa,rfl,⟨hV.symm⟩⟩ ?_
   conv=>whnf
   repeat intro _
   rename_i r h3 L3 hI;obtain⟨j,n,rfl,rfl,e11,e10,hj,hn,rfl,hq⟩:=hI;conv at e10=>lhs;whnf
   subst e10;conv at e11=>lhs;whnf
   subst e11;have q1:j=tx.length->n=V:=fun x=>by
    have:=hq.out;rw[x,List.drop_length] at this;exact this
   have q2:j<tx.length->high<n->n=V:=fun x y=>by
    have:=hq.out;rw[bD6 x,uI,if_neg Aa] at this;exact this
   have q3:j<tx.length->n<=high->uI high (tx.drop (j+1)) (10*n+(tx.getD j 0-48))=V:=fun x y=>by
    have:=hq.out;rw[bD6 x,uI,if_pos y] at this;rw[<-this];congr 3;simp[bC7,x]
   have q4:j<tx.length->48<=tx.getD j 0/\tx.getD j 0<=57:=fun x=>eN.1 (hdig _ (by simp[bC7,x]))
   obtain⟨c,hcd⟩:=AB (tx.getD j 0);rw[<-hcd] at q3 q4;replace q3:=Hq.mk q3;clear hq;conv=>whnf
   repeat' first|((first|(show eB _ _ _;(refine eB.txt tx rfl ht8 j Aa Aa ?_;rw[<-hcd]))|(show WN _ _ _;first|(refine WN.u8 (by have:=q4 Aa;omega) (by have:=q4 Aa;omega) ?_)|(refine WN.i64 (by have:=q4 Aa;omega) (by have:=q4 Aa;omega) ?_))|(show App _ _ _ _ _ _ _ _ _;refine App.growK0 (A:=[_,_,_]) (F:=G) (size:=4) (bytes:=32) (z:=[.int .i64 0,.int .i64 0,.int .i64 0,.int .i64 0]) rfl rfl g ⟨_,0,none⟩ 1 1 [_,_,_,_] rfl (Has.four _) rfl Ad Aa Aa Ad (fun v' F' g'=>?_))|((first|apply oI.z|apply cI.z))|intro (_:Nat)|(show Ld _ _ _ _;first|refine Ld.o 0 rfl rfl ?_|refine Ld.o 1 rfl rfl ?_))<;>conv=>whnf)|(show cnd _ _ _;first|((first|apply aB|apply bI)<;>intro _<;>first|(exfalso;omega)|conv=>whnf))
   all_goals first
    | exact⟨rfl,tx.length-(j+1),Aa,j+1,10*n+(c-48),rfl,rfl,vi Aa,vi (by have:=q4 Aa;omega),Aa,by have:=q4 Aa;omega,rfl,⟨q3.out Aa Aa⟩⟩
    | skip
   all_goals
    have hnV:n=V:=by first|exact q1 Aa|exact q2 Aa Aa
    subst hnV;obtain⟨sv,rfl⟩:=g'.sl;conv=>whnf
   all_goals (repeat' ((first|((first|apply oI.z|apply cI.z))|refine Sto.l 2 rfl rfl rfl ?_)<;>conv=>whnf))
   all_goals exact RN.drop0 (RN.drop0 (RN.done ⟨rfl,n,_,_,F',hgood,hi2,by simp,rfl,by rw[bC6,aQu];exact g',rfl,hV2⟩))
  .have hbad:sK ts low high i cs=.bad i:=by
    unfold sK;rw[ht];simp only;rw[if_neg fun x=>hd x.2]
   refine fPC ok _ D.q184 rfl ?_;conv=>whnf
   repeat' first|((first|(show CN _ _ _ _ _ _;first|(refine CN.own 0 rfl rfl (Fn.wP (c0 _ w)) (fun v h' La hl hr=>?_);obtain⟨rfl,rfl,rfl⟩:=hr;refine⟨_,rfl,?_⟩)|(refine CN.own 0 rfl rfl (Fn.wP (c1 _ w)) (fun v h' La hl hr=>?_);obtain⟨rfl,rfl,rfl⟩:=hr;refine⟨_,rfl,?_⟩)|refine CN.quiet rfl (Fn0.wP (c2 _)) ?_)|(apply aQ.go)|((first|apply oI.z|apply cI.z))|refine⟨fun _=>aH.o (aA.lr _),?_⟩|intro (_:Nat)|refine WN.i64 Aa Aa ?_|(show Ld _ _ _ _;first|refine Ld.o 0 rfl rfl ?_|refine Ld.o 1 rfl rfl ?_)|(show Sto _ _ _ _;first|refine Sto.l 0 rfl rfl rfl ?_|refine Sto.l 1 rfl rfl rfl ?_)|refine DrN.run Al ?_)<;>conv=>whnf)|(show cnd _ _ _;first|(apply aD<;>intro _<;>first|(exfalso;omega)|conv=>whnf)|(refine aJ ?_))
   all_goals exact CN.par2 (A:=[_]) (B:=G) rfl (FnP.withPan (aI1 _ _ _ ts i _ _ _ Aa w)) (fun v h' Lp hl hr=>hr.elim) (fun c h' Lp hl hs=>⟨hbad,hs⟩)
end Go.Proofs.Y
/- Trees in memory: carried along, rows of them, nodes. -/
namespace Go.Proofs.Y
open Go Go.Vc Go.Dig
mutual
theorem IsE.up{h h':aA}(hl:h.le h'):∀{vs:List Value} {t:Tr},IsE h vs t->IsE h' vs t
 | vs,.mk op arg neg num den name kids,w=>by
  rw[IsE] at w ⊢;obtain⟨a,b,s,e,h1,h2,h3,h4,h5,h6,h7⟩:=w;refine⟨a,b,s,e,h1,h2,h3.mono hl,h4,h5,h6,?_⟩;rcases h7 with h7|⟨bl,off,c,T,fz,k1,k2,k3⟩
  .exact .inl h7
  .exact .inr ⟨bl,off,c,T,fz,k1,hl _ _ k2,iU.up hl k3⟩
theorem iU.up{h h':aA}(hl:h.le h'):∀{c:Array Value} {off:Nat} {ts:List Tr},iU h c off ts->iU h' c off ts
 | c,off,[],w=>by rw[iU] at w ⊢;trivial
 | c,off,t::ts,w=>by
  rw[iU] at w ⊢;obtain⟨⟨vs,h1,h2,h3⟩,h4⟩:=w;exact⟨⟨vs,h1,h2,IsE.up hl h3⟩,iU.up hl h4⟩
end
theorem IsE.mono{h h':aA}{vs:List Value}{t:Tr}(w:IsE h vs t)(hl:h.le h'):IsE h' vs t:=IsE.up hl w
theorem Ai{p:Prop}(h:p:=by (iterate 30 try first|assumption|refine IsE.mono ?_ (by assumption));first|done|assumption):p:=h
def KC(h:aA):List Value->List Tr->Prop
 | xs,[]=>xs=[]
 | xs,t::ts=>∃vs ys,xs=vs++ys/\vs.length=7/\IsE h vs t/\KC h ys ts
theorem KC.up{h h':aA}(hl:h.le h'):∀{ts:List Tr} {xs:List Value},KC h xs ts->KC h' xs ts
 | [],_,w=>w
 | t::ts,xs,⟨vs,ys,e,l,i,r⟩=>⟨vs,ys,e,l,IsE.up hl i,KC.up hl r⟩
theorem KC.mono{h h':aA}{ts:List Tr}{xs:List Value}(w:KC h xs ts)(hl:h.le h'):KC h' xs ts:=KC.up hl w
theorem KC.snoc{h:aA}{vs:List Value}{t:Tr}(hv:vs.length=7)(i:IsE h vs t):∀{ts:List Tr} {xs:List Value},KC h xs ts->KC h (xs++vs) (ts++[t])
 | [],xs,w=>by obtain rfl:xs=[]:=w;exact⟨vs,[],by simp,hv,i,rfl⟩
 | u::ts,xs,⟨us,ys,e,l,j,r⟩=>⟨us,ys++vs,by rw[e,bDb],l,j,KC.snoc hv i r⟩
theorem KC.iks{h:aA}{c:Array Value}:∀{ts:List Tr} {xs:List Value} {off:Nat},KC h xs ts->(∀i,i<xs.length->c[off+i]?=xs[i]?)->iU h c off ts
 | [],xs,off,_,_=>by rw[iU];trivial
 | u::ts,xs,off,⟨us,ys,e,l,j,r⟩,hc=>by
  rw[iU];refine⟨⟨us,l,fun i hi=>?_,j⟩,KC.iks r fun i hi=>?_⟩
  .rw[hc i (by rw[e,bC6];omega),e,bDi Aa]
  .rw[bE4,hc (7+i) (by rw[e,bC6];omega),e,bDs Aa,l,bEw]
structure IsK (h:aA) (s:Sl) (ts:List Tr):Prop where
 len:s.l=ts.length
 cap:s.l<=s.c
 mem:ts=[]\/∃bl off c T fz,s.a=some ⟨bl,off,none⟩/\h bl=some (.cells c T fz)/\iU h c off ts
theorem IsK.mono{h h':aA}{s:Sl}{ts:List Tr}(w:IsK h s ts)(hl:h.le h'):IsK h' s ts:=
 ⟨w.len,w.cap,w.mem.elim .inl fun ⟨bl,off,c,T,fz,k1,k2,k3⟩=>.inr ⟨bl,off,c,T,fz,k1,hl _ _ k2,iU.up hl k3⟩⟩
theorem IsK.put{h:aA}{b:Nat}{T:TypeId}{fz:Nat × Nat}{xs zs:List Value}{ts:List Tr}{n c:Nat}(hle:h.le (h.put b (.cells (xs++zs).toArray T fz)))(k:KC h xs ts)(hn:n=ts.length)(hc:n<=c):IsK (h.put b (.cells (xs++zs).toArray T fz)) ⟨some ⟨b,0,none⟩,n,c⟩ ts:=
 ⟨hn,hc,.inr ⟨b,0,(xs++zs).toArray,T,fz,rfl,by simp[aA.put],KC.iks (k.mono hle) fun i hi=>by rw[bDu,bD1,bDi hi]⟩⟩
theorem IsK.nil(h:aA):IsK h ⟨none,0,0⟩ []:=⟨rfl,bDx _,.inl rfl⟩
def VE(h:aA)(a:Value)(t:Tr):Prop:=∃(op arg:Int) (neg:Bool) (n d:Sl) (name:List Nat) (s:Sl),a=.agg #[.int .i64 op,.int .i64 arg,.bool neg,n.val,d.val,.string (txt name),s.val]/\IsE h [.int .i64 op,.int .i64 arg,.bool neg,n.val,d.val,.string (txt name),s.val] t
theorem bJ.zero(h:aA):bJ h ⟨none,0,0⟩ ⟨none,0,0⟩ [] []:=⟨Ws.nil rfl,Ws.nil rfl,by simp,by simp,by simp,by simp⟩
theorem IsE.node{h:aA}{op arg:Int}{s:Sl}{ts:List Tr}(h1:-9223372036854775808<=op/\op<=9223372036854775807)(h2:-9223372036854775808<=arg/\arg<=9223372036854775807)(k:IsK h s ts):
  IsE h [.int .i64 op,.int .i64 arg,.bool false,.slice none 0 0,.slice none 0 0,.string (txt []),s.val] (aF op arg ts):=by
 unfold aF;rw[IsE];exact⟨⟨none,0,0⟩,⟨none,0,0⟩,s,rfl,h1,h2,bJ.zero h,by simp,k.len,k.cap,k.mem⟩
theorem VE.node{h:aA}{op arg:Int}{s:Sl}{ts:List Tr}(h1:-9223372036854775808<=op/\op<=9223372036854775807)(h2:-9223372036854775808<=arg/\arg<=9223372036854775807)(k:IsK h s ts):
  VE h (.agg #[.int .i64 op,.int .i64 arg,.bool false,.slice none 0 0,.slice none 0 0,.string (txt []),s.val]) (aF op arg ts):=
 ⟨op,arg,false,⟨none,0,0⟩,⟨none,0,0⟩,[],s,rfl,IsE.node h1 h2 k⟩
theorem IsK.one{h:aA}{b:Nat}{T:TypeId}{fz:Nat × Nat}{vs:List Value}{t:Tr}(i:IsE h vs t)(hv:vs.length=7)(hle:h.le (h.put b (.cells vs.toArray T fz))):IsK (h.put b (.cells vs.toArray T fz)) ⟨some ⟨b,0,none⟩,1,1⟩ [t]:=by
 have:=IsK.put (h:=h) (b:=b) (T:=T) (fz:=fz) (xs:=vs) (zs:=[]) (ts:=[t]) (n:=1) (c:=1) (by rw[bDg];exact hle) ⟨vs,[],by simp,hv,i,rfl⟩ rfl (bDx _)
 rw[bDg] at this;exact this
theorem IsK.two{h:aA}{b:Nat}{T:TypeId}{fz:Nat × Nat}{vs ws:List Value}{t u:Tr}(i:IsE h vs t)(j:IsE h ws u)(hv:vs.length=7)(hw:ws.length=7)(hle:h.le (h.put b (.cells (vs++ws).toArray T fz))):IsK (h.put b (.cells (vs++ws).toArray T fz)) ⟨some ⟨b,0,none⟩,2,2⟩ [t,u]:=by
 have:=IsK.put (h:=h) (b:=b) (T:=T) (fz:=fz) (xs:=vs++ws) (zs:=[]) (ts:=[t,u]) (n:=2) (c:=2) (by rw[bDg];exact hle) ⟨vs,ws,rfl,hv,i,ws,[],by simp,hw,j,rfl⟩ rfl (bDx _)
 rw[bDg] at this;exact this
theorem IsE.var{h:aA}{name:List Nat}(hb:∀y∈name,y<256):IsE h [.int .i64 2,.int .i64 0,.bool false,.slice none 0 0,.slice none 0 0,.string (txt name),.slice none 0 0] (tE name):=by
 unfold tE;rw[IsE];exact⟨⟨none,0,0⟩,⟨none,0,0⟩,⟨none,0,0⟩,rfl,⟨Ad,Ad⟩,⟨Ad,Ad⟩,bJ.zero h,hb,rfl,bDx _,.inl rfl⟩
theorem IsE.num{h:aA}{neg:Bool}{a b:Sl}{l m:List Nat}(v:bJ h a b l m):IsE h [.int .i64 1,.int .i64 0,.bool neg,a.val,b.val,.string (txt []),.slice none 0 0] (.mk 1 0 neg l m [] []):=by
 rw[IsE];exact⟨a,b,⟨none,0,0⟩,rfl,⟨Ad,Ad⟩,⟨Ad,Ad⟩,v,by simp,rfl,bDx _,.inl rfl⟩
end Go.Proofs.Y