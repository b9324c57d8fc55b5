/- The parser as a whole: each function at each number of steps; the plain parser always answers. -/
import Derived.Test.YtdccpmlhflpeaaaGreatDoorE12
import Derived.Tactics2
import Derived.WalkKit
import Derived.WalkSpells
import Derived.Recover
set_option linter.all false
set_option maxHeartbeats 2000000
set_option maxRecDepth 100000
namespace Go.Dig
def Tot{α:Type}(A:Option (Pr α))(lo hi:Nat):Prop:=∃r,A=some r/\∀x i cs,r=.ok x i cs->lo<=i/\i<=hi
theorem Tot.ok{α:Type}{x:α}{i lo hi:Nat}{cs:List Cn}(h:lo<=i/\i<=hi):Tot (some (.ok x i cs)) lo hi:=⟨_,rfl,fun _ _ _ e=>by cases e;exact h⟩
theorem Tot.bad{α:Type}{i lo hi:Nat}:Tot (some (.bad i:Pr α)) lo hi:=⟨_,rfl,fun _ _ _ e=>by cases e⟩
theorem Tot.low{α:Type}{A:Option (Pr α)}{lo lo' hi:Nat}(t:Tot A lo hi)(h:lo'<=lo):Tot A lo' hi:=by
 obtain⟨r,e,p⟩:=t;exact⟨r,e,fun x i cs q=>⟨bDv h (p x i cs q).1,(p x i cs q).2⟩⟩
theorem Tot.bnd{α β:Type}{A:Option (Pr α)}{f:α->Nat->List Cn->Option (Pr β)}{lo lo' hi:Nat}(t:Tot A lo hi)(h:∀x i cs,lo<=i->i<=hi->Tot (f x i cs) lo' hi):Tot (Pr.bnd A f) lo' hi:=by
 obtain⟨r,rfl,p⟩:=t;cases r with
 | bad i=>exact Tot.bad
 | ok x i cs=>exact h x i cs (p x i cs rfl).1 (p x i cs rfl).2
theorem Tot.ite{α:Type}{c:Prop}[Decidable c]{A B:Option (Pr α)}{lo hi:Nat}(ha:Tot A lo hi)(hb:Tot B lo hi):Tot (if c then A else B) lo hi:=by
 by_cases h:c
 .rw[if_pos h];exact ha
 .rw[if_neg h];exact hb
theorem oJ{ts:List Tk}{x:List Nat}{i:Nat}(h:bO ts x i=true):i<ts.length:=by
 unfold bO at h
 split at h
 .rename_i t ht;exact (bC9.1 ht).1
 .cases h
theorem Tot.want{ts:List Tk}{x:List Nat}{i:Nat}{cs:List Cn}:Tot (jT ts x i cs) (i+1) ts.length:=by
 unfold jT
 split
 .rename_i h;exact Tot.ok ⟨bDx _,oJ h⟩
 .exact Tot.bad
theorem Tot.cnt{ts:List Tk}{low high i:Nat}{cs:List Cn}:Tot (some (sK ts low high i cs)) (i+1) ts.length:=by
 unfold sK
 split
 .rename_i t ht
  split
  .exact Tot.ok ⟨bDx _,(bC9.1 ht).1⟩
  .exact Tot.bad
 .exact Tot.bad
def Md.rk:Md->Nat
 | .sum=>4|.sumL _=>0|.term=>3|.termL _=>0|.fac=>2|.atom=>1|.kids _=>0|.kidsL ..=>5
theorem Ar{p:Prop}(h:p:=by simp only[Md.rk];omega):p:=h
def Md.up:Md->Nat
 | .sumL _=>0|.termL _=>0|.kidsL ..=>0|_=>1
theorem Ax{p:Prop}(h:p:=by simp only[Md.up];omega):p:=h
theorem aY1(ts:List Tk)(parse:List Nat->Bool × List Nat × List Nat):∀(n:Nat) (md:Md) (i:Nat) (cs:List Cn),i<=ts.length->8*(ts.length+1-i)+md.rk<=n->Tot (pp ts parse n md i cs) (i+md.up) ts.length:=by
 intro n
 induction n with
 | zero=>intro md i cs hi hn;exact absurd hn Aa
 | succ n ih=>
  intro md i cs hi hn;cases md with
  | sum=>
   rw[pp];simp only[Md.rk] at hn;refine Tot.bnd (ih .term i cs hi Ar) fun x j cs h1 h2=>?_
   simp only[Md.up] at h1;exact (ih (.sumL x) j cs h2 Ar).low Ax
  | sumL e=>
   rw[pp];simp only[Md.rk] at hn;simp only[Md.up]
   split
   .rename_i hA;have:=oJ hA;refine Tot.bnd (ih .term (i+1) cs Aa Ar) fun x j cs h1 h2=>?_
    simp only[Md.up] at h1;exact (ih (.sumL _) j cs h2 Ar).low Ax
   .split
    .rename_i hA;have:=oJ hA;refine Tot.bnd (ih .term (i+1) cs Aa Ar) fun x j cs h1 h2=>?_
     simp only[Md.up] at h1;exact (ih (.sumL _) j cs h2 Ar).low Ax
    .exact Tot.ok ⟨Aa,hi⟩
  | term=>
   rw[pp];simp only[Md.rk] at hn;refine Tot.bnd (ih .fac i cs hi Ar) fun x j cs h1 h2=>?_
   simp only[Md.up] at h1;exact (ih (.termL x) j cs h2 Ar).low Ax
  | termL e=>
   rw[pp];simp only[Md.rk] at hn;simp only[Md.up]
   split
   .rename_i hA;have:=oJ hA;refine Tot.bnd (ih .fac (i+1) cs Aa Ar) fun x j cs h1 h2=>?_
    simp only[Md.up] at h1;exact (ih (.termL _) j cs h2 Ar).low Ax
   .split
    .rename_i hA;have:=oJ hA;refine Tot.bnd (ih .fac (i+1) cs Aa Ar) fun x j cs h1 h2=>?_
     simp only[Md.up] at h1;exact (ih (.termL _) j cs h2 Ar).low Ax
    .exact Tot.ok ⟨Aa,hi⟩
  | fac=>
   rw[pp];simp only[Md.rk] at hn;simp only[Md.up]
   split
   .rename_i hA;have:=oJ hA;refine Tot.bnd (ih .fac (i+1) cs Aa Ar) fun x j cs h1 h2=>?_
    simp only[Md.up] at h1;exact Tot.ok ⟨Aa,h2⟩
   .refine Tot.bnd (ih .atom i cs hi Ar) fun x j cs h1 h2=>?_
    simp only[Md.up] at h1
    split
    .split
     .exact Tot.bnd Tot.cnt fun x j cs h3 h4=>Tot.ok ⟨Aa,h4⟩
     .exact Tot.bnd Tot.cnt fun x j cs h3 h4=>Tot.ok ⟨Aa,h4⟩
    .exact Tot.ok ⟨Aa,h2⟩
  | atom=>
   rw[pp];simp only[Md.rk] at hn;simp only[Md.up]
   split
   .exact Tot.bad
   .rename_i t ht;have hj:=(bC9.1 ht).1;have kd:∀(k:Nat) (f:Tr->Nat->List Cn->Option (Pr Tr)),(∀x j cs,i+1<=j->j<=ts.length->Tot (f x j cs) (i+1) ts.length)->Tot (Pr.bnd (pp ts parse n (.kids k) (i+1) cs) f) (i+1) ts.length:=fun k f hf=>
     Tot.bnd (ih (.kids k) (i+1) cs Aa Ar) fun x j cs h1 h2=>hf x j cs Aa h2
    have kd2:∀(k:Nat) (f:Tr->Tr),Tot (Pr.bnd (pp ts parse n (.kids k) (i+1) cs) fun e i cs=>some (.ok (f e) i cs)) (i+1) ts.length:=fun k f=>kd k _ fun x j cs h1 h2=>Tot.ok ⟨h1,h2⟩
    refine Tot.ite (Tot.ok ⟨Aa,hj⟩) ?_;refine Tot.ite (kd2 1 fun e=>aF 11 (aNd t.text) e.kids) ?_
    refine Tot.ite (Tot.ok ⟨Aa,hj⟩) ?_;refine Tot.ite (Tot.ok ⟨Aa,hj⟩) ?_;refine Tot.ite ?_ ?_
    .refine Tot.bnd (ih .sum (i+1) cs Aa Ar) fun x j cs h1 h2=>?_
     simp only[Md.up] at h1;exact Tot.bnd Tot.want fun _ j cs h3 h4=>Tot.ok ⟨Aa,h4⟩
    refine Tot.ite (kd2 1 fun e=>aF 12 0 e.kids) ?_
    refine Tot.ite (kd2 1 fun e=>aF 10 2 e.kids) ?_
    refine Tot.ite (kd2 2 fun e=>aF 13 0 e.kids) ?_
    refine Tot.ite (kd2 2 fun e=>aF 14 0 e.kids) ?_
    refine Tot.ite (kd2 3 fun e=>aF 15 0 e.kids) ?_
    refine Tot.ite ?_ Tot.bad;refine Tot.bnd Tot.want fun _ j cs h1 h2=>?_
    refine Tot.bnd Tot.cnt fun k j cs h3 h4=>?_
    refine Tot.bnd Tot.want fun _ j cs h5 h6=>?_
    refine Tot.bnd (ih .sum j cs Aa Ar) fun x j cs h7 h8=>?_
    simp only[Md.up] at h7;exact Tot.bnd Tot.want fun _ j cs h9 h10=>Tot.ok ⟨Aa,h10⟩
  | kids k=>
   rw[pp];simp only[Md.rk] at hn;simp only[Md.up];refine Tot.bnd Tot.want fun _ j cs h1 h2=>?_
   exact (ih (.kidsL k 0 []) j cs h2 Ar).low Ax
  | kidsL k j acc=>
   rw[pp];simp only[Md.rk] at hn;simp only[Md.up]
   split
   .split
    .refine Tot.bnd Tot.want fun _ i2 cs h1 h2=>?_
     refine Tot.bnd (ih .sum i2 cs h2 Ar) fun x i3 cs h3 h4=>?_
     simp only[Md.up] at h3;exact (ih (.kidsL k (j+1) _) i3 cs h4 Ar).low Ax
    .refine Tot.bnd (ih .sum i cs hi Ar) fun x i3 cs h3 h4=>?_
     simp only[Md.up] at h3;exact (ih (.kidsL k (j+1) _) i3 cs h4 Ar).low Ax
   .exact Tot.bnd Tot.want fun _ j cs h3 h4=>Tot.ok ⟨Aa,h4⟩
def qZ(ts:List Tk)(parse:List Nat->Bool × List Nat × List Nat):Pr Tr:=(pp ts parse (8*(ts.length+1)+4) .sum 0 []).getD (.bad 0)
theorem aB6(ts:List Tk)(parse:List Nat->Bool × List Nat × List Nat):pp ts parse (8*(ts.length+1)+4) .sum 0 []=some (qZ ts parse):=by
 obtain⟨r,e,-⟩:=aY1 ts parse (8*(ts.length+1)+4) .sum 0 [] (bDw _) Ar;unfold qZ;rw[e];rfl
end Go.Dig
namespace Go.Proofs.Y
open Go Go.Vc Go.Dig
theorem bBm(n:Nat)(ihe:∀m,m<n->PC F.q36 [] .sum VE m):PC F.q183 [] .atom VE n:=by
 intro ts bp s e h i cs v G r tb w hi hc g hp;cases n with
 | zero=>rw[pp] at hp;cases hp
 | succ n=>
  rw[pp] at hp;have ihe:=ihe n Aa;cases ht:ts[i]? with
  | none=>rw[ht] at hp;exact aB5 ts bp s e h i n cs v G r tb w hi hc g (aQw ht) (aQw ht) (aQw ht) (fun x _=>aY0 ht) hp
  | some t=>
   rw[ht] at hp;simp only at hp;rcases w.nk t (bDc ht) with k1|k2|⟨hk,hx⟩
   .rw[if_neg Aa,if_neg Aa,if_pos k1] at hp;exact aNj ts bp s e h i n cs v G r tb w hi hc g t ht k1 hp
   .rw[if_pos k2] at hp;exact aNk ts bp s e h i n cs v G r tb w hi hc g t ht k2 hp
   have k2:¬t.kind=2:=Aa;have k3:¬t.kind=3:=Aa;have k1:¬t.kind=1:=Aa;simp only[bDp,bFy,or_false,not_or] at hx;obtain⟨x0,x2,x3,x4,x5,x6,x7⟩:=hx;rw[if_neg k2,if_neg k3,if_neg k1,if_neg x0] at hp;by_cases x1:t.text=[40]
   .rw[if_pos x1] at hp;exact aNl ts bp s e h i n cs v G r tb w hi hc g ihe t ht hk x1 hp
   rw[if_neg x1,if_neg x2,if_neg x3,if_neg x4,if_neg x5,if_neg x6,if_neg x7] at hp;refine aB5 ts bp s e h i n cs v G r tb w hi hc g (zJ ht k2) (zJ ht k3) (zJ ht k1) (fun x hx=>aI2 ht fun q=>?_) hp
   have hx:=q.2▸hx;simp only[bDp,bFy,or_false] at hx;rcases hx with hx|hx|hx|hx|hx|hx|hx|hx<;>first|exact x0 hx|exact x1 hx|exact x2 hx|exact x3 hx|exact x4 hx|exact x5 hx|exact x6 hx|exact x7 hx
theorem bCt(n:Nat):PC F.q36 [] .sum VE n/\PC F.q74 [] .term VE n/\PC F.q130 [] .fac VE n/\PC F.q183 [] .atom VE n:=by
 induction n using Nat.strongRecOn with
 | ind n ih=>exact⟨bBj n fun m hm=>(ih m hm).2.1,bBk n fun m hm=>(ih m hm).2.2.1,aVn n (fun m hm=>(ih m hm).2.2.1) (fun m hm=>(ih m hm).2.2.2),bBm n fun m hm=>(ih m hm).1⟩
theorem aVo(ts:List Tk)(bp:Nat)(s:Sl)(e:Nat)(h:aA)(v:Value)(G:Own)(tb:Tb h)(w:dU h s ts)(g:aE Ty.syntax_count 4 v 0 [] G):
  FnP T F.q36 [.pointer (some ⟨bp,0,none⟩)] h (Pst bp s 0 e v::G) (PQ ts bp s e VE (qZ ts prs)) fun c _ _=>PS ts e (qZ ts prs) c:=
 (bCt _).1 ts bp s e h 0 [] v G _ tb w (bDw _) (bDx _) g (aB6 ts prs)
theorem aI3(p:Addr)(w:World):CallsD Tryz.prog 73 #[.pointer (some p)] .returning w fun e u' w'=>e=.returned (.tuple #[])/\u'=.returning/\w'=w:=by
 refine callsD_of_wpS Tryz.func73 rfl fun c₀ cs hu=>?_
 apply wpS_seq
 apply wpS_region
 simp[wpOpsS,go_sem,recoverD,hu,Tryz.ntmps73,Exit.thenS];refine wpS_of_wp ?_
 go_wp2
 cases c₀
 simp_all [bodyPostS,results,Tryz.results73]
theorem aGa(b:Nat)(x y:Value)(i:Int)(w:World)(h0:w.heap[b]?=some (.cells #[x,y] 78 (0,0))):
  CallsD Tryz.prog 73 #[.pointer (some ⟨b,0,none⟩)] (.panicking [{ v:=.iface 78 (.agg #[.int .i64 3,.int .i64 i]),recovered:=false }]) w fun e u' w'=>e=.returned (.tuple #[])/\u'=.panicking [{ v:=.iface 78 (.agg #[.int .i64 3,.int .i64 i]),recovered:=true }]/\
   w'=(((w.setCell ⟨b,0,none⟩ (.int .i64 3)).setCell ⟨b,1,none⟩ (.int .i64 i)).alloc (.cells #[.int .i64 3,.int .i64 i] 78)):=by
 have hta:∀w:World,(Instr.typeAssert (Value.iface 78 (Value.agg #[Value.int IntKind.i64 3,Value.int IntKind.i64 i])) 20 78 true).run Tryz.prog w=.ok (.tuple #[.agg #[.int .i64 3,.int .i64 i],.bool true]) w:=fun _=>by kernel_rfl
 have c0:w.cell? ⟨b,0,none⟩=some x:=by simp[World.cell?,h0]
 have c1:w.cell? ⟨b,1,none⟩=some y:=by simp[World.cell?,h0]
 have f0:w.frozen? ⟨b,0,none⟩=false:=by simp[World.frozen?,h0]
 have f1:w.frozen? ⟨b,1,none⟩=false:=by simp[World.frozen?,h0]
 have hb:b<w.heap.size:=(Array.getElem?_eq_some_iff.1 h0).1;refine callsD_of_wpS Tryz.func73 rfl fun c₀ cs hu=>?_
 apply wpS_seq
 apply wpS_region
 simp[wpOpsS,go_sem,recoverD,hu,Tryz.ntmps73,Exit.thenS];refine wpS_of_wp ?_
 go_wp2
 cases c₀
 simp_all [bodyPostS,results,Tryz.results73]
theorem bBn(f:FuncId)(cap:Array Value)(w:World)(R:Ending->World->Prop)(C:Ending->World->Prop)(hrun:∀w,(callFunc f cap).run Tryz.prog w=.ok (.enter f cap) w)
  (hC:∀e w',C e w'->e≠.outgrown->∃x y,w'.heap[w.heap.size]?=some (.cells #[x,y] 78 (0,0)))
  (hR:∀v w',C (.returned v) w'->R (.returned (.agg #[.int .i64 0,.int .i64 0])) ((w'.setCell ⟨w.heap.size,0,none⟩ (.int .i64 0)).setCell ⟨w.heap.size,1,none⟩ (.int .i64 0)))
  (hP:∀c w',C (.panicked c) w'->∃i,c=[{ v:=.iface 78 (.agg #[.int .i64 3,.int .i64 i]),recovered:=false }]/\R (.returned (.agg #[.int .i64 3,.int .i64 i])) (((w'.setCell ⟨w.heap.size,0,none⟩ (.int .i64 3)).setCell ⟨w.heap.size,1,none⟩ (.int .i64 i)).alloc (.cells #[.int .i64 3,.int .i64 i] 78)))
  (hO:∀w',¬C .outgrown w')
  (hc:Calls Tryz.prog f cap (w.alloc (.cells #[.int .i64 0,.int .i64 0] 78)) C):Calls Tryz.prog 34 #[.func (.func f) #[] cap] w R:=by
 go_enter_defers Tryz.func34,Tryz.ntmps34
 go_wp2_with fail
 rename_i K1 k1 K k;refine hc.mono fun e w' he=>?_
 cases e with
 | returned v=>
  obtain⟨x,y,hb⟩:=hC _ _ he Ao;have c0:w'.cell? ⟨w.heap.size,0,none⟩=some x:=by simp[World.cell?,hb]
  have c1:w'.cell? ⟨w.heap.size,1,none⟩=some y:=by simp[World.cell?,hb]
  have f0:w'.frozen? ⟨w.heap.size,0,none⟩=false:=by simp[World.frozen?,hb]
  have f1:w'.frozen? ⟨w.heap.size,1,none⟩=false:=by simp[World.frozen?,hb]
  refine k _ _ ?_
  go_wp2_with fail
  refine leaves_cons (f:=73) (args:=#[.pointer (some ⟨w.heap.size,0,none⟩)]) Ao (by simp[go_sem]) ?_;refine (aI3 ⟨w.heap.size,0,none⟩ _).mono ?_
  rintro e u' w'' ⟨rfl,rfl,rfl⟩
  simp[Leaves,settle,results,Tryz.results34,go_sem,c0,c1];exact hR _ _ he
 | panicked c=>
  obtain⟨x,y,hb⟩:=hC _ _ he Ao;obtain⟨i,rfl,hr⟩:=hP _ _ he;refine leaves_cons (f:=73) (args:=#[.pointer (some ⟨w.heap.size,0,none⟩)]) Ao (by simp[go_sem]) ?_;refine (aGa w.heap.size x y i _ hb).mono ?_
  rintro e u' w'' ⟨rfl,rfl,rfl⟩
  have c0:w'.cell? ⟨w.heap.size,0,none⟩=some x:=by simp[World.cell?,hb]
  have c1:w'.cell? ⟨w.heap.size,1,none⟩=some y:=by simp[World.cell?,hb]
  have hlt:w.heap.size<((w'.setCell ⟨w.heap.size,0,none⟩ (.int .i64 3)).setCell ⟨w.heap.size,1,none⟩ (.int .i64 i)).heap.size:=by
   have:=(Array.getElem?_eq_some_iff.1 hb).1
   simpa[World.setCell] using this
  have hb2:=(eX (eX hb (off:=0) (.int .i64 3)).at_ (off:=1) (.int .i64 i)).at_;have d0:((w'.setCell ⟨w.heap.size,0,none⟩ (.int .i64 3)).setCell ⟨w.heap.size,1,none⟩ (.int .i64 i)).cell? ⟨w.heap.size,0,none⟩=some (.int .i64 3):=by simp[World.cell?,hb2]
  have d1:((w'.setCell ⟨w.heap.size,0,none⟩ (.int .i64 3)).setCell ⟨w.heap.size,1,none⟩ (.int .i64 i)).cell? ⟨w.heap.size,1,none⟩=some (.int .i64 i):=by simp[World.cell?,hb2]
  have e0:=(World.cell?_alloc_lt ((w'.setCell ⟨w.heap.size,0,none⟩ (.int .i64 3)).setCell ⟨w.heap.size,1,none⟩ (.int .i64 i)) (.cells #[.int .i64 3,.int .i64 i] 78) ⟨w.heap.size,0,none⟩ hlt).trans d0;have e1:=(World.cell?_alloc_lt ((w'.setCell ⟨w.heap.size,0,none⟩ (.int .i64 3)).setCell ⟨w.heap.size,1,none⟩ (.int .i64 i)) (.cells #[.int .i64 3,.int .i64 i] 78) ⟨w.heap.size,1,none⟩ hlt).trans d1;simp[Leaves,settle,results,Tryz.results34,go_sem,e0,e1];exact hr
 | outgrown=>exact (hO _ he).elim
theorem aY2{f:FuncId}(hf:T.fn f=true)(cap:List Value)(h:aA)(L:Own)(R:Value->aA->Own->Prop)(S:Nat->Prop)
  (hc:FnP T f cap h L R fun c _ _=>∃i:Nat,c=flt i/\S i):
  Vc.Fn T F.q34 [.func (.func f) #[] cap.toArray] h L fun r h' L'=>(∃v,R v h' L'/\r=.agg #[.int .i64 0,.int .i64 0])\/∃i:Nat,r=.agg #[.int .i64 3,.int .i64 i]/\S i:=by
 intro w s;have i1:Inv w h L h ((w.heap.size,.cells #[.int .i64 0,.int .i64 0] 78 (0,0))::L) (w.alloc (.cells #[.int .i64 0,.int .i64 0] 78)):=(Inv.init s).alloc _ rfl;have s1:Sat h L (w.alloc (.cells #[.int .i64 0,.int .i64 0] 78)):=(i1.eraseIdx 0).toSat;have nin:w.heap.size∉L.map (·.1):=fun x=>by
  obtain⟨y,hy,e⟩:=List.mem_map.1 x;have:=s.lt_own hy;omega
 have i2:∀{h' L' w'},Inv (w.alloc (.cells #[.int .i64 0,.int .i64 0] 78)) h L h' L' w'->Inv w h L h' (L'++[(w.heap.size,.cells #[.int .i64 0,.int .i64 0] 78 (0,0))]) w'/\w'.heap[w.heap.size]?=some (.cells #[.int .i64 0,.int .i64 0] 78 (0,0)):=fun {h' L' w'} c=>by
  have i:=(i1.perm (L':=L++[(w.heap.size,.cells #[.int .i64 0,.int .i64 0] 78 (0,0))]) (bFo (l₁:=[_]))).call c;exact⟨i,i.own (w.heap.size,.cells #[.int .i64 0,.int .i64 0] 78 (0,0)) Ao⟩
 have i3:∀{h' L' w'} (x y:Value),Inv (w.alloc (.cells #[.int .i64 0,.int .i64 0] 78)) h L h' L' w'->Inv w h L h' (L'++[(w.heap.size,.cells #[x,y] 78 (0,0))]) ((w'.setCell ⟨w.heap.size,0,none⟩ x).setCell ⟨w.heap.size,1,none⟩ y):=fun {h' L' w'} x y c=>by
  obtain⟨i,hb⟩:=i2 c;have u:=(eX hb (off:=0) x).trans (eX (eX hb (off:=0) x).at_ (off:=1) y);have:=i.upd (n:=L'.length) (b:=w.heap.size) (o:=.cells #[.int .i64 0,.int .i64 0] 78 (0,0)) Ao u
  simpa using this
 have i4:∀{h' L' w'} {o:Nat × Obj},Inv w h L h' (L'++[o]) w'->Inv w h L h' L' w':=fun {h' L' w' o} i=>by
  have:=i.eraseIdx L'.length;rw[bGl (bDx _)] at this
  simpa using this
 refine bBn f cap.toArray w _ (fun e w'=>match e with
   | .returned v=>∃h' L',Inv (w.alloc (.cells #[.int .i64 0,.int .i64 0] 78)) h L h' L' w'/\R v h' L'
   | .panicked c=>∃h' L',Inv (w.alloc (.cells #[.int .i64 0,.int .i64 0] 78)) h L h' L' w'/\∃i:Nat,c=flt i/\S i
   | .outgrown=>False) (fun w=>ok.fn f hf _ w) ?_ ?_ ?_ (fun _ x=>x) ((hc _ s1).mono fun e w' he=>?_)
 .intro e w' he hne;cases e with
  | returned v=>obtain⟨h',L',i,-⟩:=he;exact⟨_,_,(i2 i).2⟩
  | panicked c=>obtain⟨h',L',i,-⟩:=he;exact⟨_,_,(i2 i).2⟩
  | outgrown=>exact absurd rfl hne
 .rintro v w' ⟨h',L',i,r⟩
  exact⟨h',L',i4 (i3 _ _ i),.inl ⟨v,r,rfl⟩⟩
 .rintro c w' ⟨h',L',i,j,rfl,hs⟩
  have:=((i4 (i3 (.int .i64 3) (.int .i64 j) i)).alloc (.cells #[.int .i64 3,.int .i64 j] 78) rfl).eraseIdx 0;exact⟨j,rfl,h',L',this,.inr ⟨j,rfl,hs⟩⟩
 .cases e with
  | returned v=>exact he
  | panicked c=>exact he
  | outgrown=>exact he
end Go.Proofs.Y