/- The parser as a whole: each function at each number of steps; the plain parser always answers. -/
import Derived.Test.YtblecjeceecaaaaGreatDoorE12
import Derived.Tactics2
import Derived.WalkKit
import Derived.WalkSpells
import Derived.Recover
set_option linter.all false
set_option maxHeartbeats 2000000
set_option maxRecDepth 100000
namespace Go.Dig
def Tot{α:Type}(A:Option (Pr α))(lo hi:Nat):Prop:=∃r,A=some r/\∀x i cs,r=.ok x i cs->lo<=i/\i<=hi
theorem Tot.ok{α:Type}{x:α}{i lo hi:Nat}{cs:List Cn}(h:lo<=i/\i<=hi):Tot (some (.ok x i cs)) lo hi:=⟨_,rfl,fun _ _ _ e=>by cases e;exact h⟩
theorem Tot.bad{α:Type}{i lo hi:Nat}:Tot (some (.bad i:Pr α)) lo hi:=⟨_,rfl,fun _ _ _ e=>by cases e⟩
theorem Tot.low{α:Type}{A:Option (Pr α)}{lo lo' hi:Nat}(t:Tot A lo hi)(h:lo'<=lo):Tot A lo' hi:=by
 obtain⟨r,e,p⟩:=t;exact⟨r,e,fun x i cs q=>⟨bJd h (p x i cs q).1,(p x i cs q).2⟩⟩
theorem Tot.bnd{α β:Type}{A:Option (Pr α)}{f:α->Nat->List Cn->Option (Pr β)}{lo lo' hi:Nat}(t:Tot A lo hi)(h:∀x i cs,lo<=i->i<=hi->Tot (f x i cs) lo' hi):Tot (Pr.bnd A f) lo' hi:=by
 obtain⟨r,rfl,p⟩:=t;cases r with
 | bad i=>exact Tot.bad
 | ok x i cs=>exact h x i cs (p x i cs rfl).1 (p x i cs rfl).2
theorem Tot.ite{α:Type}{c:Prop}[Decidable c]{A B:Option (Pr α)}{lo hi:Nat}(ha:Tot A lo hi)(hb:Tot B lo hi):Tot (if c then A else B) lo hi:=by
 by_cases h:c
 .rw[if_pos h];exact ha
 .rw[if_neg h];exact hb
theorem pR{ts:List Tk}{x:List Nat}{i:Nat}(h:cG ts x i=true):i<ts.length:=by
 unfold cG at h
 split at h
 .rename_i t ht;exact (bIr.1 ht).1
 .cases h
theorem Tot.want{ts:List Tk}{x:List Nat}{i:Nat}{cs:List Cn}:Tot (iJ ts x i cs) (i+1) ts.length:=by
 unfold iJ
 split
 .rename_i h;exact Tot.ok ⟨bJf _,pR h⟩
 .exact Tot.bad
theorem Tot.cnt{ts:List Tk}{low high i:Nat}{cs:List Cn}:Tot (some (rC ts low high i cs)) (i+1) ts.length:=by
 unfold rC
 split
 .rename_i t ht
  split
  .exact Tot.ok ⟨bJf _,(bIr.1 ht).1⟩
  .exact Tot.bad
 .exact Tot.bad
def Md.rk:Md->Nat
 | .sum=>4|.sumL _=>0|.term=>3|.termL _=>0|.fac=>2|.atom=>1|.kids _=>0|.kidsL ..=>5
theorem Au{p:Prop}(h:p:=by simp only[Md.rk];omega):p:=h
def Md.up:Md->Nat
 | .sumL _=>0|.termL _=>0|.kidsL ..=>0|_=>1
theorem Az{p:Prop}(h:p:=by simp only[Md.up];omega):p:=h
theorem bC4(ts:List Tk)(parse:List Nat->Bool × List Nat × List Nat):∀(n:Nat) (md:Md) (i:Nat) (cs:List Cn),i<=ts.length->8*(ts.length+1-i)+md.rk<=n->Tot (pp ts parse n md i cs) (i+md.up) ts.length:=by
 intro n
 induction n with
 | zero=>intro md i cs hi hn;exact absurd hn Aa
 | succ n ih=>
  intro md i cs hi hn;cases md with
  | sum=>
   rw[pp];simp only[Md.rk] at hn;refine Tot.bnd (ih .term i cs hi Au) fun x j cs h1 h2=>?_
   simp only[Md.up] at h1;exact (ih (.sumL x) j cs h2 Au).low Az
  | sumL e=>
   rw[pp];simp only[Md.rk] at hn;simp only[Md.up]
   split
   .rename_i hA;have:=pR hA;refine Tot.bnd (ih .term (i+1) cs Aa Au) fun x j cs h1 h2=>?_
    simp only[Md.up] at h1;exact (ih (.sumL _) j cs h2 Au).low Az
   .split
    .rename_i hA;have:=pR hA;refine Tot.bnd (ih .term (i+1) cs Aa Au) fun x j cs h1 h2=>?_
     simp only[Md.up] at h1;exact (ih (.sumL _) j cs h2 Au).low Az
    .exact Tot.ok ⟨Aa,hi⟩
  | term=>
   rw[pp];simp only[Md.rk] at hn;refine Tot.bnd (ih .fac i cs hi Au) fun x j cs h1 h2=>?_
   simp only[Md.up] at h1;exact (ih (.termL x) j cs h2 Au).low Az
  | termL e=>
   rw[pp];simp only[Md.rk] at hn;simp only[Md.up]
   split
   .rename_i hA;have:=pR hA;refine Tot.bnd (ih .fac (i+1) cs Aa Au) fun x j cs h1 h2=>?_
    simp only[Md.up] at h1;exact (ih (.termL _) j cs h2 Au).low Az
   .split
    .rename_i hA;have:=pR hA;refine Tot.bnd (ih .fac (i+1) cs Aa Au) fun x j cs h1 h2=>?_
     simp only[Md.up] at h1;exact (ih (.termL _) j cs h2 Au).low Az
    .exact Tot.ok ⟨Aa,hi⟩
  | fac=>
   rw[pp];simp only[Md.rk] at hn;simp only[Md.up]
   split
   .rename_i hA;have:=pR hA;refine Tot.bnd (ih .fac (i+1) cs Aa Au) fun x j cs h1 h2=>?_
    simp only[Md.up] at h1;exact Tot.ok ⟨Aa,h2⟩
   .refine Tot.bnd (ih .atom i cs hi Au) fun x j cs h1 h2=>?_
    simp only[Md.up] at h1
    split
    .split
     .exact Tot.bnd Tot.cnt fun x j cs h3 h4=>Tot.ok ⟨Aa,h4⟩
     .exact Tot.bnd Tot.cnt fun x j cs h3 h4=>Tot.ok ⟨Aa,h4⟩
    .exact Tot.ok ⟨Aa,h2⟩
  | atom=>
   rw[pp];simp only[Md.rk] at hn;simp only[Md.up]
   split
   .exact Tot.bad
   .rename_i t ht;have hj:=(bIr.1 ht).1;have kd:∀(k:Nat) (f:Tr->Nat->List Cn->Option (Pr Tr)),(∀x j cs,i+1<=j->j<=ts.length->Tot (f x j cs) (i+1) ts.length)->Tot (Pr.bnd (pp ts parse n (.kids k) (i+1) cs) f) (i+1) ts.length:=fun k f hf=>
     Tot.bnd (ih (.kids k) (i+1) cs Aa Au) fun x j cs h1 h2=>hf x j cs Aa h2
    have kd2:∀(k:Nat) (f:Tr->Tr),Tot (Pr.bnd (pp ts parse n (.kids k) (i+1) cs) fun e i cs=>some (.ok (f e) i cs)) (i+1) ts.length:=fun k f=>kd k _ fun x j cs h1 h2=>Tot.ok ⟨h1,h2⟩
    refine Tot.ite (Tot.ok ⟨Aa,hj⟩) ?_;refine Tot.ite (kd2 1 fun e=>aG 11 (aDf t.text) e.kids) ?_
    refine Tot.ite (Tot.ok ⟨Aa,hj⟩) ?_;refine Tot.ite (Tot.ok ⟨Aa,hj⟩) ?_;refine Tot.ite ?_ ?_
    .refine Tot.bnd (ih .sum (i+1) cs Aa Au) fun x j cs h1 h2=>?_
     simp only[Md.up] at h1;exact Tot.bnd Tot.want fun _ j cs h3 h4=>Tot.ok ⟨Aa,h4⟩
    refine Tot.ite (kd2 1 fun e=>aG 12 0 e.kids) ?_
    refine Tot.ite (kd2 1 fun e=>aG 10 2 e.kids) ?_
    refine Tot.ite (kd2 2 fun e=>aG 13 0 e.kids) ?_
    refine Tot.ite (kd2 2 fun e=>aG 14 0 e.kids) ?_
    refine Tot.ite (kd2 3 fun e=>aG 15 0 e.kids) ?_
    refine Tot.ite ?_ Tot.bad;refine Tot.bnd Tot.want fun _ j cs h1 h2=>?_
    refine Tot.bnd Tot.cnt fun k j cs h3 h4=>?_
    refine Tot.bnd Tot.want fun _ j cs h5 h6=>?_
    refine Tot.bnd (ih .sum j cs Aa Au) fun x j cs h7 h8=>?_
    simp only[Md.up] at h7;exact Tot.bnd Tot.want fun _ j cs h9 h10=>Tot.ok ⟨Aa,h10⟩
  | kids k=>
   rw[pp];simp only[Md.rk] at hn;simp only[Md.up];refine Tot.bnd Tot.want fun _ j cs h1 h2=>?_
   exact (ih (.kidsL k 0 []) j cs h2 Au).low Az
  | kidsL k j acc=>
   rw[pp];simp only[Md.rk] at hn;simp only[Md.up]
   split
   .split
    .refine Tot.bnd Tot.want fun _ i2 cs h1 h2=>?_
     refine Tot.bnd (ih .sum i2 cs h2 Au) fun x i3 cs h3 h4=>?_
     simp only[Md.up] at h3;exact (ih (.kidsL k (j+1) _) i3 cs h4 Au).low Az
    .refine Tot.bnd (ih .sum i cs hi Au) fun x i3 cs h3 h4=>?_
     simp only[Md.up] at h3;exact (ih (.kidsL k (j+1) _) i3 cs h4 Au).low Az
   .exact Tot.bnd Tot.want fun _ j cs h3 h4=>Tot.ok ⟨Aa,h4⟩
def sP(ts:List Tk)(parse:List Nat->Bool × List Nat × List Nat):Pr Tr:=(pp ts parse (8*(ts.length+1)+4) .sum 0 []).getD (.bad 0)
theorem aEd(ts:List Tk)(parse:List Nat->Bool × List Nat × List Nat):pp ts parse (8*(ts.length+1)+4) .sum 0 []=some (sP ts parse):=by
 obtain⟨r,e,-⟩:=bC4 ts parse (8*(ts.length+1)+4) .sum 0 [] (bJe _) Au;unfold sP;rw[e];rfl
end Go.Dig
namespace Go.Proofs.Y
open Go Go.Vc Go.Dig
theorem bFh(n:Nat)(ihe:∀m,m<n->PC F.q85 [] .sum VE m)(ihk:∀m,m<n->∀k:Nat,k<=3->PC F.q319 [.int .i64 k] (.kids k) VK m):PC F.q285 [] .atom VE n:=by
 intro ts bp s e h i cs v G r tb w hi hc g hp;cases n with
 | zero=>rw[pp] at hp;cases hp
 | succ n=>
  rw[pp] at hp;have ihe:=ihe n Aa;have ihk:=ihk n Aa;cases ht:ts[i]? with
  | none=>rw[ht] at hp;exact aEc ts bp s e h i n cs v G r tb w hi hc g (aT3 ht) (aT3 ht) (aT3 ht) (fun x _=>bC3 ht) hp
  | some t=>
   rw[ht] at hp;simp only at hp;by_cases k2:t.kind=2
   .rw[if_pos k2] at hp;exact aQv ts bp s e h i n cs v G r tb w hi hc g t ht k2 hp
   rw[if_neg k2] at hp;by_cases k3:t.kind=3
   .rw[if_pos k3] at hp;exact aQw ts bp s e h i n cs v G r tb w hi hc g ihk t ht k3 hp
   rw[if_neg k3] at hp;by_cases k1:t.kind=1
   .rw[if_pos k1] at hp;exact aQu ts bp s e h i n cs v G r tb w hi hc g t ht k1 hp
   rw[if_neg k1] at hp;have hk:t.kind=0:=by have:=(w.ps t (bIu ht)).2.1;omega
   by_cases x0:t.text=[112,105]
   .rw[if_pos x0] at hp;exact aT4 ts bp s e h i n cs v G r tb w hi hc g t ht hk x0 hp
   rw[if_neg x0] at hp;by_cases x1:t.text=[40]
   .rw[if_pos x1] at hp;exact aQx ts bp s e h i n cs v G r tb w hi hc g ihe t ht hk x1 hp
   rw[if_neg x1] at hp;by_cases x2:t.text=[97,98,115]
   .rw[if_pos x2] at hp;exact aQy ts bp s e h i n cs v G r tb w hi hc g ihk t ht hk x2 hp
   rw[if_neg x2] at hp;by_cases x3:t.text=[115,113,114,116]
   .rw[if_pos x3] at hp;exact aMc ts bp s e h i n cs v G r tb w hi hc g ihk t ht hk x3 hp
   rw[if_neg x3] at hp;by_cases x4:t.text=[109,105,110]
   .rw[if_pos x4] at hp;exact aQz ts bp s e h i n cs v G r tb w hi hc g ihk t ht hk x4 hp
   rw[if_neg x4] at hp;by_cases x5:t.text=[109,97,120]
   .rw[if_pos x5] at hp;exact aQ0 ts bp s e h i n cs v G r tb w hi hc g ihk t ht hk x5 hp
   rw[if_neg x5] at hp;by_cases x6:t.text=[105,102]
   .rw[if_pos x6] at hp;exact aT5 ts bp s e h i n cs v G r tb w hi hc g ihk t ht hk x6 hp
   rw[if_neg x6] at hp;by_cases x7:t.text=[114,111,111,116]
   .rw[if_pos x7] at hp;exact aMd ts bp s e h i n cs v G r tb w hi hc g ihe t ht hk x7 hp
   rw[if_neg x7] at hp;refine aEc ts bp s e h i n cs v G r tb w hi hc g (jK ht k2) (jK ht k3) (jK ht k1) (fun x hx=>dX ht fun q=>?_) hp
   have hx:=q.2▸hx;simp only[bI7,bKt,or_false] at hx;rcases hx with hx|hx|hx|hx|hx|hx|hx|hx<;>first|exact x0 hx|exact x1 hx|exact x2 hx|exact x3 hx|exact x4 hx|exact x5 hx|exact x6 hx|exact x7 hx
theorem bHh(n:Nat):PC F.q85 [] .sum VE n/\PC F.q151 [] .term VE n/\PC F.q229 [] .fac VE n/\PC F.q285 [] .atom VE n/\∀k:Nat,k<=3->PC F.q319 [.int .i64 k] (.kids k) VK n:=by
 induction n using Nat.strongRecOn with
 | ind n ih=>exact⟨bFe n fun m hm=>(ih m hm).2.1,bFf n fun m hm=>(ih m hm).2.2.1,aZs n (fun m hm=>(ih m hm).2.2.1) (fun m hm=>(ih m hm).2.2.2.1),bFh n (fun m hm=>(ih m hm).1) (fun m hm=>(ih m hm).2.2.2.2),fun k hk=>bFg k n hk fun m hm=>(ih m hm).1⟩
theorem aZu(ts:List Tk)(bp:Nat)(s:Sl)(e:Nat)(h:aA)(v:Value)(G:Own)(tb:Tb h)(w:dK h s ts)(g:aF Ty.syntax_count 4 v 0 [] G):
  FnP T F.q85 [.pointer (some ⟨bp,0,none⟩)] h (Pst bp s 0 e v::G) (PQ ts bp s e VE (sP ts prs)) fun c _ _=>PS ts e (sP ts prs) c:=
 (bHh _).1 ts bp s e h 0 [] v G _ tb w (bJe _) (bJf _) g (aEd ts prs)
theorem aMe(p:Addr)(w:World):CallsD Tryz.prog 150 #[.pointer (some p)] .returning w fun e u' w'=>e=.returned (.tuple #[])/\u'=.returning/\w'=w:=by
 refine callsD_of_wpS Tryz.func150 rfl fun c₀ cs hu=>?_
 apply wpS_seq
 apply wpS_region
 simp[wpOpsS,go_sem,recoverD,hu,Tryz.ntmps150,Exit.thenS];refine wpS_of_wp ?_
 go_wp2
 cases c₀
 simp_all [bodyPostS,results,Tryz.results150]
theorem aI4(b:Nat)(x y:Value)(i:Int)(w:World)(h0:w.heap[b]?=some (.cells #[x,y] 139 (0,0))):
  CallsD Tryz.prog 150 #[.pointer (some ⟨b,0,none⟩)] (.panicking [{ v:=.iface 139 (.agg #[.int .i64 3,.int .i64 i]),recovered:=false }]) w fun e u' w'=>e=.returned (.tuple #[])/\u'=.panicking [{ v:=.iface 139 (.agg #[.int .i64 3,.int .i64 i]),recovered:=true }]/\
   w'=(((w.setCell ⟨b,0,none⟩ (.int .i64 3)).setCell ⟨b,1,none⟩ (.int .i64 i)).alloc (.cells #[.int .i64 3,.int .i64 i] 139)):=by
 have hta:∀w:World,(Instr.typeAssert (Value.iface 139 (Value.agg #[Value.int IntKind.i64 3,Value.int IntKind.i64 i])) 20 139 true).run Tryz.prog w=.ok (.tuple #[.agg #[.int .i64 3,.int .i64 i],.bool true]) w:=fun _=>by kernel_rfl
 have c0:w.cell? ⟨b,0,none⟩=some x:=by simp[World.cell?,h0]
 have c1:w.cell? ⟨b,1,none⟩=some y:=by simp[World.cell?,h0]
 have f0:w.frozen? ⟨b,0,none⟩=false:=by simp[World.frozen?,h0]
 have f1:w.frozen? ⟨b,1,none⟩=false:=by simp[World.frozen?,h0]
 have hb:b<w.heap.size:=(Array.getElem?_eq_some_iff.1 h0).1;refine callsD_of_wpS Tryz.func150 rfl fun c₀ cs hu=>?_
 apply wpS_seq
 apply wpS_region
 simp[wpOpsS,go_sem,recoverD,hu,Tryz.ntmps150,Exit.thenS];refine wpS_of_wp ?_
 go_wp2
 cases c₀
 simp_all [bodyPostS,results,Tryz.results150]
theorem bFi(f:FuncId)(cap:Array Value)(w:World)(R:Ending->World->Prop)(C:Ending->World->Prop)(hrun:∀w,(callFunc f cap).run Tryz.prog w=.ok (.enter f cap) w)
  (hC:∀e w',C e w'->e≠.outgrown->∃x y,w'.heap[w.heap.size]?=some (.cells #[x,y] 139 (0,0)))
  (hR:∀v w',C (.returned v) w'->R (.returned (.agg #[.int .i64 0,.int .i64 0])) ((w'.setCell ⟨w.heap.size,0,none⟩ (.int .i64 0)).setCell ⟨w.heap.size,1,none⟩ (.int .i64 0)))
  (hP:∀c w',C (.panicked c) w'->∃i,c=[{ v:=.iface 139 (.agg #[.int .i64 3,.int .i64 i]),recovered:=false }]/\R (.returned (.agg #[.int .i64 3,.int .i64 i])) (((w'.setCell ⟨w.heap.size,0,none⟩ (.int .i64 3)).setCell ⟨w.heap.size,1,none⟩ (.int .i64 i)).alloc (.cells #[.int .i64 3,.int .i64 i] 139)))
  (hO:∀w',¬C .outgrown w')
  (hc:Calls Tryz.prog f cap (w.alloc (.cells #[.int .i64 0,.int .i64 0] 139)) C):Calls Tryz.prog 83 #[.func (.func f) #[] cap] w R:=by
 go_enter_defers Tryz.func83,Tryz.ntmps83
 go_wp2_with fail
 rename_i K1 k1 K k;refine hc.mono fun e w' he=>?_
 cases e with
 | returned v=>
  obtain⟨x,y,hb⟩:=hC _ _ he Aq;have c0:w'.cell? ⟨w.heap.size,0,none⟩=some x:=by simp[World.cell?,hb]
  have c1:w'.cell? ⟨w.heap.size,1,none⟩=some y:=by simp[World.cell?,hb]
  have f0:w'.frozen? ⟨w.heap.size,0,none⟩=false:=by simp[World.frozen?,hb]
  have f1:w'.frozen? ⟨w.heap.size,1,none⟩=false:=by simp[World.frozen?,hb]
  refine k _ _ ?_
  go_wp2_with fail
  refine leaves_cons (f:=150) (args:=#[.pointer (some ⟨w.heap.size,0,none⟩)]) Aq (by simp[go_sem]) ?_;refine (aMe ⟨w.heap.size,0,none⟩ _).mono ?_
  rintro e u' w'' ⟨rfl,rfl,rfl⟩
  simp[Leaves,settle,results,Tryz.results83,go_sem,c0,c1];exact hR _ _ he
 | panicked c=>
  obtain⟨x,y,hb⟩:=hC _ _ he Aq;obtain⟨i,rfl,hr⟩:=hP _ _ he;refine leaves_cons (f:=150) (args:=#[.pointer (some ⟨w.heap.size,0,none⟩)]) Aq (by simp[go_sem]) ?_;refine (aI4 w.heap.size x y i _ hb).mono ?_
  rintro e u' w'' ⟨rfl,rfl,rfl⟩
  have c0:w'.cell? ⟨w.heap.size,0,none⟩=some x:=by simp[World.cell?,hb]
  have c1:w'.cell? ⟨w.heap.size,1,none⟩=some y:=by simp[World.cell?,hb]
  have hlt:w.heap.size<((w'.setCell ⟨w.heap.size,0,none⟩ (.int .i64 3)).setCell ⟨w.heap.size,1,none⟩ (.int .i64 i)).heap.size:=by
   have:=(Array.getElem?_eq_some_iff.1 hb).1
   simpa[World.setCell] using this
  have hb2:=(gE (gE hb (off:=0) (.int .i64 3)).at_ (off:=1) (.int .i64 i)).at_;have d0:((w'.setCell ⟨w.heap.size,0,none⟩ (.int .i64 3)).setCell ⟨w.heap.size,1,none⟩ (.int .i64 i)).cell? ⟨w.heap.size,0,none⟩=some (.int .i64 3):=by simp[World.cell?,hb2]
  have d1:((w'.setCell ⟨w.heap.size,0,none⟩ (.int .i64 3)).setCell ⟨w.heap.size,1,none⟩ (.int .i64 i)).cell? ⟨w.heap.size,1,none⟩=some (.int .i64 i):=by simp[World.cell?,hb2]
  have e0:=(World.cell?_alloc_lt ((w'.setCell ⟨w.heap.size,0,none⟩ (.int .i64 3)).setCell ⟨w.heap.size,1,none⟩ (.int .i64 i)) (.cells #[.int .i64 3,.int .i64 i] 139) ⟨w.heap.size,0,none⟩ hlt).trans d0;have e1:=(World.cell?_alloc_lt ((w'.setCell ⟨w.heap.size,0,none⟩ (.int .i64 3)).setCell ⟨w.heap.size,1,none⟩ (.int .i64 i)) (.cells #[.int .i64 3,.int .i64 i] 139) ⟨w.heap.size,1,none⟩ hlt).trans d1;simp[Leaves,settle,results,Tryz.results83,go_sem,e0,e1];exact hr
 | outgrown=>exact (hO _ he).elim
theorem bC5{f:FuncId}(hf:T.fn f=true)(cap:List Value)(h:aA)(L:Own)(R:Value->aA->Own->Prop)(S:Nat->Prop)
  (hc:FnP T f cap h L R fun c _ _=>∃i:Nat,c=flt i/\S i):
  Vc.Fn T F.q83 [.func (.func f) #[] cap.toArray] h L fun r h' L'=>(∃v,R v h' L'/\r=.agg #[.int .i64 0,.int .i64 0])\/∃i:Nat,r=.agg #[.int .i64 3,.int .i64 i]/\S i:=by
 intro w s;have i1:Inv w h L h ((w.heap.size,.cells #[.int .i64 0,.int .i64 0] 139 (0,0))::L) (w.alloc (.cells #[.int .i64 0,.int .i64 0] 139)):=(Inv.init s).alloc _ rfl;have s1:Sat h L (w.alloc (.cells #[.int .i64 0,.int .i64 0] 139)):=(i1.eraseIdx 0).toSat;have nin:w.heap.size∉L.map (·.1):=fun x=>by
  obtain⟨y,hy,e⟩:=List.mem_map.1 x;have:=s.lt_own hy;omega
 have i2:∀{h' L' w'},Inv (w.alloc (.cells #[.int .i64 0,.int .i64 0] 139)) h L h' L' w'->Inv w h L h' (L'++[(w.heap.size,.cells #[.int .i64 0,.int .i64 0] 139 (0,0))]) w'/\w'.heap[w.heap.size]?=some (.cells #[.int .i64 0,.int .i64 0] 139 (0,0)):=fun {h' L' w'} c=>by
  have i:=(i1.perm (L':=L++[(w.heap.size,.cells #[.int .i64 0,.int .i64 0] 139 (0,0))]) (bKy (l₁:=[_]))).call c;exact⟨i,i.own (w.heap.size,.cells #[.int .i64 0,.int .i64 0] 139 (0,0)) Aq⟩
 have i3:∀{h' L' w'} (x y:Value),Inv (w.alloc (.cells #[.int .i64 0,.int .i64 0] 139)) h L h' L' w'->Inv w h L h' (L'++[(w.heap.size,.cells #[x,y] 139 (0,0))]) ((w'.setCell ⟨w.heap.size,0,none⟩ x).setCell ⟨w.heap.size,1,none⟩ y):=fun {h' L' w'} x y c=>by
  obtain⟨i,hb⟩:=i2 c;have u:=(gE hb (off:=0) x).trans (gE (gE hb (off:=0) x).at_ (off:=1) y);have:=i.upd (n:=L'.length) (b:=w.heap.size) (o:=.cells #[.int .i64 0,.int .i64 0] 139 (0,0)) Aq u
  simpa using this
 have i4:∀{h' L' w'} {o:Nat × Obj},Inv w h L h' (L'++[o]) w'->Inv w h L h' L' w':=fun {h' L' w' o} i=>by
  have:=i.eraseIdx L'.length;rw[bLb (bJf _)] at this
  simpa using this
 refine bFi f cap.toArray w _ (fun e w'=>match e with
   | .returned v=>∃h' L',Inv (w.alloc (.cells #[.int .i64 0,.int .i64 0] 139)) h L h' L' w'/\R v h' L'
   | .panicked c=>∃h' L',Inv (w.alloc (.cells #[.int .i64 0,.int .i64 0] 139)) h L h' L' w'/\∃i:Nat,c=flt i/\S i
   | .outgrown=>False) (fun w=>ok.fn f hf _ w) ?_ ?_ ?_ (fun _ x=>x) ((hc _ s1).mono fun e w' he=>?_)
 .intro e w' he hne;cases e with
  | returned v=>obtain⟨h',L',i,-⟩:=he;exact⟨_,_,(i2 i).2⟩
  | panicked c=>obtain⟨h',L',i,-⟩:=he;exact⟨_,_,(i2 i).2⟩
  | outgrown=>exact absurd rfl hne
 .rintro v w' ⟨h',L',i,r⟩
  exact⟨h',L',i4 (i3 _ _ i),.inl ⟨v,r,rfl⟩⟩
 .rintro c w' ⟨h',L',i,j,rfl,hs⟩
  have:=((i4 (i3 (.int .i64 3) (.int .i64 j) i)).alloc (.cells #[.int .i64 3,.int .i64 j] 139) rfl).eraseIdx 0;exact⟨j,rfl,h',L',this,.inr ⟨j,rfl,hs⟩⟩
 .cases e with
  | returned v=>exact he
  | panicked c=>exact he
  | outgrown=>exact he
end Go.Proofs.Y