/- The parser as a whole: each function at each number of steps; the plain parser always answers. -/
import Derived.Test.YtiohcpiloenmoaaGreatDoorE12
import Derived.Tactics2
import Derived.WalkKit
import Derived.WalkSpells
import Derived.Recover
set_option linter.all false
set_option maxHeartbeats 2000000
set_option maxRecDepth 100000
namespace Go.Dig
def Tot{α:Type}(A:Option (Pr α))(lo hi:Nat):Prop:=∃r,A=some r/\∀x i cs,r=.ok x i cs->lo<=i/\i<=hi
theorem Tot.ok{α:Type}{x:α}{i lo hi:Nat}{cs:List Cn}(h:lo<=i/\i<=hi):Tot (some (.ok x i cs)) lo hi:=⟨_,rfl,fun _ _ _ e=>by cases e;exact h⟩
theorem Tot.bad{α:Type}{i lo hi:Nat}:Tot (some (.bad i:Pr α)) lo hi:=⟨_,rfl,fun _ _ _ e=>by cases e⟩
theorem Tot.low{α:Type}{A:Option (Pr α)}{lo lo' hi:Nat}(t:Tot A lo hi)(h:lo'<=lo):Tot A lo' hi:=by
 obtain⟨r,e,p⟩:=t;exact⟨r,e,fun x i cs q=>⟨aZr h (p x i cs q).1,(p x i cs q).2⟩⟩
theorem Tot.bnd{α β:Type}{A:Option (Pr α)}{f:α->Nat->List Cn->Option (Pr β)}{lo lo' hi:Nat}(t:Tot A lo hi)(h:∀x i cs,lo<=i->i<=hi->Tot (f x i cs) lo' hi):Tot (Pr.bnd A f) lo' hi:=by
 obtain⟨r,rfl,p⟩:=t;cases r with
 | bad i=>exact Tot.bad
 | ok x i cs=>exact h x i cs (p x i cs rfl).1 (p x i cs rfl).2
theorem aNu{ts:List Tk}{x:List Nat}{i:Nat}(h:eN ts x i=true):i<ts.length:=by
 unfold eN at h
 split at h
 .rename_i t ht;exact (aY5.1 ht).1
 .cases h
theorem Tot.want{ts:List Tk}{x:List Nat}{i:Nat}{cs:List Cn}:Tot (pK ts x i cs) (i+1) ts.length:=by
 unfold pK
 split
 .rename_i h;exact Tot.ok ⟨aZt _,aNu h⟩
 .exact Tot.bad
theorem Tot.cnt{ts:List Tk}{low high i:Nat}{cs:List Cn}:Tot (some (tW ts low high i cs)) (i+1) ts.length:=by
 unfold tW
 split
 .rename_i t ht
  split
  .exact Tot.ok ⟨aZt _,(aY5.1 ht).1⟩
  .exact Tot.bad
 .exact Tot.bad
def Md.up:Md->Nat
 | .sumL _=>0|.termL _=>0|.kidsL ..=>0|_=>1
def tX(ts:List Tk)(parse:List Nat->Bool × List Nat × List Nat):Pr Tr:=(pp ts parse (8*(ts.length+1)+4) .sum 0 []).getD (.bad 0)
end Go.Dig
namespace Go.Proofs.Y
open Go Go.Vc Go.Dig
theorem aXf(n:Nat):PC F.q197 [] .atom VE n:=by
 intro ts bp s e h i cs v G r tb w hi hc g hp;cases n with
 | zero=>rw[pp] at hp;cases hp
 | succ n=>
  rw[pp] at hp;cases ht:ts[i]? with
  | none=>rw[ht] at hp;exact aAb ts bp s e h i n cs v G r tb w hi hc g (aNs ht) (aNs ht) (aNs ht) (fun x _=>aVd ht) hp
  | some t=>
   rw[ht] at hp;simp only at hp;rcases w.nk.1 t (aY8 ht) with k1|k2|⟨hk,hx⟩
   .rw[if_neg Aa,if_neg Aa,if_pos k1] at hp;exact aJ8 ts bp s e h i n cs v G r tb w hi hc g t ht k1 hp
   .rw[if_pos k2] at hp;exact aJ9 ts bp s e h i n cs v G r tb w hi hc g t ht k2 hp
   have k2:¬t.kind=2:=Aa;have k3:¬t.kind=3:=Aa;have k1:¬t.kind=1:=Aa;simp only[aZl,bAy,or_false,not_or] at hx;obtain⟨x0,x1,x2,x3,x4,x5,x6,x7⟩:=hx;rw[if_neg k2] at hp;rw[if_neg k3] at hp;rw[if_neg k1] at hp;rw[if_neg x0] at hp;rw[if_neg x1] at hp;rw[if_neg x2] at hp;rw[if_neg x3] at hp;rw[if_neg x4] at hp;rw[if_neg x5] at hp;rw[if_neg x6] at hp;rw[if_neg x7] at hp;refine aAb ts bp s e h i n cs v G r tb w hi hc g (aD2 ht k2) (aD2 ht k3) (aD2 ht k1) (fun x hx=>aNt ht fun q=>?_) hp
   have hx:=q.2▸hx;simp only[aZl,bAy,or_false] at hx;rcases hx with hx|hx|hx|hx|hx|hx|hx|hx<;>first|exact x0 hx|exact x1 hx|exact x2 hx|exact x3 hx|exact x4 hx|exact x5 hx|exact x6 hx|exact x7 hx
theorem aYl(n:Nat):PC F.q46 [] .sum VE n/\PC F.q91 [] .term VE n/\PC F.q152 [] .fac VE n/\PC F.q197 [] .atom VE n:=by
 induction n using Nat.strongRecOn with
 | ind n ih=>exact⟨aXc n fun m hm=>(ih m hm).2.1,aXd n fun m hm=>(ih m hm).2.2.1,aR6 n (fun m hm=>(ih m hm).2.2.1) (fun m hm=>(ih m hm).2.2.2),aXf n⟩
theorem aR7(ts:List Tk)(bp:Nat)(s:Sl)(e:Nat)(h:aA)(v:Value)(G:Own)(tb:Tb h)(w:eH h s ts)(g:aE Ty.syntax_count 4 v 0 [] G):
  FnP T F.q46 [.pointer (some ⟨bp,0,none⟩)] h (Pst bp s 0 e v::G) (PQ ts bp s e VE (tX ts prs)) fun c _ _=>PS ts e (tX ts prs) c:=
 (aYl _).1 ts bp s e h 0 [] v G _ tb w (aZs _) (aZt _) g (by obtain⟨r,hr⟩:=w.nk.2 prs;unfold tX;rw[hr];rfl)
theorem aGg(p:Addr)(w:World):CallsD Tryz.prog 90 #[.pointer (some p)] .returning w fun e u' w'=>e=.returned (.tuple #[])/\u'=.returning/\w'=w:=by
 refine callsD_of_wpS Tryz.func90 rfl fun c₀ cs hu=>?_
 apply wpS_seq
 apply wpS_region
 simp[wpOpsS,go_sem,recoverD,hu,Tryz.ntmps90,Exit.thenS];refine wpS_of_wp ?_
 go_wp2
 cases c₀
 simp_all [bodyPostS,results,Tryz.results90]
theorem aD3(b:Nat)(x y:Value)(i:Int)(w:World)(h0:w.heap[b]?=some (.cells #[x,y] 103 (0,0))):
  CallsD Tryz.prog 90 #[.pointer (some ⟨b,0,none⟩)] (.panicking [{ v:=.iface 103 (.agg #[.int .i64 3,.int .i64 i]),recovered:=false }]) w fun e u' w'=>e=.returned (.tuple #[])/\u'=.panicking [{ v:=.iface 103 (.agg #[.int .i64 3,.int .i64 i]),recovered:=true }]/\
   w'=(((w.setCell ⟨b,0,none⟩ (.int .i64 3)).setCell ⟨b,1,none⟩ (.int .i64 i)).alloc (.cells #[.int .i64 3,.int .i64 i] 103)):=by
 have hta:∀w:World,(Instr.typeAssert (Value.iface 103 (Value.agg #[Value.int IntKind.i64 3,Value.int IntKind.i64 i])) 20 103 true).run Tryz.prog w=.ok (.tuple #[.agg #[.int .i64 3,.int .i64 i],.bool true]) w:=fun _=>by kernel_rfl
 have c0:w.cell? ⟨b,0,none⟩=some x:=by simp[World.cell?,h0]
 have c1:w.cell? ⟨b,1,none⟩=some y:=by simp[World.cell?,h0]
 have f0:w.frozen? ⟨b,0,none⟩=false:=by simp[World.frozen?,h0]
 have f1:w.frozen? ⟨b,1,none⟩=false:=by simp[World.frozen?,h0]
 have hb:b<w.heap.size:=(Array.getElem?_eq_some_iff.1 h0).1;refine callsD_of_wpS Tryz.func90 rfl fun c₀ cs hu=>?_
 apply wpS_seq
 apply wpS_region
 simp[wpOpsS,go_sem,recoverD,hu,Tryz.ntmps90,Exit.thenS];refine wpS_of_wp ?_
 go_wp2
 cases c₀
 simp_all [bodyPostS,results,Tryz.results90]
theorem aXg(f:FuncId)(cap:Array Value)(w:World)(R:Ending->World->Prop)(C:Ending->World->Prop)(hrun:∀w,(callFunc f cap).run Tryz.prog w=.ok (.enter f cap) w)
  (hC:∀e w',C e w'->e≠.outgrown->∃x y,w'.heap[w.heap.size]?=some (.cells #[x,y] 103 (0,0)))
  (hR:∀v w',C (.returned v) w'->R (.returned (.agg #[.int .i64 0,.int .i64 0])) ((w'.setCell ⟨w.heap.size,0,none⟩ (.int .i64 0)).setCell ⟨w.heap.size,1,none⟩ (.int .i64 0)))
  (hP:∀c w',C (.panicked c) w'->∃i,c=[{ v:=.iface 103 (.agg #[.int .i64 3,.int .i64 i]),recovered:=false }]/\R (.returned (.agg #[.int .i64 3,.int .i64 i])) (((w'.setCell ⟨w.heap.size,0,none⟩ (.int .i64 3)).setCell ⟨w.heap.size,1,none⟩ (.int .i64 i)).alloc (.cells #[.int .i64 3,.int .i64 i] 103)))
  (hO:∀w',¬C .outgrown w')
  (hc:Calls Tryz.prog f cap (w.alloc (.cells #[.int .i64 0,.int .i64 0] 103)) C):Calls Tryz.prog 44 #[.func (.func f) #[] cap] w R:=by
 go_enter_defers Tryz.func44,Tryz.ntmps44
 go_wp2_with fail
 rename_i K1 k1 K k;refine hc.mono fun e w' he=>?_
 cases e with
 | returned v=>
  obtain⟨x,y,hb⟩:=hC _ _ he Ar;have c0:w'.cell? ⟨w.heap.size,0,none⟩=some x:=by simp[World.cell?,hb]
  have c1:w'.cell? ⟨w.heap.size,1,none⟩=some y:=by simp[World.cell?,hb]
  have f0:w'.frozen? ⟨w.heap.size,0,none⟩=false:=by simp[World.frozen?,hb]
  have f1:w'.frozen? ⟨w.heap.size,1,none⟩=false:=by simp[World.frozen?,hb]
  refine k _ _ ?_
  go_wp2_with fail
  refine leaves_cons (f:=90) (args:=#[.pointer (some ⟨w.heap.size,0,none⟩)]) Ar (by simp[go_sem]) ?_;refine (aGg ⟨w.heap.size,0,none⟩ _).mono ?_
  rintro e u' w'' ⟨rfl,rfl,rfl⟩
  simp[Leaves,settle,results,Tryz.results44,go_sem,c0,c1];exact hR _ _ he
 | panicked c=>
  obtain⟨x,y,hb⟩:=hC _ _ he Ar;obtain⟨i,rfl,hr⟩:=hP _ _ he;refine leaves_cons (f:=90) (args:=#[.pointer (some ⟨w.heap.size,0,none⟩)]) Ar (by simp[go_sem]) ?_;refine (aD3 w.heap.size x y i _ hb).mono ?_
  rintro e u' w'' ⟨rfl,rfl,rfl⟩
  have c0:w'.cell? ⟨w.heap.size,0,none⟩=some x:=by simp[World.cell?,hb]
  have c1:w'.cell? ⟨w.heap.size,1,none⟩=some y:=by simp[World.cell?,hb]
  have hlt:w.heap.size<((w'.setCell ⟨w.heap.size,0,none⟩ (.int .i64 3)).setCell ⟨w.heap.size,1,none⟩ (.int .i64 i)).heap.size:=by
   have:=(Array.getElem?_eq_some_iff.1 hb).1
   simpa[World.setCell] using this
  have hb2:=(eU (eU hb (off:=0) (.int .i64 3)).at_ (off:=1) (.int .i64 i)).at_;have d0:((w'.setCell ⟨w.heap.size,0,none⟩ (.int .i64 3)).setCell ⟨w.heap.size,1,none⟩ (.int .i64 i)).cell? ⟨w.heap.size,0,none⟩=some (.int .i64 3):=by simp[World.cell?,hb2]
  have d1:((w'.setCell ⟨w.heap.size,0,none⟩ (.int .i64 3)).setCell ⟨w.heap.size,1,none⟩ (.int .i64 i)).cell? ⟨w.heap.size,1,none⟩=some (.int .i64 i):=by simp[World.cell?,hb2]
  have e0:=(World.cell?_alloc_lt ((w'.setCell ⟨w.heap.size,0,none⟩ (.int .i64 3)).setCell ⟨w.heap.size,1,none⟩ (.int .i64 i)) (.cells #[.int .i64 3,.int .i64 i] 103) ⟨w.heap.size,0,none⟩ hlt).trans d0;have e1:=(World.cell?_alloc_lt ((w'.setCell ⟨w.heap.size,0,none⟩ (.int .i64 3)).setCell ⟨w.heap.size,1,none⟩ (.int .i64 i)) (.cells #[.int .i64 3,.int .i64 i] 103) ⟨w.heap.size,1,none⟩ hlt).trans d1;simp[Leaves,settle,results,Tryz.results44,go_sem,e0,e1];exact hr
 | outgrown=>exact (hO _ he).elim
theorem aVe{f:FuncId}(hf:T.fn f=true)(cap:List Value)(h:aA)(L:Own)(R:Value->aA->Own->Prop)(S:Nat->Prop)
  (hc:FnP T f cap h L R fun c _ _=>∃i:Nat,c=flt i/\S i):
  Vc.Fn T F.q44 [.func (.func f) #[] cap.toArray] h L fun r h' L'=>(∃v,R v h' L'/\r=.agg #[.int .i64 0,.int .i64 0])\/∃i:Nat,r=.agg #[.int .i64 3,.int .i64 i]/\S i:=by
 intro w s;have i1:Inv w h L h ((w.heap.size,.cells #[.int .i64 0,.int .i64 0] 103 (0,0))::L) (w.alloc (.cells #[.int .i64 0,.int .i64 0] 103)):=(Inv.init s).alloc _ rfl;have s1:Sat h L (w.alloc (.cells #[.int .i64 0,.int .i64 0] 103)):=(i1.eraseIdx 0).toSat;have nin:w.heap.size∉L.map (·.1):=fun x=>by
  obtain⟨y,hy,e⟩:=List.mem_map.1 x;have:=s.lt_own hy;omega
 have i2:∀{h' L' w'},Inv (w.alloc (.cells #[.int .i64 0,.int .i64 0] 103)) h L h' L' w'->Inv w h L h' (L'++[(w.heap.size,.cells #[.int .i64 0,.int .i64 0] 103 (0,0))]) w'/\w'.heap[w.heap.size]?=some (.cells #[.int .i64 0,.int .i64 0] 103 (0,0)):=fun {h' L' w'} c=>by
  have i:=(i1.perm (L':=L++[(w.heap.size,.cells #[.int .i64 0,.int .i64 0] 103 (0,0))]) (bBn (l₁:=[_]))).call c;exact⟨i,i.own (w.heap.size,.cells #[.int .i64 0,.int .i64 0] 103 (0,0)) Ar⟩
 have i3:∀{h' L' w'} (x y:Value),Inv (w.alloc (.cells #[.int .i64 0,.int .i64 0] 103)) h L h' L' w'->Inv w h L h' (L'++[(w.heap.size,.cells #[x,y] 103 (0,0))]) ((w'.setCell ⟨w.heap.size,0,none⟩ x).setCell ⟨w.heap.size,1,none⟩ y):=fun {h' L' w'} x y c=>by
  obtain⟨i,hb⟩:=i2 c;have u:=(eU hb (off:=0) x).trans (eU (eU hb (off:=0) x).at_ (off:=1) y);have:=i.upd (n:=L'.length) (b:=w.heap.size) (o:=.cells #[.int .i64 0,.int .i64 0] 103 (0,0)) Ar u
  simpa using this
 have i4:∀{h' L' w'} {o:Nat × Obj},Inv w h L h' (L'++[o]) w'->Inv w h L h' L' w':=fun {h' L' w' o} i=>by
  have:=i.eraseIdx L'.length;rw[bBj (aZt _)] at this
  simpa using this
 refine aXg f cap.toArray w _ (fun e w'=>match e with
   | .returned v=>∃h' L',Inv (w.alloc (.cells #[.int .i64 0,.int .i64 0] 103)) h L h' L' w'/\R v h' L'
   | .panicked c=>∃h' L',Inv (w.alloc (.cells #[.int .i64 0,.int .i64 0] 103)) h L h' L' w'/\∃i:Nat,c=flt i/\S i
   | .outgrown=>False) (fun w=>ok.fn f hf _ w) ?_ ?_ ?_ (fun _ x=>x) ((hc _ s1).mono fun e w' he=>?_)
 .intro e w' he hne;cases e with
  | returned v=>obtain⟨h',L',i,-⟩:=he;exact⟨_,_,(i2 i).2⟩
  | panicked c=>obtain⟨h',L',i,-⟩:=he;exact⟨_,_,(i2 i).2⟩
  | outgrown=>exact absurd rfl hne
 .rintro v w' ⟨h',L',i,r⟩
  exact⟨h',L',i4 (i3 _ _ i),.inl ⟨v,r,rfl⟩⟩
 .rintro c w' ⟨h',L',i,j,rfl,hs⟩
  have:=((i4 (i3 (.int .i64 3) (.int .i64 j) i)).alloc (.cells #[.int .i64 3,.int .i64 j] 103) rfl).eraseIdx 0;exact⟨j,rfl,h',L',this,.inr ⟨j,rfl,hs⟩⟩
 .cases e with
  | returned v=>exact he
  | panicked c=>exact he
  | outgrown=>exact he
end Go.Proofs.Y