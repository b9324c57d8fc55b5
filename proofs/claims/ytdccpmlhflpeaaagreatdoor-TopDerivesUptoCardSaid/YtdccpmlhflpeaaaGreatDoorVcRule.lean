/- Rules for whoever walks a function's code. -/
import Derived.Test.YtdccpmlhflpeaaaGreatDoorVcSound
import Derived.Laws.Strings
namespace Go.Vc
open Go
set_option linter.unusedSimpArgs false
set_option linter.unusedVariables false

/-! ### numbers -/
theorem WN.i64{n:Int}{k:Int->Prop}(h1:-9223372036854775808<=n)(h2:n<=9223372036854775807)(hk:k n):WN .i64 n k:=
 ⟨by rw[jA n (by simpa[IntKind.min,IntKind.signed,IntKind.bits] using h1) (by simpa[IntKind.max,IntKind.signed,IntKind.bits] using h2)];exact hk⟩
theorem WN.u64{n:Int}{k:Int->Prop}(h1:0<=n)(h2:n<=18446744073709551615)(hk:k n):WN .u64 n k:=
 ⟨by rw[jA n (by simpa[IntKind.min,IntKind.signed,IntKind.bits] using h1) (by simpa[IntKind.max,IntKind.signed,IntKind.bits] using h2)];exact hk⟩
theorem WN.u32{n:Int}{k:Int->Prop}(h1:0<=n)(h2:n<=4294967295)(hk:k n):WN .u32 n k:=
 ⟨by rw[jA n (by simpa[IntKind.min,IntKind.signed,IntKind.bits] using h1) (by simpa[IntKind.max,IntKind.signed,IntKind.bits] using h2)];exact hk⟩
theorem WN.u8{n:Int}{k:Int->Prop}(h1:0<=n)(h2:n<=255)(hk:k n):WN .u8 n k:=
 ⟨by rw[jA n (by simpa[IntKind.min,IntKind.signed,IntKind.bits] using h1) (by simpa[IntKind.max,IntKind.signed,IntKind.bits] using h2)];exact hk⟩
theorem WN.u64m{n:Int}{k:Int->Prop}(hk:k (n%18446744073709551616)):WN .u64 n k:=⟨by simpa[IntKind.wrap,IntKind.signed,IntKind.bits] using hk⟩
theorem WN.u32m{n:Int}{k:Int->Prop}(hk:k (n%4294967296)):WN .u32 n k:=⟨by simpa[IntKind.wrap,IntKind.signed,IntKind.bits] using hk⟩
theorem aUl{a b:Int}(ha:0<=a):a.tdiv b=a / b:=Int.tdiv_eq_ediv_of_nonneg ha
theorem div_le_self{a b:Int}(ha:0<=a)(hb:0<b):0<=a / b/\a / b<=a:=⟨Int.ediv_nonneg ha Aa,Int.ediv_le_self _ ha⟩
theorem fM.nn{kd:IntKind}{a b:Int}{k:Int->Prop}(ha:0<=a)(hb:0<b)(hm:a<=kd.max)(hk:k (a / b)):fM kd a b k:=by
 refine⟨Aa,?_⟩;have:=div_le_self ha hb;rw[aUl ha,jA _ (by cases kd<;>simp[IntKind.min,IntKind.signed,IntKind.bits]<;>omega) Aa];exact hk
theorem fM.i64{a b:Int}{k:Int->Prop}(ha:0<=a)(hb:0<b)(hm:a<=9223372036854775807)(hk:k (a / b)):fM .i64 a b k:=fM.nn ha hb (by simpa[IntKind.max,IntKind.signed,IntKind.bits] using hm) hk
theorem fM.u64{a b:Int}{k:Int->Prop}(ha:0<=a)(hb:0<b)(hm:a<=18446744073709551615)(hk:k (a / b)):fM .u64 a b k:=fM.nn ha hb (by simpa[IntKind.max,IntKind.signed,IntKind.bits] using hm) hk
theorem fM.u32{a b:Int}{k:Int->Prop}(ha:0<=a)(hb:0<b)(hm:a<=4294967295)(hk:k (a / b)):fM .u32 a b k:=fM.nn ha hb (by simpa[IntKind.max,IntKind.signed,IntKind.bits] using hm) hk
theorem iQ.nn{a b:Int}{k:Int->Prop}(ha:0<=a)(hb:0<b)(hk:k (a%b)):iQ a b k:=by
 refine⟨Aa,?_⟩;rw[Int.tmod_eq_emod_of_nonneg ha];exact hk
theorem cG.of{kd:IntKind}{a:Int}{k:Int->Prop}(b:Nat)(hb:b<=kd.bits)(ha:0<=a)(hk:k (a / 2^b)):cG kd a (b:Int) k:=by
 refine⟨Aa,?_⟩;rw[bHs,bE9 hb,Int.fdiv_eq_ediv_of_nonneg _ (by exact Int.pow_nonneg Aa)];exact hk
theorem kK.mk'{kd:IntKind}{a:Int}{k:Int->Prop}(b:Nat)(hb:b<=kd.bits)(hk:k (kd.wrap (a*2^b))):kK kd a (b:Int) k:=by
 refine⟨Aa,?_⟩;rw[bHs,bE9 hb];exact hk

theorem oC{w:Nat}{a:Int}{n:Nat}(h:a=n)(hn:n<2^w):(BitVec.ofInt w a).toNat=n:=by
 subst h;rw[BitVec.ofInt_natCast,BitVec.toNat_ofNat,bEl hn]
theorem mJ{kd:IntKind}{n:Nat}(hs:kd.signed=false)(h:n<2^kd.bits):kd.wrap (n:Int)=n:=by
 cases kd<;>simp[IntKind.signed,IntKind.bits] at hs h<;>simp[IntKind.wrap,IntKind.signed,IntKind.bits]<;>omega
theorem kL.and{kd:IntKind}{x y:Int}{k:Int->Prop}(a b:Nat)(ha:x=a)(hb:y=b)(ha':a<2^kd.bits)(hb':b<2^kd.bits)(hs:kd.signed=false)(hk:k ((a &&& b:Nat):Int)):kL .and kd x y k:=by
 refine⟨?_⟩;have e:Vc.bits .and kd x y=a &&& b:=by simp only[Vc.bits,BitVec.toNat_and,oC ha ha',oC hb hb']
 rw[e,mJ hs (bFk Nat.and_le_left ha')];exact hk
theorem kL.or{kd:IntKind}{x y:Int}{k:Int->Prop}(a b:Nat)(ha:x=a)(hb:y=b)(ha':a<2^kd.bits)(hb':b<2^kd.bits)(hs:kd.signed=false)(hk:k ((a ||| b:Nat):Int)):kL .or kd x y k:=by
 refine⟨?_⟩;have e:Vc.bits .or kd x y=a ||| b:=by simp only[Vc.bits,BitVec.toNat_or,oC ha ha',oC hb hb']
 rw[e,mJ hs (Nat.or_lt_two_pow ha' hb')];exact hk
/-! ### tests -/
theorem aB{a b:Int}{p q:Prop}(hp:a<b->p)(hq:b<=a->q):cnd (lt a b) p q:=by
 unfold lt;by_cases h:a<b
 .rw[decide_eq_true h];exact hp h
 .rw[decide_eq_false h];exact hq Aa
theorem bI{a b:Int}{p q:Prop}(hp:a<=b->p)(hq:b<a->q):cnd (le a b) p q:=by
 unfold le;by_cases h:a<=b
 .rw[decide_eq_true h];exact hp h
 .rw[decide_eq_false h];exact hq Aa
theorem aD{a b:Int}{p q:Prop}(hp:a=b->p)(hq:a≠b->q):cnd (eq a b) p q:=by
 unfold eq;by_cases h:a=b
 .rw[decide_eq_true h];exact hp h
 .rw[decide_eq_false h];exact hq h
theorem aJ{b:Bool}{p q:Prop}(h:cnd b q p):cnd (!b) p q:=by cases b<;>exact h
theorem dE{b:Bool}{p q:Prop}(hp:b=true->p)(hq:b=false->q):cnd b p q:=by cases b;exact hq rfl;exact hp rfl
theorem aKi{a b:Bool}{p q:Prop}(hp:a=b->p)(hq:a≠b->q):cnd (beq a b) p q:=by
 unfold beq;by_cases h:a=b
 .subst h;simp;exact hp rfl
 .rw[show (a == b)=false from by simpa using h];exact hq h
theorem toList_inj{a b:ByteArray}(h:a.toList=b.toList):a=b:=by
 rw[ByteArray.toList_eq,ByteArray.toList_eq] at h;exact ByteArray.ext (Array.toList_inj.1 h)
theorem aDe{a b:ByteArray}{p q:Prop}(hp:a=b->p)(hq:a≠b->q):cnd (seq a b) p q:=by
 unfold seq;by_cases h:a=b
 .subst h;simp;exact hp rfl
 .have:(a.toList == b.toList)=false:=by
   cases hx:a.toList == b.toList with
   | false=>rfl
   | true=>exact (h (toList_inj (eq_of_beq hx))).elim
  rw[this];exact hq h
theorem eq_true'{a b:Int}(h:a=b):eq a b=true:=by unfold eq;exact decide_eq_true h
theorem eq_false'{a b:Int}(h:a≠b):eq a b=false:=by unfold eq;exact decide_eq_false h
theorem oD{a b:Int}(h:a<b):lt a b=true:=by unfold lt;exact decide_eq_true h
theorem lY{a b:Int}(h:b<=a):lt a b=false:=by unfold lt;exact decide_eq_false Aa
theorem aPk{a b:Int}(h:a<=b):le a b=true:=by unfold le;exact decide_eq_true h
theorem aMu{a b:Int}(h:b<a):le a b=false:=by unfold le;exact decide_eq_false Aa

theorem eB.tab{s:ByteArray}{i:Int}{k:Int->Prop}(f:Nat->Nat)(m:Nat)(hs:∀j,j<m->s[j]?=some (UInt8.ofNat (f j))/\f j<256)(j:Nat)(hi:i=j)(hj:j<m)(hk:k (f j)):eB s i k:=
 ⟨j,_,hi,(hs j hj).1,by rw[UInt8.toNat_ofNat',bEl (hs j hj).2];exact hk⟩
/-! ### memory -/
theorem Has.imm{h:aA}{L:Own}{b off:Nat}{c:Array Value}{T:TypeId}{fz:Nat × Nat}{v:Value}(hb:h b=some (.cells c T fz))(hc:c[off]?=some v):Has h L ⟨b,off,none⟩ v:=
 ⟨rfl,c,T,fz,.inl hb,hc⟩
theorem Has.own{h:aA}{L:Own}{b off:Nat}{c:Array Value}{T:TypeId}{fz:Nat × Nat}{v:Value}(n:Nat)(hb:L[n]?=some (b,.cells c T fz))(hc:c[off]?=some v):Has h L ⟨b,off,none⟩ v:=
 ⟨rfl,c,T,fz,.inr (bDc hb),hc⟩
theorem Ld.of{h:aA}{L:Own}{a:Addr}{k:Value->Prop}{v:Value}(hv:Has h L a v)(hk:k v):Ld h L a k:=⟨v,hv,hk⟩
theorem Ld.o{h:aA}{L:Own}{b off:Nat}{k:Value->Prop}{c:Array Value}{T:TypeId}{fz:Nat × Nat}{v:Value}(n:Nat)(hb:L[n]?=some (b,.cells c T fz))(hc:c[off]?=some v)(hk:k v):Ld h L ⟨b,off,none⟩ k:=⟨v,Has.own n hb hc,hk⟩
theorem bB(b o i:Nat):(⟨b,o,none⟩:Addr).add i=⟨b,o+i,none⟩:=by unfold Addr.add;split<;>simp_all
theorem LdN.o{h:aA}{L:Own}{b m:Nat}{k:Value->Prop}{l:List Value}{T:TypeId}{fz:Nat × Nat}(n:Nat)(hb:L[n]?=some (b,.cells l.toArray T fz))(hl:l.length=m)(hk:k (.agg l.toArray)):LdN h L ⟨b,0,none⟩ m k:=
 ⟨l,hl,fun i hi=>by rw[bB,bDu];exact Has.own n hb (by simp[hl▸hi,bC7,hl,hi]),hk⟩
theorem LdN.imm{h:aA}{L:Own}{b o m:Nat}{k:Value->Prop}{c:Array Value}{T:TypeId}{fz:Nat × Nat}(vs:List Value)(hb:h b=some (.cells c T fz))(hl:vs.length=m)(hc:∀i,i<m->c[o+i]?=vs[i]?)(hk:k (.agg vs.toArray)):LdN h L ⟨b,o,none⟩ m k:=
 ⟨vs,hl,fun i hi=>by rw[bB];exact Has.imm hb (by rw[hc i hi];simp[bC7,hl,hi]),hk⟩
theorem Idx.of{a:Option Addr}{i:Int}{n size:Nat}{k:Addr->Prop}{b off:Nat}(j:Nat)(ha:a=some ⟨b,off,none⟩)(hi:i=j)(hj:j<n)(hk:k ⟨b,off+j*size,none⟩):Idx a i n size k:=
 ⟨_,j,ha,hi,hj,by rw[bB];exact hk⟩
theorem aYb.at{T:Tab}{e:TypeId}{cs:List Value}{i:Int}{n size:Nat}{k:Value->Prop}(j:Nat)(hi:i=j)(hj:j<n)(hk:aFc T e cs (j*size) k):aYb T e cs i n size k:=⟨j,hi,hj,hk⟩
theorem Idx.one{a:Option Addr}{i:Int}{n:Nat}{k:Addr->Prop}{b off:Nat}(j:Nat)(ha:a=some ⟨b,off,none⟩)(hi:i=j)(hj:j<n)(hk:k ⟨b,off+j,none⟩):Idx a i n 1 k:=
 Idx.of j ha hi hj (by rw[bFm];exact hk)

theorem aFn(c:Array Value)(o:Nat)(v:Value):kE c o [v]=c.setIfInBounds o v:=rfl

theorem Sto.l{L:Own}{b off:Nat}{vs l:List Value}{T:TypeId}{k:Own->Prop}(n:Nat)(hb:L[n]?=some (b,.cells l.toArray T (0,0)))(hl:Nat.ble (off+vs.length) l.length=true)(ho:vs.all gC=true)
  (hk:yF vs l off fun l=>vL (b,.cells l.toArray T (0,0)) L n k):Sto L ⟨b,off,none⟩ vs k:=by
 rw[rQ,tS] at hk;refine⟨rfl,n,_,T,hb,?_,ho,?_⟩
 .have:=bG7 hl;simpa using this
 .rw[iR];exact hk
theorem Sto.sym{L:Own}{b off:Nat}{v:Value}{l:List Value}{T:TypeId}{k:Own->Prop}(n:Nat)(hb:L[n]?=some (b,.cells l.toArray T (0,0)))(hl:off<l.length)(ho:gC v=true)
  (hk:vL (b,.cells (l.set off v).toArray T (0,0)) L n k):Sto L ⟨b,off,none⟩ [v] k:=by
 rw[tS] at hk;refine⟨rfl,n,_,T,hb,by simp;omega,by simp[ho],?_⟩
 rw[aFn];simpa using hk

/-! ### calls -/
def Fn0(T:Tab)(f:FuncId)(args:List Value)(h:aA)(R:Value->aA->Prop):Prop:=Fn T f args h [] fun v h' L'=>L'=[]/\R v h'

theorem Fn.mono{T:Tab}{f:FuncId}{args:List Value}{h:aA}{L:Own}{R R':Value->aA->Own->Prop}(hf:Fn T f args h L R)(hr:∀v h' L',h.le h'->R v h' L'->R' v h' L'):Fn T f args h L R':=
 fun w s=>(hf w s).mono fun e w' he=>by
  cases e with
  | returned v=>obtain⟨h',L',i,r⟩:=he;exact⟨h',L',i,hr _ _ _ i.hle r⟩
  | panicked c=>exact he
  | outgrown=>exact he
theorem Fn0.mono{T:Tab}{f:FuncId}{args:List Value}{h:aA}{R R':Value->aA->Prop}(hf:Fn0 T f args h R)(hr:∀v h',h.le h'->R v h'->R' v h'):Fn0 T f args h R':=
 Fn.mono hf fun v h' L' hl ⟨e,r⟩=>⟨e,hr _ _ hl r⟩

theorem CN.f{T:Tab}{f:FuncId}{args:List Value}{h:aA}{L:Own}{k:Value->aA->Own->Prop}{R:Value->aA->Prop}(ok:T.fn f=true)(hf:Fn0 T f args h R)(hk:∀v h',h.le h'->R v h'->k v h' L):CN T f args h L k:=
 .of ok (.done ⟨[],L,_,by simp,hf,fun v h' La' hl ⟨e,r⟩=>⟨L,by rw[e];simp,hk v h' hl r⟩⟩)
theorem CN.keep{T:Tab}{f:FuncId}{args:List Value}{h:aA}{L:Own}{k:Value->aA->Own->Prop}{b:Nat}{o:Obj}(n:Nat)(hn:L[n]?=some (b,o))(hf:T.fn f=true)(hk:h.le (h.put b o)->CN T f args (h.put b o) (L.eraseIdx n) k):CN T f args h L k:=
 ⟨hf,.keep n hn fun hle=>(hk hle).ex⟩
theorem RN.done{v:Value}{h:aA}{L:Own}{R:Value->aA->Own->Prop}(r:R v h L):RN v h L R:=⟨.done r⟩
theorem RN.keep{v:Value}{h:aA}{L:Own}{R:Value->aA->Own->Prop}{b:Nat}{o:Obj}(n:Nat)(hn:L[n]?=some (b,o))(hk:h.le (h.put b o)->RN v (h.put b o) (L.eraseIdx n) R):RN v h L R:=
 ⟨.keep n hn fun hle=>(hk hle).ex⟩
theorem FzN.dropAll{P:aA->Own->Prop}{h:aA}:∀{L:Own},P h []->FzN P h L
 | [],r=>.done r
 | _::L,r=>.drop 0 (FzN.dropAll (L:=L) r)
theorem RN.a{v:Value}{h:aA}{L:Own}{R:Value->aA->Prop}(r:R v h):RN v h L fun v h' L'=>L'=[]/\R v h':=⟨FzN.dropAll ⟨rfl,r⟩⟩

/-! ### loops, joints, drawn regions -/
theorem LpN.of{body:fN->Env->aA->Own->Prop}{ws:List Nat}{Q:fN}{ρ:Env}{h:aA}{L:Own}(I:Nat->Env->aA->Own->Prop)(n0:Nat)(h0:I n0 ρ h L)
  (hr:vP ws 0 ρ fun ρ'=>∀n h' L',I n ρ' h' L'->body (fun e ρ'' h'' L''=>match e with|.normal=>ρ''=over ws 0 ρ ρ''/\∃m,m<n/\I m ρ'' h'' L''|e=>Q e ρ'' h'' L'') ρ' h' L'):LpN body ws Q ρ h L:=
 ⟨.done ⟨I,⟨n0,h0⟩,fun n ρ' h' L' ho hi=>nZ (i:=0) hr ρ' ho n h' L' hi⟩⟩
theorem LpN.keep{body:fN->Env->aA->Own->Prop}{ws:List Nat}{Q:fN}{ρ:Env}{h:aA}{L:Own}{b:Nat}{o:Obj}(n:Nat)(hn:L[n]?=some (b,o))(hk:h.le (h.put b o)->LpN body ws Q ρ (h.put b o) (L.eraseIdx n)):LpN body ws Q ρ h L:=
 ⟨.keep n hn fun hle=>(hk hle).ex⟩
theorem aQ.go{a b:fN->Env->aA->Own->Prop}{ws:List Nat}{Q:fN}{ρ:Env}{h:aA}{L:Own}(hh:a (fun e ρ h L=>match e with|.normal=>b Q ρ h L|e=>Q e ρ h L) ρ h L):aQ a b ws Q ρ h L:=
 ⟨b Q,hh,fun _ _ _ x=>x⟩
theorem aQ.cut{a b:fN->Env->aA->Own->Prop}{ws:List Nat}{Q:fN}{ρ:Env}{h:aA}{L:Own}(J:Env->aA->Own->Prop)
  (ha:a (fun e ρ' h' L'=>match e with|.normal=>ρ'=over ws 0 ρ ρ'/\J ρ' h' L'|e=>Q e ρ' h' L') ρ h L) (hb:vP ws 0 ρ fun ρ'=>∀h' L',J ρ' h' L'->b Q ρ' h' L'):aQ a b ws Q ρ h L:=
 ⟨fun ρ' h' L'=>ρ'=over ws 0 ρ ρ'/\J ρ' h' L',ha,fun ρ' h' L' ⟨ho,hj⟩=>nZ (i:=0) hb ρ' ho h' L' hj⟩
theorem aPl{n:Nat}{k:Nat->Prop}:bA9 n k↔k n:=by cases n<;>exact Iff.rfl
theorem pG:∀{os:List Oper} {k:List Nat->Prop},vM os k↔k (dL os)
 | [],_=>Iff.rfl
 | o::os,k=>by simp only[vM,aPl,pG (os:=os)];rfl
theorem DrN.run{T:Tab}{all:List Oper}{Q:Env->aA->Own->Prop}{ρ:Env}{h:aA}{L:Own}(ok:vN .run all=true)(hh:vM all fun ms=>nX .run T all ms Q (all.length+1) 0 ρ h L):DrN T all Q ρ h L:=
 ⟨.run,trivial,ok,pG.1 hh⟩
theorem DrN.each{T:Tab}{all:List Oper}{Q:Env->aA->Own->Prop}{ρ:Env}{h:aA}{L:Own}(ok:vN .each all=true)(hh:vM all fun ms=>nX .each T all ms Q (all.length+1) 0 ρ h L):DrN T all Q ρ h L:=
 ⟨.each,trivial,ok,pG.1 hh⟩
theorem DrN.own{T:Tab}{all:List Oper}{Q:Env->aA->Own->Prop}{ρ:Env}{h:aA}{L:Own}(V:Own)(hs:V.Sublist L)(ok:vN (.own []) all=true)(hh:vM all fun ms=>nX (.own V) T all ms Q (all.length+1) 0 ρ h L):DrN T all Q ρ h L:=
 ⟨.own V,hs,ok,pG.1 hh⟩
theorem Fn0.make{T:Tab}{f:FuncId}{args:List Value}{h:aA}{R:Value->aA->Prop}(x:Fn T f args h [] fun v h' L'=>L'=[]/\R v h'):Fn0 T f args h R:=x
theorem Fn0.out{T:Tab}{f:FuncId}{args:List Value}{h:aA}{R:Value->aA->Prop}(x:Fn0 T f args h R):Fn T f args h [] fun v h' L'=>L'=[]/\R v h':=x
/-! ### code, kept folded: one step at a time -/
structure cI (T:Tab) (c:Code) (Q:fN) (ρ:Env) (h:aA) (L:Own):Prop where
 x:gS T c Q ρ h L
theorem jB(T:Tab):cI T=gS T:=by
 funext c Q ρ h L
 exact propext ⟨fun x=>x.x,fun x=>⟨x⟩⟩
variable {T:Tab} {Q:fN} {ρ:Env} {h:aA} {L:Own}
theorem cI.skip(x:Q .normal ρ h L):cI T .skip Q ρ h L:=⟨x⟩
theorem cI.label{l:Nat}(x:Q .normal ρ h L):cI T (.label l) Q ρ h L:=⟨x⟩
theorem cI.seqN{a b:Code}(x:aQ (cI T a) (cI T b) (wr a) Q ρ h L):cI T (.seq a b) Q ρ h L:=by
 rw[jB] at *;rw[gS];exact x
theorem cI.seq{a b:Code}(hj:tR a=false)(x:cI T a (fun e ρ h L=>match e with|.normal=>cI T b Q ρ h L|e=>Q e ρ h L) ρ h L):cI T (.seq a b) Q ρ h L:=
 cI.seqN (aQ.go x)
theorem cI.seqJ{a b:Code}(hj:tR a=true)(x:aQ (cI T a) (cI T b) (wr a) Q ρ h L):cI T (.seq a b) Q ρ h L:=cI.seqN x
theorem cI.meet(id t:Nat)(v:Bool){ops:Array Oper}{dr:Bool}{b:Code}
  (x:cI T (.region id ops dr) (fun e ρ' h' L'=>match e with|.normal=>ρ'=over (wr (.region id ops dr)) 0 ρ ρ'/\rd ρ' t=.bool v/\h.le h'/\L'=L|e=>Q e ρ' h' L') ρ h L)
  (y:vP (wr (.region id ops dr)) 0 ρ fun ρ'=>∀h',rd ρ' t=.bool v->h.le h'->cI T b Q ρ' h' L):cI T (.seq (.region id ops dr) b) Q ρ h L:=
 cI.seqN ⟨fun ρ' h' L'=>ρ'=over (wr (.region id ops dr)) 0 ρ ρ'/\rd ρ' t=.bool v/\h.le h'/\L'=L,x,fun ρ' h' L' ⟨ho,hv,hl,e⟩=>by subst e;exact nZ (i:=0) y ρ' ho h' hv hl⟩
theorem cI.cond{c:Operand}{a b:Code} (x:ev ρ c fun v=>match v with
    | .bool t=>cnd t (cI T a Q ρ h L) (cI T b Q ρ h L)
    | _=>False):cI T (.cond c a b) Q ρ h L:=by rw[jB] at *;rw[gS];exact x
theorem cI.block{id:Nat}{c:Code}(x:cI T c (fun e ρ h L=>match e with|.exit id'=>(if id'=id then Q .normal ρ h L else Q (.exit id') ρ h L)|e=>Q e ρ h L) ρ h L):cI T (.block id c) Q ρ h L:=by rw[jB] at *;rw[gS];exact x
theorem cI.loop{c:Code}(x:LpN (cI T c) (wr c) Q ρ h L):cI T (.loop c) Q ρ h L:=by rw[jB] at *;rw[gS];exact x
theorem cI.exit{id:Nat}(x:Q (.exit id) ρ h L):cI T (.exit id) Q ρ h L:=by rw[jB];rw[gS];exact x
theorem cI.ret(x:Q .ret ρ h L):cI T .ret Q ρ h L:=by rw[jB];rw[gS];exact x
structure oI (T:Tab) (all:List Oper) (Q:fN) (os:List Oper) (ρ:Env) (h:aA) (L:Own):Prop where
 x:aFd T all Q os ρ h L
theorem aUm(T:Tab)(all:List Oper)(Q:fN):oI T all Q=aFd T all Q:=by
 funext os ρ h L
 exact propext ⟨fun x=>x.x,fun x=>⟨x⟩⟩
theorem oI.nil{all:List Oper}(x:Q .normal ρ h L):oI T all Q [] ρ h L:=⟨x⟩
theorem oI.cons{all rest:List Oper}{o:Oper} (x:qN all ρ o
      (fun ρ=>opF T ρ h L o.op fun v h L=>stO v ρ o.dst fun ρ=>oI T all Q rest ρ h L)
      (fun ρ=>stO undef ρ o.dst fun ρ=>oI T all Q rest ρ h L)):oI T all Q (o::rest) ρ h L:=by
 rw[aUm] at *;rw[aFd];exact x
theorem cI.region{id:Nat}{ops:Array Oper}(x:oI T ops.toList Q ops.toList ρ h L):cI T (.region id ops false) Q ρ h L:=by rw[jB];rw[gS];exact x.x
theorem cI.draw{id:Nat}{ops:Array Oper}(x:DrN T ops.toList (Q .normal) ρ h L):cI T (.region id ops true) Q ρ h L:=by rw[jB];rw[gS];exact x
def aPm(T:Tab)(c:Code)(Q:fN)(ρ:Env)(h:aA)(L:Own):Prop:=
 match c with
 | .skip=>Q .normal ρ h L
 | .seq a b=>match tR a with
  | false=>cI T a (fun e ρ h L=>match e with|.normal=>cI T b Q ρ h L|e=>Q e ρ h L) ρ h L
  | true=>aQ (cI T a) (cI T b) (wr a) Q ρ h L
 | .cond c a b=>ev ρ c fun v=>match v with
  | .bool t=>cnd t (cI T a Q ρ h L) (cI T b Q ρ h L)
  | _=>False
 | .block id c=>cI T c (fun e ρ h L=>match e with|.exit id'=>(if id'=id then Q .normal ρ h L else Q (.exit id') ρ h L)|e=>Q e ρ h L) ρ h L
 | .loop c=>LpN (cI T c) (wr c) Q ρ h L
 | .exit id=>Q (.exit id) ρ h L
 | .ret=>Q .ret ρ h L
 | .region _ ops false=>oI T ops.toList Q ops.toList ρ h L
 | .region _ ops true=>DrN T ops.toList (Q .normal) ρ h L
 | .rangeFunc f ps a b=>bBa T (.rangeFunc f ps a b) Q ρ h L
 | _=>False
theorem cI.z{c:Code}(x:aPm T c Q ρ h L):cI T c Q ρ h L:=by
 cases c with
 | skip=>exact cI.skip x
 | seq a b=>
  cases hj:tR a with
  | false=>refine cI.seq hj ?_;simp only[aPm,hj] at x;exact x
  | true=>refine cI.seqJ hj ?_;simp only[aPm,hj] at x;exact x
 | cond c a b=>exact cI.cond x
 | block id c=>exact cI.block x
 | loop c=>exact cI.loop x
 | exit id=>exact cI.exit x
 | ret=>exact cI.ret x
 | region id ops d=>cases d;exact cI.region x;exact cI.draw x
 | rangeFunc f ps a b=>rw[jB];rw[gS];exact x
 | _=>exact False.elim x
def bCl(T:Tab)(all:List Oper)(Q:fN)(os:List Oper)(ρ:Env)(h:aA)(L:Own):Prop:=
 match os with
 | []=>Q .normal ρ h L
 | o::rest=>qN all ρ o
   (fun ρ=>opF T ρ h L o.op fun v h L=>stO v ρ o.dst fun ρ=>oI T all Q rest ρ h L)
   (fun ρ=>stO undef ρ o.dst fun ρ=>oI T all Q rest ρ h L)
theorem oI.z{all os:List Oper}(x:bCl T all Q os ρ h L):oI T all Q os ρ h L:=by
 cases os with
 | nil=>exact oI.nil x
 | cons o rest=>exact oI.cons x
theorem f1C(ok:T.Ok){f:FuncId}{fn:Func}{c:Code}{args:List Value}{R:Value->aA->Own->Prop}(hf:T.prog.funcs[f]?=some fn)(hb:fn.body=some c)
  (hc:cI T c (aMn T fn.results.toList R) (args++List.replicate (fn.ntmps-args.length) undef) h L) (hn:∀c h L,¬T.pan c h L:=by exact fun _ _ _ x=>x):Fn T f args h L R:=yQ ok hn hf hb hc.x
theorem f0C(ok:T.Ok){f:FuncId}{fn:Func}{c:Code}{args:List Value}{R:Value->aA->Prop}(hf:T.prog.funcs[f]?=some fn)(hb:fn.body=some c)
  (hc:cI T c (aMn T fn.results.toList fun v h' L'=>L'=[]/\R v h') (args++List.replicate (fn.ntmps-args.length) undef) h []) (hn:∀c h L,¬T.pan c h L:=by exact fun _ _ _ x=>x):Fn0 T f args h R:=yQ ok hn hf hb hc.x
attribute [irreducible] Fn0
/-! ### panics -/
def Tab.withPan(T:Tab)(S:List PanicEntry->aA->Own->Prop):Tab:={ T with pan:=S }
theorem Tab.Ok.withPan{T:Tab}(ok:T.Ok)(S:List PanicEntry->aA->Own->Prop):(T.withPan S).Ok:=⟨ok.und,ok.inf,ok.fn,ok.mixed⟩
theorem Fn0.wP{T:Tab}{S:List PanicEntry->aA->Own->Prop}{f:FuncId}{args:List Value}{h:aA}{R:Value->aA->Prop}(x:Fn0 T f args h R):Fn0 (T.withPan S) f args h R:=Fn0.make (fun w s=>Fn0.out (T:=T) x w s)
theorem fPC{T:Tab}(ok:T.Ok)(S:List PanicEntry->aA->Own->Prop){f:FuncId}{fn:Func}{c:Code}{args:List Value}{h:aA}{L:Own}{R:Value->aA->Own->Prop}(hf:T.prog.funcs[f]?=some fn)(hb:fn.body=some c)
  (hc:cI (T.withPan S) c (aMn (T.withPan S) fn.results.toList R) (args++List.replicate (fn.ntmps-args.length) undef) h L):FnP T f args h L R S:=wR (ok.withPan S) hf hb hc.x
end Go.Vc