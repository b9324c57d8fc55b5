/- A failure of the form is caught: formed; Poly. -/
import Derived.Test.YtblecjeceecaaaaGreatDoorPF8
import Derived.Test.YtblecjeceecaaaaGreatDoorSe
import Derived.Laws.StructEq
set_option linter.all false
set_option maxHeartbeats 4000000
set_option maxRecDepth 100000
namespace Go.Vc
open Go
theorem Inv.tail{w0 w:World}{h0 h:aA}{L0 B:Vc.Own}:∀(A:Vc.Own),Inv w0 h0 L0 h (A++B) w->Inv w0 h0 L0 h B w
 | [],i=>i
 | _::A,i=>Inv.tail A (i.eraseIdx 0)
end Go.Vc
namespace Go.Proofs.Y
open Go Go.Vc Go.Dig
theorem aKv(p q:Addr)(w:World):CallsD Tryz.prog 95 #[.pointer (some p),.pointer (some q)] .returning w fun e u' w'=>e=.returned (.tuple #[])/\u'=.returning/\w'=w:=by
 refine callsD_of_wpS Tryz.func95 rfl fun c₀ cs hu=>?_
 apply wpS_seq
 apply wpS_region
 simp[wpOpsS,go_sem,recoverD,hu,Tryz.ntmps95,Exit.thenS];refine wpS_of_wp ?_
 go_wp2
 cases c₀
 simp_all [bodyPostS,results,Tryz.results95]
theorem aHs(h:aA)(b c:Nat)(x y:Value)(i:Int)(w:World)(s:Sat h [(b,.cells [x].toArray 91 (0,0)),(c,.cells [y].toArray 28 (0,0))] w):
  CallsD Tryz.prog 95 #[.pointer (some ⟨b,0,none⟩),.pointer (some ⟨c,0,none⟩)] (.panicking [{ v:=.iface 150 (.agg #[.int .i64 i]),recovered:=false }]) w fun e u' w'=>e=.returned (.tuple #[])/\u'=.panicking [{ v:=.iface 150 (.agg #[.int .i64 i]),recovered:=true }]/\
   ∃h',Inv w h [(b,.cells [x].toArray 91 (0,0)),(c,.cells [y].toArray 28 (0,0))] h' [(b,.cells [.slice none 0 0].toArray 91 (0,0)),(c,.cells [.int .i64 i].toArray 28 (0,0))] w':=by
 have hta:∀w:World,(Instr.typeAssert (Value.iface 150 (Value.agg #[Value.int IntKind.i64 i])) 20 150 true).run Tryz.prog w=.ok (.tuple #[.agg #[.int .i64 i],.bool true]) w:=fun _=>by kernel_rfl
 have inv2:=(Inv.init s).alloc (.cells [.int .i64 i].toArray 150 (0,0)) rfl;refine callsD_of_wpS Tryz.func95 rfl fun c₀ cs hu=>?_
 apply wpS_seq
 apply wpS_region
 simp[wpOpsS,go_sem,recoverD,hu,Tryz.ntmps95,Exit.thenS];refine wpS_of_wp ?_
 go_wp2
 rename_i Q9 z1 z2;have ea:(#[Value.pointer (some ⟨b,0,none⟩),Value.pointer (some ⟨c,0,none⟩)]++((((((Array.replicate 11 undef).setIfInBounds 3 (Value.iface 150 (Value.agg #[Value.int IntKind.i64 i]))).setIfInBounds 5 (Value.bool false)).setIfInBounds 6 (Value.tuple #[Value.agg #[Value.int IntKind.i64 i],Value.bool true])).setIfInBounds 7 (Value.bool true)).setIfInBounds 8 (Value.agg #[Value.int IntKind.i64 i])).setIfInBounds 1 (Value.pointer (some ⟨w.heap.size,0,none⟩))) =
  [.pointer (some ⟨b,0,none⟩),.pointer (some ⟨c,0,none⟩),undef,.pointer (some ⟨w.heap.size,0,none⟩),undef,.iface 150 (.agg #[.int .i64 i]),undef,.bool false,.tuple #[.agg #[.int .i64 i],.bool true],.bool true,.agg #[.int .i64 i],undef,undef].toArray:=by
  simp[Array.replicate_succ]
 rw[ea];refine aA5 (T:=T) (w0:=w) (h0:=h) (L0:=[(b,.cells [x].toArray 91 (0,0)),(c,.cells [y].toArray 28 (0,0))]) ok _ (fun e ρ' h' L'=>match e with|.normal=>L'=[(w.heap.size,.cells [.int .i64 i].toArray 150 (0,0)),(b,.cells [.slice none 0 0].toArray 91 (0,0)),(c,.cells [.int .i64 i].toArray 28 (0,0))]|_=>False) _ [.pointer (some ⟨b,0,none⟩),.pointer (some ⟨c,0,none⟩),undef,.pointer (some ⟨w.heap.size,0,none⟩),undef,.iface 150 (.agg #[.int .i64 i]),undef,.bool false,.tuple #[.agg #[.int .i64 i],.bool true],.bool true,.agg #[.int .i64 i],undef,undef] h _ _ ?_ (fun hr=>hr.elim) (fun _ _ _ _ _ _ hp=>hp.elim) (fun c ρ ρ' w hh=>⟨rfl,hh.2⟩) inv2 ?_
 .intro e ρ' h' L' w' inv hq;cases e with
  | normal=>
   subst hq;exact⟨rfl,_,rfl,.tuple #[],by simp[results,Tryz.results95],rfl,rfl,h',inv.eraseIdx 0⟩
  | exit id=>exact hq.elim
  | ret=>exact hq.elim
 .refine (?_:cI T _ _ _ _ _).x;conv=>whnf
  repeat ((first|apply oI.z|apply cI.z);conv=>whnf)
  repeat' first|((first|(show DrN _ _ _ _ _ _;refine DrN.each Ak ?_)|refine Ld.o 0 rfl rfl ?_|(show Sto _ _ _ _;first|refine Sto.l 1 rfl rfl rfl ?_|refine Sto.l 2 rfl rfl rfl ?_)|refine⟨fun _=>aJ.o (aA.lr _),?_⟩|refine⟨fun hst=>(by cases (show true=false from hst)),?_⟩|fail)<;>conv=>whnf)|(refine rY.mk ?_ ?_<;>(conv=>whnf))
  all_goals rfl
theorem aXu(a0 a1 a2 a3 a4 a5 a6:Value)(h:aA)(w:World)(s:Sat h [] w)(r:Except Nat Pol)(hc:FP F.q96 [.agg #[a0,a1,a2,a3,a4,a5,a6]] h r):Calls Tryz.prog 48 #[.agg #[a0,a1,a2,a3,a4,a5,a6]] w fun e w'=>∃v h',e=.returned v/\Inv w h [] h' [] w'/\((∃p s,r=.ok p/\v=.tuple #[Sl.val s,.int .i64 0]/\mM h' s p)\/(∃n:Nat,r=.error n/\v=.tuple #[.slice none 0 0,.int .i64 n])):=by
 have i1:Inv w h [] h [(w.heap.size+1,.cells [Value.slice none 0 0].toArray 91 (0,0)),(w.heap.size+1+1,.cells [Value.int .i64 0].toArray 28 (0,0))] (((w.alloc (Obj.cells #[a0,a1,a2,a3,a4,a5,a6] 27)).alloc (Obj.cells #[Value.slice none 0 0] 91)).alloc (Obj.cells #[Value.int IntKind.i64 0] 28)):=by
  have j1:Inv w h [] h [(w.heap.size,Obj.cells #[a0,a1,a2,a3,a4,a5,a6] 27 (0,0))] (w.alloc (Obj.cells #[a0,a1,a2,a3,a4,a5,a6] 27)):=(Inv.init s).alloc _ rfl;have e1:(w.alloc (Obj.cells #[a0,a1,a2,a3,a4,a5,a6] 27)).heap.size=w.heap.size+1:=Array.size_push _;have j2:=(j1.eraseIdx 0).alloc (Obj.cells #[Value.slice none 0 0] 91 (0,0)) rfl;rw[e1] at j2;have e2:((w.alloc (Obj.cells #[a0,a1,a2,a3,a4,a5,a6] 27)).alloc (Obj.cells #[Value.slice none 0 0] 91)).heap.size=w.heap.size+1+1:=(Array.size_push _).trans (congrArg (·+1) e1);have j3:Inv w h [] h [(w.heap.size+1+1,.cells [Value.int .i64 0].toArray 28 (0,0)),(w.heap.size+1,.cells [Value.slice none 0 0].toArray 91 (0,0))] (((w.alloc (Obj.cells #[a0,a1,a2,a3,a4,a5,a6] 27)).alloc (Obj.cells #[Value.slice none 0 0] 91)).alloc (Obj.cells #[Value.int IntKind.i64 0] 28)):=by
   have:=Inv.alloc (w:=(w.alloc (Obj.cells #[a0,a1,a2,a3,a4,a5,a6] 27)).alloc (Obj.cells #[Value.slice none 0 0] 91)) j2 (Obj.cells #[Value.int IntKind.i64 0] 28 (0,0)) rfl;rw[e2] at this;exact this
  exact j3.perm (List.Perm.swap _ _ _)
 have s1:=((i1.eraseIdx 0).eraseIdx 0).toSat;have h1:=hc _ s1
 go_enter_defers Tryz.func48,Tryz.ntmps48
 go_wp2_with fail
 rename_i K1 k1 K k;refine h1.mono fun e w' he=>?_
 cases e with
 | returned v=>
  obtain⟨h',L',i,rfl,p,⟨ta,tl,tc⟩,e,hv,hp⟩:=he;replace hv:v=.slice ta tl tc:=hv;subst hv;have i2:=i1.call i;have i3:=i2.upd (n:=0) (b:=w.heap.size+1) (o:=.cells [Value.slice none 0 0].toArray 91 (0,0)) rfl (gE (i2.own (w.heap.size+1,.cells [Value.slice none 0 0].toArray 91 (0,0)) Aq) (off:=0) (Value.slice ta tl tc));have i4:=i3.upd (n:=1) (b:=w.heap.size+1+1) (o:=.cells [Value.int .i64 0].toArray 28 (0,0)) rfl (gE (i3.own (w.heap.size+1+1,.cells [Value.int .i64 0].toArray 28 (0,0)) Aq) (off:=0) (.int .i64 0));have q0:=i2.own (w.heap.size+1,.cells [Value.slice none 0 0].toArray 91 (0,0)) Aq;have q1:=i3.own (w.heap.size+1+1,.cells [Value.int .i64 0].toArray 28 (0,0)) Aq;have c0:w'.cell? ⟨w.heap.size+1,0,none⟩=some (.slice none 0 0):=by simp[World.cell?,q0]
  have f0:w'.frozen? ⟨w.heap.size+1,0,none⟩=false:=by simp[World.frozen?,q0]
  have c1:(w'.setCell ⟨w.heap.size+1,0,none⟩ (Value.slice ta tl tc)).cell? ⟨w.heap.size+1+1,0,none⟩=some (.int .i64 0):=by simp[World.cell?,q1]
  have f1:(w'.setCell ⟨w.heap.size+1,0,none⟩ (Value.slice ta tl tc)).frozen? ⟨w.heap.size+1+1,0,none⟩=false:=by simp[World.frozen?,q1]
  have o1:=i4.own (w.heap.size+1,.cells [(Value.slice ta tl tc)].toArray 91 (0,0)) Aq;have o2:=i4.own (w.heap.size+1+1,.cells [Value.int .i64 0].toArray 28 (0,0)) Aq;have d1:((w'.setCell ⟨w.heap.size+1,0,none⟩ (Value.slice ta tl tc)).setCell ⟨w.heap.size+1+1,0,none⟩ (.int .i64 0)).cell? ⟨w.heap.size+1,0,none⟩=some (Value.slice ta tl tc):=by simp[World.cell?,o1]
  have d2:((w'.setCell ⟨w.heap.size+1,0,none⟩ (Value.slice ta tl tc)).setCell ⟨w.heap.size+1+1,0,none⟩ (.int .i64 0)).cell? ⟨w.heap.size+1+1,0,none⟩=some (.int .i64 0):=by simp[World.cell?,o2]
  refine k _ _ ?_
  go_wp2_with fail
  refine leaves_cons (f:=95) (args:=#[.pointer (some ⟨w.heap.size+1,0,none⟩),.pointer (some ⟨w.heap.size+1+1,0,none⟩)]) Aq (by simp[go_sem]) ?_;refine (aKv ⟨w.heap.size+1,0,none⟩ ⟨w.heap.size+1+1,0,none⟩ _).mono ?_
  rintro e' u' w'' ⟨rfl,rfl,rfl⟩
  simp[Leaves,settle,results,Tryz.results48,go_sem,d1,d2];exact⟨h',by simpa using (i4.eraseIdx 0).eraseIdx 0,⟨⟨ta,tl,tc⟩,rfl,hp⟩⟩
 | panicked c=>
  obtain⟨h',L',i,n,e,rfl⟩:=he;have i2:=i1.call i;have i3:=i2.tail L';refine leaves_cons (f:=95) (args:=#[.pointer (some ⟨w.heap.size+1,0,none⟩),.pointer (some ⟨w.heap.size+1+1,0,none⟩)]) Aq (by simp[go_sem]) ?_;refine (aHs h' (w.heap.size+1) (w.heap.size+1+1) (.slice none 0 0) (.int .i64 0) n w' i3.toSat).mono ?_
  rintro e' u' w'' ⟨rfl,rfl,h2,j⟩
  have i4:=Inv.call (Lb:=[]) i3 j;have o1:=j.own (w.heap.size+1,.cells [.slice none 0 0].toArray 91 (0,0)) Aq;have o2:=j.own (w.heap.size+1+1,.cells [Value.int .i64 n].toArray 28 (0,0)) Aq;have d1:w''.cell? ⟨w.heap.size+1,0,none⟩=some (.slice none 0 0):=by simp[World.cell?,o1]
  have d2:w''.cell? ⟨w.heap.size+1+1,0,none⟩=some (.int .i64 n):=by simp[World.cell?,o2]
  simp[Leaves,settle,results,Tryz.results48,go_sem,d1,d2];exact⟨h2,by simpa using (i4.eraseIdx 0).eraseIdx 0,.inr ⟨n,e,rfl⟩⟩
 | outgrown=>exact False.elim he
end Go.Proofs.Y
/- The program's Poly. -/
namespace Go.Proofs.Y
open Go Go.Vc Go.Dig
def dM(t:Tr):Except Nat Pol:=if bB t then aO t else .error 40
def bBu(h:aA)(v:Value)(r:Except Nat Pol):Prop:=(∃p s,r=.ok p/\v=.tuple #[Sl.val s,.int .i64 0]/\gJ RmW h s p)\/(∃n:Nat,r=.error n/\v=.tuple #[.slice none 0 0,.int .i64 n])
theorem aR4(t:Tr)(d:Nat)(hok:okT d t)(hsz:szT t<=300)(h:aA)(vs:List Value)(tb:Tb h)(pw:Pw h)(w:IsE h vs t):Fn0 T F.q48 [.agg vs.toArray] h fun v h'=>
  (∃p s,aO t=.ok p/\v=.tuple #[Sl.val s,.int .i64 0]/\mM h' s p)\/(∃n:Nat,aO t=.error n/\v=.tuple #[.slice none 0 0,.int .i64 n]):=by
 have hc:=aDk t d hok hsz h vs tb pw w;obtain⟨op,arg,neg,l,m,name,ks⟩:=t;obtain⟨va,vb,sk,rfl,-,-,-,-,-⟩:=w.isK;refine Fn0.make fun w0 s=>(aXu _ _ _ _ _ _ _ h w0 s _ hc).mono fun e w' he=>?_
 obtain⟨v,h',rfl,i,hr⟩:=he;exact⟨h',[],i,rfl,hr⟩
theorem aNk{h':aA}{v:Value}{r:Except Nat Pol}(pg:∀p,r=.ok p->∃S:List (List UInt8),S.length<=300/\PG S p)
  (w:(∃p s,r=.ok p/\v=.tuple #[Sl.val s,.int .i64 0]/\mM h' s p)\/(∃n:Nat,r=.error n/\v=.tuple #[.slice none 0 0,.int .i64 n])):
  ∃(s:Sl) (l:List El) (e:Nat),v=.tuple #[s.val,.int .i64 e]/\Rw h' s 4 (fl l)/\(∀x∈l,TmW h' x)/\(∀x∈l,fits x.q/\x.m.length<=1000000)/\l.length<=200/\((r=.ok (l.map pq)/\e=0)\/(l=[]/\r=.error e)):=by
 rcases w with ⟨p,s,rfl,rfl,l,rfl,rw,tw⟩|⟨n,rfl,rfl⟩
 .obtain⟨S,hS,g⟩:=pg _ rfl;refine⟨s,l,0,rfl,rw,tw,fun x hx=>⟨g.good.fit _ (bJg hx),?_⟩,by have:=g.good.len;rw[bJb] at this;exact this,.inl ⟨rfl,rfl⟩⟩
  have:=g.len _ (bJg hx);dsimp only[pq] at this;omega
 .exact⟨⟨none,0,0⟩,[],n,rfl,⟨rfl,bJf _,fun x=>absurd rfl x⟩,(fun _ h=>by cases h),(fun _ h=>by cases h),bJe _,.inr ⟨rfl,rfl⟩⟩
attribute [local irreducible] Vc.Fn FnP
theorem aHt(t:Tr)(h:aA)(vs:List Value)(tb:Tb h)(pw:Pw h)(w:IsE h vs t):Fn0 T F.q18 [.agg vs.toArray] h fun v h'=>bBu h' v (dM t):=by
 have c1:=fun h tb w=>nJ t h vs tb w
 have c2:=fun (x:bB t) h tb pw w=>aR4 t 1 x.1 x.2 h vs tb pw w
 have f1:bB t->dM t=aO t:=fun x=>if_pos x
 have f2:¬bB t->dM t=.error 40:=fun x=>if_neg x
 have pg:bB t->∀p,aO t=.ok p->∃S:List (List UInt8),S.length<=300/\PG S p:=fun x p e=>by
  obtain⟨S,h1,-,h2⟩:=kB t 1 x.1 e;exact⟨S,bJd h1 x.2,h2⟩
 obtain⟨r,hr⟩:=AH (dM t);rw[<-hr] at f1 f2 ⊢;obtain⟨r0,hr0⟩:=AH (aO t);simp only[<-hr0] at f1 c2 pg;obtain⟨op,arg,neg,l,m,name,ks⟩:=t;have wE:=w;obtain⟨va,vb,sk,rfl,-,-,-,-,-⟩:=w.isK;by_cases hv:bB (.mk op arg neg l m name ks)
 .have c3:=c2 hv;have fr:=f1 hv;have pg':=pg hv;replace c1:∀h:aA,Tb h->IsE h [.int .i64 op,.int .i64 arg,.bool neg,va.val,vb.val,.string (txt name),sk.val] (.mk op arg neg l m name ks)->Fn0 T F.q36 [.agg #[.int .i64 op,.int .i64 arg,.bool neg,va.val,vb.val,.string (txt name),sk.val]] h fun v h'=>v=.bool true:=fun h tb w=>by
   have:=c1 h tb w;rw[aX hv] at this;exact this
  clear c2 f1 f2 pg;refine f0C ok D.q18 rfl ?_;conv=>whnf
  repeat' ((first|(show LdN _ _ _ _ _;refine LdN.oA 0 rfl rfl ?_)|(show CN _ _ _ _ _ _;first|(refine CN.f rfl (c1 _ Ab (wE.mono Ad)) (fun v h' hl hr'=>?_);obtain rfl:=hr')|(refine CN.f rfl (c3 _ Af (pw.mono Ab) (wE.mono Ab)) (fun v h' hl2 hr'=>?_);obtain⟨s,l,e,rfl,rw,tw,fw,hlen,hfin⟩:=aNk pg' hr'))|((first|apply oI.z|apply cI.z))|intro (_:Nat))<;>conv=>whnf)
  rename_i hm _ _;have hs:s.l=l.length:=by have:=rw.len;rw[bK] at this;omega
  refine LpN.of (fun k ρ hx L=>∃(i:Nat) (M:List El) (v:Value),k=l.length-i/\h'.le hx/\i<=l.length/\rd ρ 21=.int .i64 i/\rd ρ 6=v/\aF 74 4 v i (fl M) L/\(i=0->v=.slice none 0 0)/\M.length=i/\Hq (M.map pq=(l.take i).map pq)/\Hq (∀x∈M,RmW hx x)) l.length
   ⟨0,[],_,rfl,aA.lr _,bJe _,rfl,rfl,aF.nil _ _ _,fun _=>rfl,rfl,⟨rfl⟩,⟨fun x hx=>by cases hx⟩⟩ ?_
  conv=>whnf
  repeat intro _
  rename_i q2 h2 L2 hI;obtain⟨i,M,v,rfl,hle,hi,e21,e6,g,hnil,hM,⟨hq⟩,⟨hw⟩⟩:=hI;conv at e6=>lhs;whnf
  subst e6;conv at e21=>lhs;whnf
  subst e21;have rwx:=rw.mono hle;by_cases hil:i=l.length
  .conv=>whnf
   repeat' ((first|((first|apply oI.z|apply cI.z))|(apply aB<;>intro _<;>try (exfalso;omega)))<;>conv=>whnf)
   refine RN.growE (K:=RmW) g hw fun h' s' hl' e' w'=>?_
   rcases hfin with ⟨h1,h2⟩|⟨h1,h2⟩
   .subst h2;rw[hq,hil,bI4] at w';exact .inl ⟨_,s',fr.trans h1,by rw[e'];rfl,w'⟩
   .subst h1;rw[hnil hil];exact .inr ⟨e,fr.trans h2,rfl⟩
  .obtain⟨x,hx⟩:∃t,l[i]?=some t:=⟨_,bIq Aa⟩
   have hxm:=bIu hx;have wx:=(tw x hxm).mono hle;have fx:=fw x hxm;have hsn:=aY hx;obtain⟨xn,xa,xd,xf,xm,xq⟩:=x;obtain rfl:xn=sg xq:=wx.sg;dsimp only at fx;have c5:=fun h w=>jZ h xa xd xq w ((vU fx.1).mono Ae)
   have o5:eO xq=(xq,0):=if_pos fx.1;simp only[o5] at c5;have c6:=fun h w=>aRw h xf xm w fx.2
   have wq:=wx.fr;have wf:=wx.fac.rw;conv=>whnf
   repeat' ((first|(show Idx _ _ _ _ _;refine Idx.el rwx i _ Aa hx (fun ab ao aw=>?_))|(show LdN _ _ _ _ _;first|(refine LdN.el4 aw Ad ?_)|refine LdN.oA 0 rfl rfl ?_)|(show DrN _ _ _ _ _ _;refine DrN.own [_] (List.Sublist.cons_cons _ (bJ9 _)) Ak ?_)|refine⟨fun _=>⟨aJ.o (aA.lr _),List.singleton_sublist.2 (hA _ (bIz _ (bIw)))⟩,?_⟩|(refine⟨fun _=>⟨aJ.o As,by repeat first|exact bJ9 _|apply List.Sublist.cons_cons|refine List.Sublist.trans ?_ (bK6 _ _)|apply List.Sublist.cons⟩,?_⟩)|((first|apply oI.z|apply cI.z))|intro (_:Nat)|(show CN _ _ _ _ _ _;first|(refine CN.keep0 rfl (fun h3 hl3 hb3=>?_);refine CN.f rfl (c5 _ (wq.mono Ab)) (fun v h' hl hr'=>?_);obtain⟨ga,gb,rfl,gw⟩:=hr')|(refine CN.f rfl (c6 _ (wf.mono Ac)) (fun v h' hl hr'=>?_);obtain⟨sj,rfl,hj'⟩:=hr'))|(show Ld _ _ _ _;refine Ld.of (v:=xf.val) (Has.imm ((by assumption:aA.le h3 _) _ _ hb3) rfl) ?_)|(show App _ _ _ _ _ _ _ _ _;refine App.growM (A:=[_,_]) (Fx:=L2) (size:=4) (bytes:=80) (z:=[.bool false,.slice none 0 0,.slice none 0 0,.slice none 0 0]) rfl rfl g ⟨_,0,none⟩ 1 1 [_,_,_,_] rfl (Has.four _) rfl Ae Aa Aa Ae (fun v' F' g' hA=>?_))|refine WN.i64 Aa Aa ?_|refine Sto.l 0 rfl rfl rfl ?_|(apply aB<;>intro _<;>try (exfalso;omega)))<;>conv=>whnf)
   have g2:=aF.el (x:=⟨sg xq,ga,gb,sj,xm,xq⟩) g';refine⟨rfl,l.length-(i+1),Aa,i+1,M++[⟨sg xq,ga,gb,sj,xm,xq⟩],v',rfl,Ac,Aa,vi Aa,rfl,g2,fun z=>absurd z Aa,by rw[bIo,hM];rfl,⟨?_⟩,⟨fun x hx=>?_⟩⟩
   .rw[bI3,hq,hsn,bI3];rfl
   .rcases bIx.1 hx with hx|hx
    .exact UpE.up Ac (hw x hx)
    .rw[bI2] at hx;subst hx;exact⟨gw.mono Ab,rfl,⟨hj',wx.fac.len⟩⟩
 .rw[f2 hv];replace c1:∀h:aA,Tb h->IsE h [.int .i64 op,.int .i64 arg,.bool neg,va.val,vb.val,.string (txt name),sk.val] (.mk op arg neg l m name ks)->Fn0 T F.q36 [.agg #[.int .i64 op,.int .i64 arg,.bool neg,va.val,vb.val,.string (txt name),sk.val]] h fun v h'=>v=.bool false:=fun h tb w=>by
   have:=c1 h tb w;rw[aH hv] at this;exact this
  clear c2 f1 f2 pg;refine f0C ok D.q18 rfl ?_;conv=>whnf
  repeat' ((first|(show LdN _ _ _ _ _;refine LdN.oA 0 rfl rfl ?_)|(show CN _ _ _ _ _ _;(refine CN.f rfl (c1 _ Ab (wE.mono Ad)) (fun v h' hl hr'=>?_);obtain rfl:=hr'))|((first|apply oI.z|apply cI.z))|intro (_:Nat))<;>conv=>whnf)
  exact RN.a (.inr ⟨40,rfl,rfl⟩)
end Go.Proofs.Y
/- Forms handed out, in plain words. -/
namespace Go.Proofs.Y
open Go Go.Vc Go.Dig
structure aR5 (p:Pol):Prop where
 fit:∀t∈p,fits t.2
 len:p.length<=200
theorem aKw(t:Tr):∃(p:Pol) (e:Nat),aR5 p/\((dM t=.ok p/\e=0)\/(p=[]/\dM t=.error e))/\∀h v,bBu h v (dM t)->∃s:Sl,v=.tuple #[s.val,.int .i64 e]/\gJ RmW h s p:=by
 cases hr:dM t with
 | error n=>
  refine⟨[],n,⟨(fun t h=>by cases h),bJe _⟩,.inr ⟨rfl,rfl⟩,fun h v w=>?_⟩
  rcases w with ⟨p,s,e,-⟩|⟨m,e,hv⟩
  .cases e
  .cases e
   exact⟨⟨none,0,0⟩,hv,[],rfl,Rw.nil _ _,fun x hx=>by cases hx⟩
 | ok p=>
  have hv:bB t:=Classical.byContradiction fun hn=>by unfold dM at hr;rw[if_neg hn] at hr;cases hr
  have hr2:aO t=.ok p:=by unfold dM at hr;rw[if_pos hv] at hr;exact hr
  obtain⟨S,-,-,g⟩:=kB t 1 hv.1 hr2;refine⟨p,0,⟨g.good.fit,g.good.len⟩,.inl ⟨rfl,rfl⟩,fun h v w=>?_⟩
  rcases w with ⟨p',s,e,hv,w⟩|⟨m,e,hv⟩
  .cases e
   exact⟨s,hv,w⟩
  .cases e
theorem aE8{t:Tr}{n:Nat}(h:dM t=.error n):n≠0:=by
 unfold dM at h
 split at h
 .rename_i hv;exact aCu t (aG2 hv.1) h
 .cases h;decide
theorem uI{t:Tr}{p:Pol}(h:dM t=.ok p):aR5 p:=by
 obtain⟨q,e,hb,⟨h1,-⟩|⟨-,h1⟩,-⟩:=aKw t
 .rw[h] at h1;cases h1;exact hb
 .rw[h] at h1;cases h1
theorem aHu{t u:Tr}(h:¬bB t\/¬bB u):dI t u=(false,40):=by unfold dI;rw[if_neg];exact fun x=>h.elim (fun y=>y x.1) fun y=>y x.2
theorem aXv{t u:Tr}{n:Nat}(a:bB t)(b:bB u)(h:dM t=.error n):dI t u=(false,n):=by
 unfold dM at h;rw[if_pos a] at h;unfold dI;rw[if_pos ⟨a,b⟩,h]
theorem aXw{t u:Tr}{n:Nat}{p:Pol}(a:bB t)(b:bB u)(h:dM t=.ok p)(h':dM u=.error n):dI t u=(false,n):=by
 unfold dM at h h';rw[if_pos a] at h;rw[if_pos b] at h';unfold dI;rw[if_pos ⟨a,b⟩,h,h']
theorem aXx{t u:Tr}{p q:Pol}(a:bB t)(b:bB u)(h:dM t=.ok p)(h':dM u=.ok q):dI t u=(dec (p=q),0):=by
 unfold dM at h h';rw[if_pos a] at h;rw[if_pos b] at h';unfold dI;rw[if_pos ⟨a,b⟩,h,h'];unfold dec;rfl
def bH3(h:aA)(v:Value)(t:Tr):Prop:=(∃p s,dM t=.ok p/\v=.tuple #[Sl.val s,.int .i64 0]/\gJ RmW h s p)\/(∃n:Nat,n≠0/\dM t=.error n/\v=.tuple #[.slice none 0 0,.int .i64 n])
theorem bBv{h:aA}{v:Value}{t:Tr}(w:bBu h v (dM t)):bH3 h v t:=by
 rcases w with w|⟨n,e,hv⟩
 .exact .inl w
 .exact .inr ⟨n,aE8 e,e,hv⟩
end Go.Proofs.Y
/- The program's Congruent: factors that are equal. -/
namespace Go.Vc
open Go Go.Dig
theorem Inv.drewN{w0 w:World}{h0 h:aA}{L0 L:Vc.Own}(i:Inv w0 h0 L0 h L w)(n:Nat):Inv w0 h0 L0 h L (w.drewN n):=
 ⟨⟨i.imm,i.own,i.sep,i.nd⟩,i.os,i.tape,i.output,i.size,i.fr,i.hle,i.hnew,i.lnew,i.lsoft,i.frz⟩
end Go.Vc
namespace Go.Proofs.Y
open Go Go.Vc Go.Dig
def aNl(x y:Fac):Bool:=decide (x=y)
theorem bEo(x y:Fac)(w:World):(binOp .neq 79 (.agg (vV x).toArray) (.agg (vV y).toArray)).run Tryz.prog w=.ok (.bool (!aNl x y)) w:=by
 have hf : (Tryz.prog.fieldsOf 79).toList = [{ name := "Atom", type := 9, offset := 0, embedded := false, tag := "", pkgPath := "", byteOffset := 0 }, { name := "Exp", type := 3, offset := 1, embedded := false, tag := "", pkgPath := "", byteOffset := 16 }] := by kernel_rfl
 rw[run_neq_struct,run_equalIn_agg w 9999 _ _ _ (by kernel_rfl) (by kernel_rfl),hf];simp[Op.eqFields,go_sem,vV,fcv];obtain⟨a,i⟩:=x;obtain⟨b,j⟩:=y;unfold aNl;by_cases h1:a=b
 .by_cases h2:i=j
  .subst h1;subst h2;simp
  .simp[h1,h2];omega
 .simp[h1]
theorem aPu:∀a b:Mon,Lib.allEq aNl a b=dec (a=b)
 | [],[]=>(aX rfl).symm
 | [],y::b=>(aH (fun e=>by cases e)).symm
 | x::a,[]=>(aH (fun e=>by cases e)).symm
 | x::a,y::b=>by
  show (aNl x y && Lib.allEq aNl a b)=_
  rw[aPu a b];unfold dec aNl;by_cases h1:x=y<;>by_cases h2:a=b<;>simp[h1,h2]
theorem aE9{h:aA}{L:Vc.Own}{w:World}(s:Sat h L w){b off:Nat}{m:Mon}{c:Array Value}{T0:TypeId}{fz:Nat × Nat}(h2:h b=some (.cells c T0 fz))(h3:∀i,i<(fcs m).length->c[off+i]?=(fcs m)[i]?):
  ∀j,j<m.length->∀i v,(vV m[j]!)[i]?=some v->w.cell? ⟨b,off+j*2+i,none⟩=some v:=fun j hj i v hv=>by
 have hi:i<2:=(bIr.1 hv).1;have hw:=s.imm _ _ h2;have hl:=cR m;simp only[World.cell?,hw];rw[bKd,h3 _ Aa,aAo (t:=m[j]!) (by rw[getElem!_pos m j hj,bIq hj]) i hi];exact hv
theorem bEp(h:aA)(s1 s2:Sl)(a b:Mon)(w1:Rw h s1 2 (fcs a))(w2:Rw h s2 2 (fcs b))(hb:a.length<=1099511627776)(hb2:b.length<=1099511627776):Fn0 T F.q40 [s1.val,s2.val] h fun v h'=>v=.bool (dec (a=b)):=by
 have hl1:s1.l=a.length:=by have:=w1.len;rw[cR] at this;omega
 have hl2:s2.l=b.length:=by have:=w2.len;rw[cR] at this;omega
 by_cases hne:a.length=b.length
 .by_cases h0:a.length=0
  .have e:a=b:=by rw[bJp.1 h0,bJp.1 (hne.symm.trans h0)]
   rw[aX e];refine f0C ok D.q40 rfl ?_;conv=>whnf
   repeat' first|((first|((first|apply oI.z|apply cI.z)))<;>conv=>whnf)|(show cnd _ _ _;first|(apply aD<;>intro _<;>first|(exfalso;omega)|conv=>whnf)|(refine aI ?_))
   refine LpN.of (fun r ρ hx L=>rd ρ 13=.int .i64 0) 0 rfl ?_
   conv=>whnf
   repeat intro _
   rename_i q2 h2 L2 hI;conv at hI=>lhs;whnf
   subst hI;conv=>whnf
   repeat' ((first|((first|apply oI.z|apply cI.z))|(apply aB<;>intro _<;>try (exfalso;omega)))<;>conv=>whnf)
   exact RN.a rfl
  .obtain⟨c1,o1,k1,T1,f1,g1,g2,g3⟩:=w1.mem (fun e=>h0 (by have:=cR a;rw[e] at this;simp at this;omega))
   obtain⟨c2,o2,k2,T2,f2,g4,g5,g6⟩:=w2.mem (fun e=>h0 (by have:=cR b;rw[e] at this;simp at this;omega))
   obtain⟨a1,n1,d1⟩:=s1;obtain⟨a2,n2,d2⟩:=s2;dsimp only at g1 g4 hl1 hl2;subst g1 g4 hl1 hl2;refine Fn0.make fun w s=>?_
   have hcon:=AnyQ.slices_Equal Tryz.equalFL 2 (fun _=>by kernel_rfl) (fun _=>by kernel_rfl) vV (fun _=>rfl) aNl ⟨bEo,GuardAt.agg (fun x=>(vV x).toArray) (by kernel_rfl)⟩ c1 o1 a.length d1 c2 o2 b.length d2 a b w (bJf _) (bJf _) Aa Aa (aE9 s g2 g3) (aE9 s g5 g6)
   change Calls Tryz.prog 40 _ _ _ at hcon
   refine hcon.mono fun e w' he=>?_
   obtain⟨rfl,q,rfl⟩:=he;refine⟨h,[],(Inv.init s).drewN q,rfl,?_⟩;rw[bI4,bI4,aPu]
 .have e:a≠b:=fun e=>hne (by rw[e])
  rw[aH e];refine f0C ok D.q40 rfl ?_;conv=>whnf
  repeat' first|((first|((first|apply oI.z|apply cI.z)))<;>conv=>whnf)|(show cnd _ _ _;first|(apply aD<;>intro _<;>first|(exfalso;omega)|conv=>whnf)|(refine aI ?_))
  exact RN.a rfl
attribute [local irreducible] Vc.Fn FnP
theorem aXy(h:aA)(tb:Tb h)(x y:El)(wx:RmW h x)(wy:RmW h y)(fx:fits x.q)(fy:fits y.q):Fn0 T F.q38 [.agg x.cells.toArray,.agg y.cells.toArray] h fun v h'=>v=.bool (dec (pq x=pq y)):=by
 obtain⟨xn,xa,xd,xf,xm,xq⟩:=x;obtain rfl:xn=sg xq:=wx.sg;obtain⟨yn,ya,yd,yf,ym,yq⟩:=y;obtain rfl:yn=sg yq:=wy.sg;dsimp only at fx fy;have c1:=fun h tb w w'=>aIv h (sg xq) xa xd (sg yq) ya yd (some xq) (some yq) tb w w'
 have v1:=wx.q.isnum fx;have v2:=wy.q.isnum fy;dsimp only at v1 v2;have xfw:=wx.fac.rw;have yfw:=wy.fac.rw;dsimp only at xfw yfw;have c2:=fun h w w'=>bEp h xf yf xm ym w w' wx.fac.len wy.fac.len
 obtain⟨C,hC⟩:=AH (eX xq yq);have hC0:C=0↔xq=yq:=by rw[hC];exact jY
 replace c1:∀h,Tb h->bP h (sg xq) xa xd (some xq)->bP h (sg yq) ya yd (some yq)->Fn0 T F.q39 [.agg #[.bool (sg xq),xa.val,xd.val],.agg #[.bool (sg yq),ya.val,yd.val]] h fun v _=>v=.tuple #[.int .i64 C,.int .i64 0]:=fun h tb w w'=>by
  have:=c1 h tb w w';rw[show (aTj (some xq) (some yq))=(C,0) by rw[hC];rfl] at this
  exact this
 obtain⟨B0,hB⟩:=AH (dec (pq (⟨sg xq,xa,xd,xf,xm,xq⟩:El)=pq (⟨sg yq,ya,yd,yf,ym,yq⟩:El)));have bT:xm=ym->C=0->B0=true:=fun a b=>hB.trans (aX (by rw[show pq (⟨sg xq,xa,xd,xf,xm,xq⟩:El)=(xm,xq) from rfl,a,hC0.1 b];rfl))
 have bF:¬(xm=ym)->B0=false:=fun a=>hB.trans (aH fun e=>a (Prod.mk.inj e).1)
 have bG:C≠0->B0=false:=fun a=>hB.trans (aH fun e=>a (hC0.2 (Prod.mk.inj e).2))
 rw[<-hB];clear hB hC hC0;refine f0C ok D.q38 rfl ?_;conv=>whnf
 repeat' ((first|(show LdN _ _ _ _ _;first|refine LdN.oA 0 rfl rfl ?_|refine LdN.oA 1 rfl rfl ?_)|(show CN _ _ _ _ _ _;first|(refine CN.f rfl (c1 _ Ab (v1.mono Ad) (v2.mono Ad)) (fun v h' hl hr=>?_);subst hr)|(refine CN.f rfl (c2 _ (xfw.mono Ab) (yfw.mono Ab)) (fun v h' hl hr=>?_);subst hr))|((first|apply oI.z|apply cI.z))|intro (_:Nat)|(show Ld _ _ _ _;first|refine Ld.o 0 rfl rfl ?_|refine Ld.o 1 rfl rfl ?_)|(apply aD<;>intro _<;>try (exfalso;omega)))<;>conv=>whnf)
 all_goals first
  | exact RN.a (by rw[bG Aa])
  | exact RN.a (congrArg Value.bool (by
      by_cases e:xm=ym
      .rw[aX e,bT e Aa]
      .rw[aH e,bF e]))
theorem bEq(h:aA)(tb:Tb h)(s1 s2:Sl)(p1 p2:Pol)(w1:gJ RmW h s1 p1)(w2:gJ RmW h s2 p2)(b1:aR5 p1)(b2:aR5 p2):Fn0 T F.q37 [s1.val,s2.val,.func (.func F.q38) #[] #[]] h fun v h'=>v=.bool (dec (p1=p2)):=by
 obtain⟨l1,e1,r1,t1⟩:=w1;obtain⟨l2,e2,r2,t2⟩:=w2;have n1:p1.length=l1.length:=by rw[<-e1,bJb]
 have n2:p2.length=l2.length:=by rw[<-e2,bJb]
 have hl1:l1.length<=200:=by have:=b1.len;omega
 have hl2:l2.length<=200:=by have:=b2.len;omega
 have z1:∀x∈l1,fits x.q:=fun x hx=>b1.fit (pq x) (by rw[<-e1];exact bJg hx)
 have z2:∀x∈l2,fits x.q:=fun x hx=>b2.fit (pq x) (by rw[<-e2];exact bJg hx)
 have hs1:s1.l=l1.length:=by have:=r1.len;rw[bK] at this;omega
 have hs2:s2.l=l2.length:=by have:=r2.len;rw[bK] at this;omega
 obtain⟨B0,hD⟩:=AH (dec (p1=p2));have dT:p1=p2->B0=true:=fun x=>hD.trans (aX x)
 have dF:p1≠p2->B0=false:=fun x=>hD.trans (aH x)
 rw[<-hD];clear hD b1 b2;by_cases hne:l1.length=l2.length
 .have nf:∀(i:Nat) (x y:El),l1[i]?=some x->l2[i]?=some y->pq x≠pq y->p1≠p2:=fun i x y hx hy hn e=>hn (by
    rw[<-e1,<-e2] at e;have:=congrArg (fun l=>l[i]?) e
    simp only[bKo,hx,hy,bLz] at this;exact Option.some.inj this)
  refine f0C ok D.q37 rfl ?_;conv=>whnf
  repeat' first|((first|((first|apply oI.z|apply cI.z)))<;>conv=>whnf)|(show cnd _ _ _;first|(apply aD<;>intro _<;>first|(exfalso;omega)|conv=>whnf)|(refine aI ?_))
  refine LpN.of (fun r ρ hx L=>∃(i:Nat),r=l1.length-i/\h.le hx/\i<=l1.length/\rd ρ 17=.int .i64 i/\Hq ((l1.take i).map pq=(l2.take i).map pq)) l1.length
   ⟨0,rfl,aA.lr _,bJe _,rfl,⟨rfl⟩⟩ ?_
  conv=>whnf
  repeat intro _
  rename_i q2 h2 L2 hI;obtain⟨i,rfl,hle,hi,e17,⟨hq⟩⟩:=hI;conv at e17=>lhs;whnf
  subst e17;have r1x:=r1.mono hle;have r2x:=r2.mono hle;replace tb:=tb.mono hle;by_cases hil:i=l1.length
  .rw[hil,bI4,hne,bI4,e1,e2] at hq;have j:=dT hq;conv=>whnf
   repeat' ((first|((first|apply oI.z|apply cI.z))|(apply aB<;>intro _<;>try (exfalso;omega)))<;>conv=>whnf)
   exact RN.a (by rw[j])
  .obtain⟨x,hx⟩:∃t,l1[i]?=some t:=⟨_,bIq Aa⟩
   obtain⟨y,hy⟩:∃t,l2[i]?=some t:=⟨_,bIq Aa⟩
   have wx:RmW h2 x:=UpE.up hle (t1 x (bIu hx));have wy:RmW h2 y:=UpE.up hle (t2 y (bIu hy));have zx:=z1 x (bIu hx);have zy:=z2 y (bIu hy);have nx:=nf i x y hx hy;have hsx:=aY hx;have hsy:=aY hy;have c1:=fun h tb w w'=>aXy h tb x y w w' zx zy
   obtain⟨C,hC⟩:=AH (dec (pq x=pq y));have cT:C=true->pq x=pq y:=fun e=>Classical.byContradiction fun n=>by rw[hC,aH n] at e;cases e
   have cF:C=false->pq x≠pq y:=fun e n=>by rw[hC,aX n] at e;cases e
   rw[<-hC] at c1;clear hC;conv=>whnf
   repeat' first|((first|(show Idx _ _ _ _ _;first|refine Idx.el r1x i _ Aa hx (fun ab ao aw=>?_)|refine Idx.el r2x i _ Aa hy (fun bb bo bw=>?_))|(show LdN _ _ _ _ _;first|(refine LdN.el4 aw Ad ?_)|(refine LdN.el4 bw Ad ?_)|refine LdN.oA 0 rfl rfl ?_|refine LdN.oA 1 rfl rfl ?_)|(show CN _ _ _ _ _ _;(refine CN.f rfl (c1 _ Ab (UpE.up Ad wx) (UpE.up Ad wy)) (fun v h' hl hr=>?_);subst hr))|((first|apply oI.z|apply cI.z))|intro (_:Nat)|refine WN.i64 Aa Aa ?_|refine Sto.l 0 rfl rfl rfl ?_)<;>conv=>whnf)|(show cnd _ _ _;first|(apply aB<;>intro _<;>first|(exfalso;omega)|conv=>whnf)|(refine aI ?_)|(refine bO (fun hb=>?_) (fun hb=>?_)<;>(first|cases hb|subst hb)<;>(conv=>whnf)))
   all_goals first
    | exact⟨rfl,l1.length-(i+1),Aa,i+1,rfl,Ac,Aa,vi Aa,⟨by
        rw[hsx,hsy,bI3,bI3,hq];show _++[pq x]=_++[pq y];rw[cT (by first|assumption|rfl)]⟩⟩
    | (have j:=dF (nx (cF (by first|assumption|rfl)))
       exact RN.a (by rw[j]))
 .have j:=dF (fun e=>hne (by rw[<-n1,<-n2,e]))
  refine f0C ok D.q37 rfl ?_;conv=>whnf
  repeat' first|((first|((first|apply oI.z|apply cI.z)))<;>conv=>whnf)|(show cnd _ _ _;first|(apply aD<;>intro _<;>first|(exfalso;omega)|conv=>whnf)|(refine aI ?_))
  exact RN.a (by rw[j])
end Go.Proofs.Y
/- The program's Congruent. -/
namespace Go.Proofs.Y
open Go Go.Vc Go.Dig
attribute [local irreducible] Vc.Fn FnP
theorem eU(t u:Tr)(h:aA)(vs us:List Value)(tb:Tb h)(pw:Pw h)(w:IsE h vs t)(w2:IsE h us u):Fn0 T F.q11 [.agg vs.toArray,.agg us.toArray] h fun v h'=>v=.tuple #[.bool (dI t u).1,.int .i64 ((dI t u).2:Nat)]:=by
 have c1:=fun h tb w=>nJ t h vs tb w
 have c2:=fun h tb w=>nJ u h us tb w
 have c3:=fun h tb pw w=>aHt t h vs tb pw w
 have c4:=fun h tb pw w=>aHt u h us tb pw w
 obtain⟨X,hX⟩:=AH (dI t u);have k0:¬bB t->X=(false,40):=fun x=>hX.trans (aHu (.inl x))
 have k0':¬bB u->X=(false,40):=fun x=>hX.trans (aHu (.inr x))
 have k1:∀n,bB t->bB u->dM t=.error n->X=(false,n):=fun n a b c=>hX.trans (aXv a b c)
 have k2:∀p n,bB t->bB u->dM t=.ok p->dM u=.error n->X=(false,n):=fun p n a b c d=>hX.trans (aXw a b c d)
 have k3:∀p q,bB t->bB u->dM t=.ok p->dM u=.ok q->X=(dec (p=q),0):=fun p q a b c d=>hX.trans (aXx a b c d)
 rw[<-hX];clear hX;obtain⟨⟨o1,g1,e1,l1,m1,i1,ks1⟩,ht⟩:=AH t;obtain⟨a1,b1,z1,hvs,-⟩:=(ht.symm▸w:IsE h vs (.mk o1 g1 e1 l1 m1 i1 ks1)).isK;obtain⟨⟨o2,g2,e2,l2,m2,i2,ks2⟩,hu⟩:=AH u;obtain⟨a2,b2,z2,hus,-⟩:=(hu.symm▸w2:IsE h us (.mk o2 g2 e2 l2 m2 i2 ks2)).isK;subst hvs;subst hus;clear ht hu;refine f0C ok D.q11 rfl ?_;conv=>whnf
 repeat' first|((first|(show LdN _ _ _ _ _;first|refine LdN.oA 0 rfl rfl ?_|refine LdN.oA 1 rfl rfl ?_)|((first|apply oI.z|apply cI.z))|intro (_:Nat))<;>conv=>whnf)|(show CN _ _ _ _ _ _;(first|(refine CN.f rfl (c1 _ Ab (w.mono Ad)) (fun v h' hl hr=>?_);subst hr)|(refine CN.f rfl (c2 _ Af (w2.mono Ab)) (fun v h' hl hr=>?_);subst hr)|(refine CN.f rfl (c3 _ Af (pw.mono Ac) (w.mono Ac)) (fun v h' hl hr=>?_);obtain⟨p1,s1,h1,rfl,x1⟩|⟨n1,hn1,h1,rfl⟩:=bBv hr)|(refine CN.f rfl (c4 _ Af (pw.mono Ac) (w2.mono Ac)) (fun v h' hl hr=>?_);obtain⟨p2,s2,h2,rfl,x2⟩|⟨n2,hn2,h2,rfl⟩:=bBv hr)|(refine CN.f rfl (bEq _ Af s1 s2 p1 p2 (x1.mono Ab) (x2.mono Ad) (uI h1) (uI h2)) (fun v h' hl hr=>?_);subst hr))<;>conv=>whnf)|(show cnd _ _ _;first|(apply aD<;>intro _<;>first|(exfalso;omega)|conv=>whnf)|(refine aI ?_)|(apply aU<;>intro _<;>first|(exfalso;omega)|conv=>whnf))
 all_goals first
  | exact RN.a (by rw[k3 _ _ Ab Ab h1 h2];rfl)
  | exact RN.a (by rw[k2 _ _ Ab Ab h1 h2];rfl)
  | exact RN.a (by rw[k1 _ Ab Ab h1];rfl)
  | exact RN.a (by rw[k0 Ab];rfl)
  | exact RN.a (by rw[k0' Ab];rfl)
end Go.Proofs.Y