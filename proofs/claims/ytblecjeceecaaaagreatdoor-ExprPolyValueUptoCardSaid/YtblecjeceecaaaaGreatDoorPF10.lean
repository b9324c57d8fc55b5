/- A failure of the form is caught: formed; Poly. -/
import Derived.Test.YtblecjeceecaaaaGreatDoorPF8
set_option linter.all false
set_option maxHeartbeats 4000000
set_option maxRecDepth 100000
namespace Go.Vc
open Go
theorem Inv.tail{w0 w:World}{h0 h:aA}{L0 B:Vc.Own}:∀(A:Vc.Own),Inv w0 h0 L0 h (A++B) w->Inv w0 h0 L0 h B w
 | [],i=>i
 | _::A,i=>Inv.tail A (i.eraseIdx 0)
end Go.Vc
namespace Go.Proofs.Y
open Go Go.Vc Go.Dig
theorem aKv(p q:Addr)(w:World):CallsD Tryz.prog 95 #[.pointer (some p),.pointer (some q)] .returning w fun e u' w'=>e=.returned (.tuple #[])/\u'=.returning/\w'=w:=by
 refine callsD_of_wpS Tryz.func95 rfl fun c₀ cs hu=>?_
 apply wpS_seq
 apply wpS_region
 simp[wpOpsS,go_sem,recoverD,hu,Tryz.ntmps95,Exit.thenS];refine wpS_of_wp ?_
 go_wp2
 cases c₀
 simp_all [bodyPostS,results,Tryz.results95]
theorem aHs(h:aA)(b c:Nat)(x y:Value)(i:Int)(w:World)(s:Sat h [(b,.cells [x].toArray 91 (0,0)),(c,.cells [y].toArray 28 (0,0))] w):
  CallsD Tryz.prog 95 #[.pointer (some ⟨b,0,none⟩),.pointer (some ⟨c,0,none⟩)] (.panicking [{ v:=.iface 150 (.agg #[.int .i64 i]),recovered:=false }]) w fun e u' w'=>e=.returned (.tuple #[])/\u'=.panicking [{ v:=.iface 150 (.agg #[.int .i64 i]),recovered:=true }]/\
   ∃h',Inv w h [(b,.cells [x].toArray 91 (0,0)),(c,.cells [y].toArray 28 (0,0))] h' [(b,.cells [.slice none 0 0].toArray 91 (0,0)),(c,.cells [.int .i64 i].toArray 28 (0,0))] w':=by
 have hta:∀w:World,(Instr.typeAssert (Value.iface 150 (Value.agg #[Value.int IntKind.i64 i])) 20 150 true).run Tryz.prog w=.ok (.tuple #[.agg #[.int .i64 i],.bool true]) w:=fun _=>by kernel_rfl
 have inv2:=(Inv.init s).alloc (.cells [.int .i64 i].toArray 150 (0,0)) rfl;refine callsD_of_wpS Tryz.func95 rfl fun c₀ cs hu=>?_
 apply wpS_seq
 apply wpS_region
 simp[wpOpsS,go_sem,recoverD,hu,Tryz.ntmps95,Exit.thenS];refine wpS_of_wp ?_
 go_wp2
 rename_i Q9 z1 z2;have ea:(#[Value.pointer (some ⟨b,0,none⟩),Value.pointer (some ⟨c,0,none⟩)]++((((((Array.replicate 11 undef).setIfInBounds 3 (Value.iface 150 (Value.agg #[Value.int IntKind.i64 i]))).setIfInBounds 5 (Value.bool false)).setIfInBounds 6 (Value.tuple #[Value.agg #[Value.int IntKind.i64 i],Value.bool true])).setIfInBounds 7 (Value.bool true)).setIfInBounds 8 (Value.agg #[Value.int IntKind.i64 i])).setIfInBounds 1 (Value.pointer (some ⟨w.heap.size,0,none⟩))) =
  [.pointer (some ⟨b,0,none⟩),.pointer (some ⟨c,0,none⟩),undef,.pointer (some ⟨w.heap.size,0,none⟩),undef,.iface 150 (.agg #[.int .i64 i]),undef,.bool false,.tuple #[.agg #[.int .i64 i],.bool true],.bool true,.agg #[.int .i64 i],undef,undef].toArray:=by
  simp[Array.replicate_succ]
 rw[ea];refine aA5 (T:=T) (w0:=w) (h0:=h) (L0:=[(b,.cells [x].toArray 91 (0,0)),(c,.cells [y].toArray 28 (0,0))]) ok _ (fun e ρ' h' L'=>match e with|.normal=>L'=[(w.heap.size,.cells [.int .i64 i].toArray 150 (0,0)),(b,.cells [.slice none 0 0].toArray 91 (0,0)),(c,.cells [.int .i64 i].toArray 28 (0,0))]|_=>False) _ [.pointer (some ⟨b,0,none⟩),.pointer (some ⟨c,0,none⟩),undef,.pointer (some ⟨w.heap.size,0,none⟩),undef,.iface 150 (.agg #[.int .i64 i]),undef,.bool false,.tuple #[.agg #[.int .i64 i],.bool true],.bool true,.agg #[.int .i64 i],undef,undef] h _ _ ?_ (fun hr=>hr.elim) (fun _ _ _ _ _ _ hp=>hp.elim) (fun c ρ ρ' w hh=>⟨rfl,hh.2⟩) inv2 ?_
 .intro e ρ' h' L' w' inv hq;cases e with
  | normal=>
   subst hq;exact⟨rfl,_,rfl,.tuple #[],by simp[results,Tryz.results95],rfl,rfl,h',inv.eraseIdx 0⟩
  | exit id=>exact hq.elim
  | ret=>exact hq.elim
 .refine (?_:cI T _ _ _ _ _).x;conv=>whnf
  repeat ((first|apply oI.z|apply cI.z);conv=>whnf)
  repeat' first|((first|(show DrN _ _ _ _ _ _;refine DrN.each Ak ?_)|refine Ld.o 0 rfl rfl ?_|(show Sto _ _ _ _;first|refine Sto.l 1 rfl rfl rfl ?_|refine Sto.l 2 rfl rfl rfl ?_)|refine⟨fun _=>aJ.o (aA.lr _),?_⟩|refine⟨fun hst=>(by cases (show true=false from hst)),?_⟩|fail)<;>conv=>whnf)|(refine rY.mk ?_ ?_<;>(conv=>whnf))
  all_goals rfl
theorem aXu(a0 a1 a2 a3 a4 a5 a6:Value)(h:aA)(w:World)(s:Sat h [] w)(r:Except Nat Pol)(hc:FP F.q96 [.agg #[a0,a1,a2,a3,a4,a5,a6]] h r):Calls Tryz.prog 48 #[.agg #[a0,a1,a2,a3,a4,a5,a6]] w fun e w'=>∃v h',e=.returned v/\Inv w h [] h' [] w'/\((∃p s,r=.ok p/\v=.tuple #[Sl.val s,.int .i64 0]/\mM h' s p)\/(∃n:Nat,r=.error n/\v=.tuple #[.slice none 0 0,.int .i64 n])):=by
 have i1:Inv w h [] h [(w.heap.size+1,.cells [Value.slice none 0 0].toArray 91 (0,0)),(w.heap.size+1+1,.cells [Value.int .i64 0].toArray 28 (0,0))] (((w.alloc (Obj.cells #[a0,a1,a2,a3,a4,a5,a6] 27)).alloc (Obj.cells #[Value.slice none 0 0] 91)).alloc (Obj.cells #[Value.int IntKind.i64 0] 28)):=by
  have j1:Inv w h [] h [(w.heap.size,Obj.cells #[a0,a1,a2,a3,a4,a5,a6] 27 (0,0))] (w.alloc (Obj.cells #[a0,a1,a2,a3,a4,a5,a6] 27)):=(Inv.init s).alloc _ rfl;have e1:(w.alloc (Obj.cells #[a0,a1,a2,a3,a4,a5,a6] 27)).heap.size=w.heap.size+1:=Array.size_push _;have j2:=(j1.eraseIdx 0).alloc (Obj.cells #[Value.slice none 0 0] 91 (0,0)) rfl;rw[e1] at j2;have e2:((w.alloc (Obj.cells #[a0,a1,a2,a3,a4,a5,a6] 27)).alloc (Obj.cells #[Value.slice none 0 0] 91)).heap.size=w.heap.size+1+1:=(Array.size_push _).trans (congrArg (·+1) e1);have j3:Inv w h [] h [(w.heap.size+1+1,.cells [Value.int .i64 0].toArray 28 (0,0)),(w.heap.size+1,.cells [Value.slice none 0 0].toArray 91 (0,0))] (((w.alloc (Obj.cells #[a0,a1,a2,a3,a4,a5,a6] 27)).alloc (Obj.cells #[Value.slice none 0 0] 91)).alloc (Obj.cells #[Value.int IntKind.i64 0] 28)):=by
   have:=Inv.alloc (w:=(w.alloc (Obj.cells #[a0,a1,a2,a3,a4,a5,a6] 27)).alloc (Obj.cells #[Value.slice none 0 0] 91)) j2 (Obj.cells #[Value.int IntKind.i64 0] 28 (0,0)) rfl;rw[e2] at this;exact this
  exact j3.perm (List.Perm.swap _ _ _)
 have s1:=((i1.eraseIdx 0).eraseIdx 0).toSat;have h1:=hc _ s1
 go_enter_defers Tryz.func48,Tryz.ntmps48
 go_wp2_with fail
 rename_i K1 k1 K k;refine h1.mono fun e w' he=>?_
 cases e with
 | returned v=>
  obtain⟨h',L',i,rfl,p,⟨ta,tl,tc⟩,e,hv,hp⟩:=he;replace hv:v=.slice ta tl tc:=hv;subst hv;have i2:=i1.call i;have i3:=i2.upd (n:=0) (b:=w.heap.size+1) (o:=.cells [Value.slice none 0 0].toArray 91 (0,0)) rfl (gE (i2.own (w.heap.size+1,.cells [Value.slice none 0 0].toArray 91 (0,0)) Aq) (off:=0) (Value.slice ta tl tc));have i4:=i3.upd (n:=1) (b:=w.heap.size+1+1) (o:=.cells [Value.int .i64 0].toArray 28 (0,0)) rfl (gE (i3.own (w.heap.size+1+1,.cells [Value.int .i64 0].toArray 28 (0,0)) Aq) (off:=0) (.int .i64 0));have q0:=i2.own (w.heap.size+1,.cells [Value.slice none 0 0].toArray 91 (0,0)) Aq;have q1:=i3.own (w.heap.size+1+1,.cells [Value.int .i64 0].toArray 28 (0,0)) Aq;have c0:w'.cell? ⟨w.heap.size+1,0,none⟩=some (.slice none 0 0):=by simp[World.cell?,q0]
  have f0:w'.frozen? ⟨w.heap.size+1,0,none⟩=false:=by simp[World.frozen?,q0]
  have c1:(w'.setCell ⟨w.heap.size+1,0,none⟩ (Value.slice ta tl tc)).cell? ⟨w.heap.size+1+1,0,none⟩=some (.int .i64 0):=by simp[World.cell?,q1]
  have f1:(w'.setCell ⟨w.heap.size+1,0,none⟩ (Value.slice ta tl tc)).frozen? ⟨w.heap.size+1+1,0,none⟩=false:=by simp[World.frozen?,q1]
  have o1:=i4.own (w.heap.size+1,.cells [(Value.slice ta tl tc)].toArray 91 (0,0)) Aq;have o2:=i4.own (w.heap.size+1+1,.cells [Value.int .i64 0].toArray 28 (0,0)) Aq;have d1:((w'.setCell ⟨w.heap.size+1,0,none⟩ (Value.slice ta tl tc)).setCell ⟨w.heap.size+1+1,0,none⟩ (.int .i64 0)).cell? ⟨w.heap.size+1,0,none⟩=some (Value.slice ta tl tc):=by simp[World.cell?,o1]
  have d2:((w'.setCell ⟨w.heap.size+1,0,none⟩ (Value.slice ta tl tc)).setCell ⟨w.heap.size+1+1,0,none⟩ (.int .i64 0)).cell? ⟨w.heap.size+1+1,0,none⟩=some (.int .i64 0):=by simp[World.cell?,o2]
  refine k _ _ ?_
  go_wp2_with fail
  refine leaves_cons (f:=95) (args:=#[.pointer (some ⟨w.heap.size+1,0,none⟩),.pointer (some ⟨w.heap.size+1+1,0,none⟩)]) Aq (by simp[go_sem]) ?_;refine (aKv ⟨w.heap.size+1,0,none⟩ ⟨w.heap.size+1+1,0,none⟩ _).mono ?_
  rintro e' u' w'' ⟨rfl,rfl,rfl⟩
  simp[Leaves,settle,results,Tryz.results48,go_sem,d1,d2];exact⟨h',by simpa using (i4.eraseIdx 0).eraseIdx 0,⟨⟨ta,tl,tc⟩,rfl,hp⟩⟩
 | panicked c=>
  obtain⟨h',L',i,n,e,rfl⟩:=he;have i2:=i1.call i;have i3:=i2.tail L';refine leaves_cons (f:=95) (args:=#[.pointer (some ⟨w.heap.size+1,0,none⟩),.pointer (some ⟨w.heap.size+1+1,0,none⟩)]) Aq (by simp[go_sem]) ?_;refine (aHs h' (w.heap.size+1) (w.heap.size+1+1) (.slice none 0 0) (.int .i64 0) n w' i3.toSat).mono ?_
  rintro e' u' w'' ⟨rfl,rfl,h2,j⟩
  have i4:=Inv.call (Lb:=[]) i3 j;have o1:=j.own (w.heap.size+1,.cells [.slice none 0 0].toArray 91 (0,0)) Aq;have o2:=j.own (w.heap.size+1+1,.cells [Value.int .i64 n].toArray 28 (0,0)) Aq;have d1:w''.cell? ⟨w.heap.size+1,0,none⟩=some (.slice none 0 0):=by simp[World.cell?,o1]
  have d2:w''.cell? ⟨w.heap.size+1+1,0,none⟩=some (.int .i64 n):=by simp[World.cell?,o2]
  simp[Leaves,settle,results,Tryz.results48,go_sem,d1,d2];exact⟨h2,by simpa using (i4.eraseIdx 0).eraseIdx 0,.inr ⟨n,e,rfl⟩⟩
 | outgrown=>exact False.elim he
end Go.Proofs.Y
/- The program's Poly. -/
namespace Go.Proofs.Y
open Go Go.Vc Go.Dig
def dM(t:Tr):Except Nat Pol:=if bB t then aO t else .error 40
def bBu(h:aA)(v:Value)(r:Except Nat Pol):Prop:=(∃p s,r=.ok p/\v=.tuple #[Sl.val s,.int .i64 0]/\gJ RmW h s p)\/(∃n:Nat,r=.error n/\v=.tuple #[.slice none 0 0,.int .i64 n])
theorem aR4(t:Tr)(d:Nat)(hok:okT d t)(hsz:szT t<=300)(h:aA)(vs:List Value)(tb:Tb h)(pw:Pw h)(w:IsE h vs t):Fn0 T F.q48 [.agg vs.toArray] h fun v h'=>
  (∃p s,aO t=.ok p/\v=.tuple #[Sl.val s,.int .i64 0]/\mM h' s p)\/(∃n:Nat,aO t=.error n/\v=.tuple #[.slice none 0 0,.int .i64 n]):=by
 have hc:=aDk t d hok hsz h vs tb pw w;obtain⟨op,arg,neg,l,m,name,ks⟩:=t;obtain⟨va,vb,sk,rfl,-,-,-,-,-⟩:=w.isK;refine Fn0.make fun w0 s=>(aXu _ _ _ _ _ _ _ h w0 s _ hc).mono fun e w' he=>?_
 obtain⟨v,h',rfl,i,hr⟩:=he;exact⟨h',[],i,rfl,hr⟩
theorem aNk{h':aA}{v:Value}{r:Except Nat Pol}(pg:∀p,r=.ok p->∃S:List (List UInt8),S.length<=300/\PG S p)
  (w:(∃p s,r=.ok p/\v=.tuple #[Sl.val s,.int .i64 0]/\mM h' s p)\/(∃n:Nat,r=.error n/\v=.tuple #[.slice none 0 0,.int .i64 n])):
  ∃(s:Sl) (l:List El) (e:Nat),v=.tuple #[s.val,.int .i64 e]/\Rw h' s 4 (fl l)/\(∀x∈l,TmW h' x)/\(∀x∈l,fits x.q/\x.m.length<=1000000)/\l.length<=200/\((r=.ok (l.map pq)/\e=0)\/(l=[]/\r=.error e)):=by
 rcases w with ⟨p,s,rfl,rfl,l,rfl,rw,tw⟩|⟨n,rfl,rfl⟩
 .obtain⟨S,hS,g⟩:=pg _ rfl;refine⟨s,l,0,rfl,rw,tw,fun x hx=>⟨g.good.fit _ (bJg hx),?_⟩,by have:=g.good.len;rw[bJb] at this;exact this,.inl ⟨rfl,rfl⟩⟩
  have:=g.len _ (bJg hx);dsimp only[pq] at this;omega
 .exact⟨⟨none,0,0⟩,[],n,rfl,⟨rfl,bJf _,fun x=>absurd rfl x⟩,(fun _ h=>by cases h),(fun _ h=>by cases h),bJe _,.inr ⟨rfl,rfl⟩⟩
attribute [local irreducible] Vc.Fn FnP
theorem aHt(t:Tr)(h:aA)(vs:List Value)(tb:Tb h)(pw:Pw h)(w:IsE h vs t):Fn0 T F.q18 [.agg vs.toArray] h fun v h'=>bBu h' v (dM t):=by
 have c1:=fun h tb w=>nJ t h vs tb w
 have c2:=fun (x:bB t) h tb pw w=>aR4 t 1 x.1 x.2 h vs tb pw w
 have f1:bB t->dM t=aO t:=fun x=>if_pos x
 have f2:¬bB t->dM t=.error 40:=fun x=>if_neg x
 have pg:bB t->∀p,aO t=.ok p->∃S:List (List UInt8),S.length<=300/\PG S p:=fun x p e=>by
  obtain⟨S,h1,-,h2⟩:=kB t 1 x.1 e;exact⟨S,bJd h1 x.2,h2⟩
 obtain⟨r,hr⟩:=AH (dM t);rw[<-hr] at f1 f2 ⊢;obtain⟨r0,hr0⟩:=AH (aO t);simp only[<-hr0] at f1 c2 pg;obtain⟨op,arg,neg,l,m,name,ks⟩:=t;have wE:=w;obtain⟨va,vb,sk,rfl,-,-,-,-,-⟩:=w.isK;by_cases hv:bB (.mk op arg neg l m name ks)
 .have c3:=c2 hv;have fr:=f1 hv;have pg':=pg hv;replace c1:∀h:aA,Tb h->IsE h [.int .i64 op,.int .i64 arg,.bool neg,va.val,vb.val,.string (txt name),sk.val] (.mk op arg neg l m name ks)->Fn0 T F.q36 [.agg #[.int .i64 op,.int .i64 arg,.bool neg,va.val,vb.val,.string (txt name),sk.val]] h fun v h'=>v=.bool true:=fun h tb w=>by
   have:=c1 h tb w;rw[aX hv] at this;exact this
  clear c2 f1 f2 pg;refine f0C ok D.q18 rfl ?_;conv=>whnf
  repeat' ((first|(show LdN _ _ _ _ _;refine LdN.oA 0 rfl rfl ?_)|(show CN _ _ _ _ _ _;first|(refine CN.f rfl (c1 _ Ab (wE.mono Ad)) (fun v h' hl hr'=>?_);obtain rfl:=hr')|(refine CN.f rfl (c3 _ Af (pw.mono Ab) (wE.mono Ab)) (fun v h' hl2 hr'=>?_);obtain⟨s,l,e,rfl,rw,tw,fw,hlen,hfin⟩:=aNk pg' hr'))|((first|apply oI.z|apply cI.z))|intro (_:Nat))<;>conv=>whnf)
  rename_i hm _ _;have hs:s.l=l.length:=by have:=rw.len;rw[bK] at this;omega
  refine LpN.of (fun k ρ hx L=>∃(i:Nat) (M:List El) (v:Value),k=l.length-i/\h'.le hx/\i<=l.length/\rd ρ 21=.int .i64 i/\rd ρ 6=v/\aF 74 4 v i (fl M) L/\(i=0->v=.slice none 0 0)/\M.length=i/\Hq (M.map pq=(l.take i).map pq)/\Hq (∀x∈M,RmW hx x)) l.length
   ⟨0,[],_,rfl,aA.lr _,bJe _,rfl,rfl,aF.nil _ _ _,fun _=>rfl,rfl,⟨rfl⟩,⟨fun x hx=>by cases hx⟩⟩ ?_
  conv=>whnf
  repeat intro _
  rename_i q2 h2 L2 hI;obtain⟨i,M,v,rfl,hle,hi,e21,e6,g,hnil,hM,⟨hq⟩,⟨hw⟩⟩:=hI;conv at e6=>lhs;whnf
  subst e6;conv at e21=>lhs;whnf
  subst e21;have rwx:=rw.mono hle;by_cases hil:i=l.length
  .conv=>whnf
   repeat' ((first|((first|apply oI.z|apply cI.z))|(apply aB<;>intro _<;>try (exfalso;omega)))<;>conv=>whnf)
   refine RN.growE (K:=RmW) g hw fun h' s' hl' e' w'=>?_
   rcases hfin with ⟨h1,h2⟩|⟨h1,h2⟩
   .subst h2;rw[hq,hil,bI4] at w';exact .inl ⟨_,s',fr.trans h1,by rw[e'];rfl,w'⟩
   .subst h1;rw[hnil hil];exact .inr ⟨e,fr.trans h2,rfl⟩
  .obtain⟨x,hx⟩:∃t,l[i]?=some t:=⟨_,bIq Aa⟩
   have hxm:=bIu hx;have wx:=(tw x hxm).mono hle;have fx:=fw x hxm;have hsn:=aY hx;obtain⟨xn,xa,xd,xf,xm,xq⟩:=x;obtain rfl:xn=sg xq:=wx.sg;dsimp only at fx;have c5:=fun h w=>jZ h xa xd xq w ((vU fx.1).mono Ae)
   have o5:eO xq=(xq,0):=if_pos fx.1;simp only[o5] at c5;have c6:=fun h w=>aRw h xf xm w fx.2
   have wq:=wx.fr;have wf:=wx.fac.rw;conv=>whnf
   repeat' ((first|(show Idx _ _ _ _ _;refine Idx.el rwx i _ Aa hx (fun ab ao aw=>?_))|(show LdN _ _ _ _ _;first|(refine LdN.el4 aw Ad ?_)|refine LdN.oA 0 rfl rfl ?_)|(show DrN _ _ _ _ _ _;refine DrN.own [_] (List.Sublist.cons_cons _ (bJ9 _)) Ak ?_)|refine⟨fun _=>⟨aJ.o (aA.lr _),List.singleton_sublist.2 (hA _ (bIz _ (bIw)))⟩,?_⟩|(refine⟨fun _=>⟨aJ.o As,by repeat first|exact bJ9 _|apply List.Sublist.cons_cons|refine List.Sublist.trans ?_ (bK6 _ _)|apply List.Sublist.cons⟩,?_⟩)|((first|apply oI.z|apply cI.z))|intro (_:Nat)|(show CN _ _ _ _ _ _;first|(refine CN.keep0 rfl (fun h3 hl3 hb3=>?_);refine CN.f rfl (c5 _ (wq.mono Ab)) (fun v h' hl hr'=>?_);obtain⟨ga,gb,rfl,gw⟩:=hr')|(refine CN.f rfl (c6 _ (wf.mono Ac)) (fun v h' hl hr'=>?_);obtain⟨sj,rfl,hj'⟩:=hr'))|(show Ld _ _ _ _;refine Ld.of (v:=xf.val) (Has.imm ((by assumption:aA.le h3 _) _ _ hb3) rfl) ?_)|(show App _ _ _ _ _ _ _ _ _;refine App.growM (A:=[_,_]) (Fx:=L2) (size:=4) (bytes:=80) (z:=[.bool false,.slice none 0 0,.slice none 0 0,.slice none 0 0]) rfl rfl g ⟨_,0,none⟩ 1 1 [_,_,_,_] rfl (Has.four _) rfl Ae Aa Aa Ae (fun v' F' g' hA=>?_))|refine WN.i64 Aa Aa ?_|refine Sto.l 0 rfl rfl rfl ?_|(apply aB<;>intro _<;>try (exfalso;omega)))<;>conv=>whnf)
   have g2:=aF.el (x:=⟨sg xq,ga,gb,sj,xm,xq⟩) g';refine⟨rfl,l.length-(i+1),Aa,i+1,M++[⟨sg xq,ga,gb,sj,xm,xq⟩],v',rfl,Ac,Aa,vi Aa,rfl,g2,fun z=>absurd z Aa,by rw[bIo,hM];rfl,⟨?_⟩,⟨fun x hx=>?_⟩⟩
   .rw[bI3,hq,hsn,bI3];rfl
   .rcases bIx.1 hx with hx|hx
    .exact UpE.up Ac (hw x hx)
    .rw[bI2] at hx;subst hx;exact⟨gw.mono Ab,rfl,⟨hj',wx.fac.len⟩⟩
 .rw[f2 hv];replace c1:∀h:aA,Tb h->IsE h [.int .i64 op,.int .i64 arg,.bool neg,va.val,vb.val,.string (txt name),sk.val] (.mk op arg neg l m name ks)->Fn0 T F.q36 [.agg #[.int .i64 op,.int .i64 arg,.bool neg,va.val,vb.val,.string (txt name),sk.val]] h fun v h'=>v=.bool false:=fun h tb w=>by
   have:=c1 h tb w;rw[aH hv] at this;exact this
  clear c2 f1 f2 pg;refine f0C ok D.q18 rfl ?_;conv=>whnf
  repeat' ((first|(show LdN _ _ _ _ _;refine LdN.oA 0 rfl rfl ?_)|(show CN _ _ _ _ _ _;(refine CN.f rfl (c1 _ Ab (wE.mono Ad)) (fun v h' hl hr'=>?_);obtain rfl:=hr'))|((first|apply oI.z|apply cI.z))|intro (_:Nat))<;>conv=>whnf)
  exact RN.a (.inr ⟨40,rfl,rfl⟩)
end Go.Proofs.Y
/- Forms handed out, in plain words. -/
namespace Go.Proofs.Y
open Go Go.Vc Go.Dig
structure aR5 (p:Pol):Prop where
 fit:∀t∈p,fits t.2
 len:p.length<=200
theorem aKw(t:Tr):∃(p:Pol) (e:Nat),aR5 p/\((dM t=.ok p/\e=0)\/(p=[]/\dM t=.error e))/\∀h v,bBu h v (dM t)->∃s:Sl,v=.tuple #[s.val,.int .i64 e]/\gJ RmW h s p:=by
 cases hr:dM t with
 | error n=>
  refine⟨[],n,⟨(fun t h=>by cases h),bJe _⟩,.inr ⟨rfl,rfl⟩,fun h v w=>?_⟩
  rcases w with ⟨p,s,e,-⟩|⟨m,e,hv⟩
  .cases e
  .cases e
   exact⟨⟨none,0,0⟩,hv,[],rfl,Rw.nil _ _,fun x hx=>by cases hx⟩
 | ok p=>
  have hv:bB t:=Classical.byContradiction fun hn=>by unfold dM at hr;rw[if_neg hn] at hr;cases hr
  have hr2:aO t=.ok p:=by unfold dM at hr;rw[if_pos hv] at hr;exact hr
  obtain⟨S,-,-,g⟩:=kB t 1 hv.1 hr2;refine⟨p,0,⟨g.good.fit,g.good.len⟩,.inl ⟨rfl,rfl⟩,fun h v w=>?_⟩
  rcases w with ⟨p',s,e,hv,w⟩|⟨m,e,hv⟩
  .cases e
   exact⟨s,hv,w⟩
  .cases e
theorem aE8{t:Tr}{n:Nat}(h:dM t=.error n):n≠0:=by
 unfold dM at h
 split at h
 .rename_i hv;exact aCu t (aG2 hv.1) h
 .cases h;decide
def bH3(h:aA)(v:Value)(t:Tr):Prop:=(∃p s,dM t=.ok p/\v=.tuple #[Sl.val s,.int .i64 0]/\gJ RmW h s p)\/(∃n:Nat,n≠0/\dM t=.error n/\v=.tuple #[.slice none 0 0,.int .i64 n])
end Go.Proofs.Y