/- A failure of the form is caught: formed; Poly. -/
import Derived.Test.YtdccpmlhflpeaaaGreatDoorPF8
set_option linter.all false
set_option maxHeartbeats 4000000
set_option maxRecDepth 100000
namespace Go.Vc
open Go
theorem Inv.tail{w0 w:World}{h0 h:aA}{L0 B:Vc.Own}:∀(A:Vc.Own),Inv w0 h0 L0 h (A++B) w->Inv w0 h0 L0 h B w
 | [],i=>i
 | _::A,i=>Inv.tail A (i.eraseIdx 0)
end Go.Vc
namespace Go.Proofs.Y
open Go Go.Vc Go.Dig
theorem aHt(p q:Addr)(w:World):CallsD Tryz.prog 82 #[.pointer (some p),.pointer (some q)] .returning w fun e u' w'=>e=.returned (.tuple #[])/\u'=.returning/\w'=w:=by
 refine callsD_of_wpS Tryz.func82 rfl fun c₀ cs hu=>?_
 apply wpS_seq
 apply wpS_region
 simp[wpOpsS,go_sem,recoverD,hu,Tryz.ntmps82,Exit.thenS];refine wpS_of_wp ?_
 go_wp2
 cases c₀
 simp_all [bodyPostS,results,Tryz.results82]
theorem aE2(h:aA)(b c:Nat)(x y:Value)(i:Int)(w:World)(s:Sat h [(b,.cells [x].toArray 84 (0,0)),(c,.cells [y].toArray 40 (0,0))] w):
  CallsD Tryz.prog 82 #[.pointer (some ⟨b,0,none⟩),.pointer (some ⟨c,0,none⟩)] (.panicking [{ v:=.iface 141 (.agg #[.int .i64 i]),recovered:=false }]) w fun e u' w'=>e=.returned (.tuple #[])/\u'=.panicking [{ v:=.iface 141 (.agg #[.int .i64 i]),recovered:=true }]/\
   ∃h',Inv w h [(b,.cells [x].toArray 84 (0,0)),(c,.cells [y].toArray 40 (0,0))] h' [(b,.cells [.slice none 0 0].toArray 84 (0,0)),(c,.cells [.int .i64 i].toArray 40 (0,0))] w':=by
 have hta:∀w:World,(Instr.typeAssert (Value.iface 141 (Value.agg #[Value.int IntKind.i64 i])) 20 141 true).run Tryz.prog w=.ok (.tuple #[.agg #[.int .i64 i],.bool true]) w:=fun _=>by kernel_rfl
 have inv2:=(Inv.init s).alloc (.cells [.int .i64 i].toArray 141 (0,0)) rfl;refine callsD_of_wpS Tryz.func82 rfl fun c₀ cs hu=>?_
 apply wpS_seq
 apply wpS_region
 simp[wpOpsS,go_sem,recoverD,hu,Tryz.ntmps82,Exit.thenS];refine wpS_of_wp ?_
 go_wp2
 rename_i Q9 z1 z2;have ea:(#[Value.pointer (some ⟨b,0,none⟩),Value.pointer (some ⟨c,0,none⟩)]++((((((Array.replicate 11 undef).setIfInBounds 3 (Value.iface 141 (Value.agg #[Value.int IntKind.i64 i]))).setIfInBounds 5 (Value.bool false)).setIfInBounds 6 (Value.tuple #[Value.agg #[Value.int IntKind.i64 i],Value.bool true])).setIfInBounds 7 (Value.bool true)).setIfInBounds 8 (Value.agg #[Value.int IntKind.i64 i])).setIfInBounds 1 (Value.pointer (some ⟨w.heap.size,0,none⟩))) =
  [.pointer (some ⟨b,0,none⟩),.pointer (some ⟨c,0,none⟩),undef,.pointer (some ⟨w.heap.size,0,none⟩),undef,.iface 141 (.agg #[.int .i64 i]),undef,.bool false,.tuple #[.agg #[.int .i64 i],.bool true],.bool true,.agg #[.int .i64 i],undef,undef].toArray:=by
  simp[Array.replicate_succ]
 rw[ea];refine yO (T:=T) (w0:=w) (h0:=h) (L0:=[(b,.cells [x].toArray 84 (0,0)),(c,.cells [y].toArray 40 (0,0))]) ok _ (fun e ρ' h' L'=>match e with|.normal=>L'=[(w.heap.size,.cells [.int .i64 i].toArray 141 (0,0)),(b,.cells [.slice none 0 0].toArray 84 (0,0)),(c,.cells [.int .i64 i].toArray 40 (0,0))]|_=>False) _ [.pointer (some ⟨b,0,none⟩),.pointer (some ⟨c,0,none⟩),undef,.pointer (some ⟨w.heap.size,0,none⟩),undef,.iface 141 (.agg #[.int .i64 i]),undef,.bool false,.tuple #[.agg #[.int .i64 i],.bool true],.bool true,.agg #[.int .i64 i],undef,undef] h _ _ ?_ (fun hr=>hr.elim) (fun _ _ _ _ _ _ hp=>hp.elim) (fun c ρ ρ' w hh=>⟨rfl,hh.2⟩) inv2 ?_
 .intro e ρ' h' L' w' inv hq;cases e with
  | normal=>
   subst hq;exact⟨rfl,_,rfl,.tuple #[],by simp[results,Tryz.results82],rfl,rfl,h',inv.eraseIdx 0⟩
  | exit id=>exact hq.elim
  | ret=>exact hq.elim
 .refine (?_:cI T _ _ _ _ _).x;conv=>whnf
  repeat ((first|apply oI.z|apply cI.z);conv=>whnf)
  repeat' first|((first|(show DrN _ _ _ _ _ _;refine DrN.each Al ?_)|refine Ld.o 0 rfl rfl ?_|(show Sto _ _ _ _;first|refine Sto.l 1 rfl rfl rfl ?_|refine Sto.l 2 rfl rfl rfl ?_)|refine⟨fun _=>aH.o (aA.lr _),?_⟩|refine⟨fun hst=>(by cases (show true=false from hst)),?_⟩|fail)<;>conv=>whnf)|(refine sS.mk ?_ ?_<;>(conv=>whnf))
  all_goals rfl
theorem aT1(a0 a1 a2 a3 a4 a5 a6:Value)(h:aA)(w:World)(s:Sat h [] w)(r:Except Nat Pol)(hc:FP F.q83 [.agg #[a0,a1,a2,a3,a4,a5,a6]] h r):Calls Tryz.prog 40 #[.agg #[a0,a1,a2,a3,a4,a5,a6]] w fun e w'=>∃v h',e=.returned v/\Inv w h [] h' [] w'/\((∃p s,r=.ok p/\v=.tuple #[Sl.val s,.int .i64 0]/\qK h' s p)\/(∃n:Nat,r=.error n/\v=.tuple #[.slice none 0 0,.int .i64 n])):=by
 have i1:Inv w h [] h [(w.heap.size+1,.cells [Value.slice none 0 0].toArray 84 (0,0)),(w.heap.size+1+1,.cells [Value.int .i64 0].toArray 40 (0,0))] (((w.alloc (Obj.cells #[a0,a1,a2,a3,a4,a5,a6] 27)).alloc (Obj.cells #[Value.slice none 0 0] 84)).alloc (Obj.cells #[Value.int IntKind.i64 0] 40)):=by
  have j1:Inv w h [] h [(w.heap.size,Obj.cells #[a0,a1,a2,a3,a4,a5,a6] 27 (0,0))] (w.alloc (Obj.cells #[a0,a1,a2,a3,a4,a5,a6] 27)):=(Inv.init s).alloc _ rfl;have e1:(w.alloc (Obj.cells #[a0,a1,a2,a3,a4,a5,a6] 27)).heap.size=w.heap.size+1:=Array.size_push _;have j2:=(j1.eraseIdx 0).alloc (Obj.cells #[Value.slice none 0 0] 84 (0,0)) rfl;rw[e1] at j2;have e2:((w.alloc (Obj.cells #[a0,a1,a2,a3,a4,a5,a6] 27)).alloc (Obj.cells #[Value.slice none 0 0] 84)).heap.size=w.heap.size+1+1:=(Array.size_push _).trans (congrArg (·+1) e1);have j3:Inv w h [] h [(w.heap.size+1+1,.cells [Value.int .i64 0].toArray 40 (0,0)),(w.heap.size+1,.cells [Value.slice none 0 0].toArray 84 (0,0))] (((w.alloc (Obj.cells #[a0,a1,a2,a3,a4,a5,a6] 27)).alloc (Obj.cells #[Value.slice none 0 0] 84)).alloc (Obj.cells #[Value.int IntKind.i64 0] 40)):=by
   have:=Inv.alloc (w:=(w.alloc (Obj.cells #[a0,a1,a2,a3,a4,a5,a6] 27)).alloc (Obj.cells #[Value.slice none 0 0] 84)) j2 (Obj.cells #[Value.int IntKind.i64 0] 40 (0,0)) rfl;rw[e2] at this;exact this
  exact j3.perm (List.Perm.swap _ _ _)
 have s1:=((i1.eraseIdx 0).eraseIdx 0).toSat;have h1:=hc _ s1
 go_enter_defers Tryz.func40,Tryz.ntmps40
 go_wp2_with fail
 rename_i K1 k1 K k;refine h1.mono fun e w' he=>?_
 cases e with
 | returned v=>
  obtain⟨h',L',i,rfl,p,⟨ta,tl,tc⟩,e,hv,hp⟩:=he;replace hv:v=.slice ta tl tc:=hv;subst hv;have i2:=i1.call i;have i3:=i2.upd (n:=0) (b:=w.heap.size+1) (o:=.cells [Value.slice none 0 0].toArray 84 (0,0)) rfl (eX (i2.own (w.heap.size+1,.cells [Value.slice none 0 0].toArray 84 (0,0)) Ao) (off:=0) (Value.slice ta tl tc));have i4:=i3.upd (n:=1) (b:=w.heap.size+1+1) (o:=.cells [Value.int .i64 0].toArray 40 (0,0)) rfl (eX (i3.own (w.heap.size+1+1,.cells [Value.int .i64 0].toArray 40 (0,0)) Ao) (off:=0) (.int .i64 0));have q0:=i2.own (w.heap.size+1,.cells [Value.slice none 0 0].toArray 84 (0,0)) Ao;have q1:=i3.own (w.heap.size+1+1,.cells [Value.int .i64 0].toArray 40 (0,0)) Ao;have c0:w'.cell? ⟨w.heap.size+1,0,none⟩=some (.slice none 0 0):=by simp[World.cell?,q0]
  have f0:w'.frozen? ⟨w.heap.size+1,0,none⟩=false:=by simp[World.frozen?,q0]
  have c1:(w'.setCell ⟨w.heap.size+1,0,none⟩ (Value.slice ta tl tc)).cell? ⟨w.heap.size+1+1,0,none⟩=some (.int .i64 0):=by simp[World.cell?,q1]
  have f1:(w'.setCell ⟨w.heap.size+1,0,none⟩ (Value.slice ta tl tc)).frozen? ⟨w.heap.size+1+1,0,none⟩=false:=by simp[World.frozen?,q1]
  have o1:=i4.own (w.heap.size+1,.cells [(Value.slice ta tl tc)].toArray 84 (0,0)) Ao;have o2:=i4.own (w.heap.size+1+1,.cells [Value.int .i64 0].toArray 40 (0,0)) Ao;have d1:((w'.setCell ⟨w.heap.size+1,0,none⟩ (Value.slice ta tl tc)).setCell ⟨w.heap.size+1+1,0,none⟩ (.int .i64 0)).cell? ⟨w.heap.size+1,0,none⟩=some (Value.slice ta tl tc):=by simp[World.cell?,o1]
  have d2:((w'.setCell ⟨w.heap.size+1,0,none⟩ (Value.slice ta tl tc)).setCell ⟨w.heap.size+1+1,0,none⟩ (.int .i64 0)).cell? ⟨w.heap.size+1+1,0,none⟩=some (.int .i64 0):=by simp[World.cell?,o2]
  refine k _ _ ?_
  go_wp2_with fail
  refine leaves_cons (f:=82) (args:=#[.pointer (some ⟨w.heap.size+1,0,none⟩),.pointer (some ⟨w.heap.size+1+1,0,none⟩)]) Ao (by simp[go_sem]) ?_;refine (aHt ⟨w.heap.size+1,0,none⟩ ⟨w.heap.size+1+1,0,none⟩ _).mono ?_
  rintro e' u' w'' ⟨rfl,rfl,rfl⟩
  simp[Leaves,settle,results,Tryz.results40,go_sem,d1,d2];exact⟨h',by simpa using (i4.eraseIdx 0).eraseIdx 0,⟨⟨ta,tl,tc⟩,rfl,hp⟩⟩
 | panicked c=>
  obtain⟨h',L',i,n,e,rfl⟩:=he;have i2:=i1.call i;have i3:=i2.tail L';refine leaves_cons (f:=82) (args:=#[.pointer (some ⟨w.heap.size+1,0,none⟩),.pointer (some ⟨w.heap.size+1+1,0,none⟩)]) Ao (by simp[go_sem]) ?_;refine (aE2 h' (w.heap.size+1) (w.heap.size+1+1) (.slice none 0 0) (.int .i64 0) n w' i3.toSat).mono ?_
  rintro e' u' w'' ⟨rfl,rfl,h2,j⟩
  have i4:=Inv.call (Lb:=[]) i3 j;have o1:=j.own (w.heap.size+1,.cells [.slice none 0 0].toArray 84 (0,0)) Ao;have o2:=j.own (w.heap.size+1+1,.cells [Value.int .i64 n].toArray 40 (0,0)) Ao;have d1:w''.cell? ⟨w.heap.size+1,0,none⟩=some (.slice none 0 0):=by simp[World.cell?,o1]
  have d2:w''.cell? ⟨w.heap.size+1+1,0,none⟩=some (.int .i64 n):=by simp[World.cell?,o2]
  simp[Leaves,settle,results,Tryz.results40,go_sem,d1,d2];exact⟨h2,by simpa using (i4.eraseIdx 0).eraseIdx 0,.inr ⟨n,e,rfl⟩⟩
 | outgrown=>exact False.elim he
end Go.Proofs.Y
/- The program's Poly. -/
namespace Go.Proofs.Y
open Go Go.Vc Go.Dig
def lM(t:Tr):Except Nat Pol:=if dN t then bU t else .error 40
def bCf(h:aA)(v:Value)(r:Except Nat Pol):Prop:=(∃p s,r=.ok p/\v=.tuple #[Sl.val s,.int .i64 0]/\aHl RmW h s p)\/(∃n:Nat,r=.error n/\v=.tuple #[.slice none 0 0,.int .i64 n])
theorem aO0(t:Tr)(d:Nat)(hok:okT d t)(hsz:szT t<=300)(h:aA)(vs:List Value)(tb:Tb h)(pw:Pw h)(w:IsE h vs t)(hp:aZ t):Fn0 T F.q40 [.agg vs.toArray] h fun v h'=>
  (∃p s,bU t=.ok p/\v=.tuple #[Sl.val s,.int .i64 0]/\qK h' s p)\/(∃n:Nat,bU t=.error n/\v=.tuple #[.slice none 0 0,.int .i64 n]):=by
 have hc:=aBj t d hok hsz h vs tb pw w hp;obtain⟨op,arg,neg,l,m,name,ks⟩:=t;obtain⟨va,vb,sk,rfl,-,-,-,-,-⟩:=w.isK;refine Fn0.make fun w0 s=>(aT1 _ _ _ _ _ _ _ h w0 s _ hc).mono fun e w' he=>?_
 obtain⟨v,h',rfl,i,hr⟩:=he;exact⟨h',[],i,rfl,hr⟩
theorem aJ4{h':aA}{v:Value}{r:Except Nat Pol}(pg:∀p,r=.ok p->∃S:List (List UInt8),S.length<=300/\PG S p)
  (w:(∃p s,r=.ok p/\v=.tuple #[Sl.val s,.int .i64 0]/\qK h' s p)\/(∃n:Nat,r=.error n/\v=.tuple #[.slice none 0 0,.int .i64 n])):
  ∃(s:Sl) (l:List El) (e:Nat),v=.tuple #[s.val,.int .i64 e]/\Rw h' s 4 (fl l)/\(∀x∈l,TmW h' x)/\(∀x∈l,fits x.q/\x.m.length<=1000000)/\l.length<=200/\((r=.ok (l.map pq)/\e=0)\/(l=[]/\r=.error e)):=by
 rcases w with ⟨p,s,rfl,rfl,l,rfl,rw,tw⟩|⟨n,rfl,rfl⟩
 .obtain⟨S,hS,g⟩:=pg _ rfl;refine⟨s,l,0,rfl,rw,tw,fun x hx=>⟨g.good.fit _ (bDy hx),?_⟩,by have:=g.good.len;rw[bDt] at this;exact this,.inl ⟨rfl,rfl⟩⟩
  have:=g.len _ (bDy hx);dsimp only[pq] at this;omega
 .exact⟨⟨none,0,0⟩,[],n,rfl,⟨rfl,bDx _,fun x=>absurd rfl x⟩,(fun _ h=>by cases h),(fun _ h=>by cases h),bDw _,.inr ⟨rfl,rfl⟩⟩
attribute [local irreducible] Vc.Fn FnP
theorem aXj(t:Tr)(h:aA)(vs:List Value)(tb:Tb h)(pw:Pw h)(w:IsE h vs t)(hp:aZ t):Fn0 T F.q14 [.agg vs.toArray] h fun v h'=>bCf h' v (lM t):=by
 have c1:=fun h tb w=>rB t h vs tb w
 have c2:=fun (x:dN t) h tb pw w=>aO0 t 1 x.1 x.2 h vs tb pw w hp
 have f1:dN t->lM t=bU t:=fun x=>if_pos x
 have f2:¬dN t->lM t=.error 40:=fun x=>if_neg x
 have pg:dN t->∀p,bU t=.ok p->∃S:List (List UInt8),S.length<=300/\PG S p:=fun x p e=>by
  obtain⟨S,h1,-,h2⟩:=sF t 1 x.1 e;exact⟨S,bDv h1 x.2,h2⟩
 obtain⟨r,hr⟩:=AB (lM t);rw[<-hr] at f1 f2 ⊢;obtain⟨r0,hr0⟩:=AB (bU t);simp only[<-hr0] at f1 c2 pg;obtain⟨op,arg,neg,l,m,name,ks⟩:=t;have wE:=w;obtain⟨va,vb,sk,rfl,-,-,-,-,-⟩:=w.isK;by_cases hv:dN (.mk op arg neg l m name ks)
 .have c3:=c2 hv;have fr:=f1 hv;have pg':=pg hv;replace c1:∀h:aA,Tb h->IsE h [.int .i64 op,.int .i64 arg,.bool neg,va.val,vb.val,.string (txt name),sk.val] (.mk op arg neg l m name ks)->Fn0 T F.q29 [.agg #[.int .i64 op,.int .i64 arg,.bool neg,va.val,vb.val,.string (txt name),sk.val]] h fun v h'=>v=.bool true:=fun h tb w=>by
   have:=c1 h tb w;rw[bA hv] at this;exact this
  clear c2 f1 f2 pg;refine f0C ok D.q14 rfl ?_;conv=>whnf
  repeat' ((first|(show LdN _ _ _ _ _;refine LdN.oA 0 rfl rfl ?_)|(show CN _ _ _ _ _ _;first|(refine CN.f rfl (c1 _ Ab (wE.mono Af)) (fun v h' hl hr'=>?_);obtain rfl:=hr')|(refine CN.f rfl (c3 _ Ae (pw.mono Ab) (wE.mono Ab)) (fun v h' hl2 hr'=>?_);obtain⟨s,l,e,rfl,rw,tw,fw,hlen,hfin⟩:=aJ4 pg' hr'))|((first|apply oI.z|apply cI.z))|intro (_:Nat))<;>conv=>whnf)
  rename_i hm _ _;have hs:s.l=l.length:=by have:=rw.len;rw[cU] at this;omega
  refine LpN.of (fun k ρ hx L=>∃(i:Nat) (M:List El) (v:Value),k=l.length-i/\h'.le hx/\i<=l.length/\rd ρ 21=.int .i64 i/\rd ρ 6=v/\aE 98 4 v i (fl M) L/\(i=0->v=.slice none 0 0)/\M.length=i/\Hq (M.map pq=(l.take i).map pq)/\Hq (∀x∈M,RmW hx x)) l.length
   ⟨0,[],_,rfl,aA.lr _,bDw _,rfl,rfl,aE.nil _ _ _,fun _=>rfl,rfl,⟨rfl⟩,⟨fun x hx=>by cases hx⟩⟩ ?_
  conv=>whnf
  repeat intro _
  rename_i q2 h2 L2 hI;obtain⟨i,M,v,rfl,hle,hi,e21,e6,g,hnil,hM,⟨hq⟩,⟨hw⟩⟩:=hI;conv at e6=>lhs;whnf
  subst e6;conv at e21=>lhs;whnf
  subst e21;have rwx:=rw.mono hle;by_cases hil:i=l.length
  .conv=>whnf
   repeat' ((first|((first|apply oI.z|apply cI.z))|(apply aB<;>intro _<;>try (exfalso;omega)))<;>conv=>whnf)
   refine RN.growE (K:=RmW) g hw fun h' s' hl' e' w'=>?_
   rcases hfin with ⟨h1,h2⟩|⟨h1,h2⟩
   .subst h2;rw[hq,hil,bDm] at w';exact .inl ⟨_,s',fr.trans h1,by rw[e'];rfl,w'⟩
   .subst h1;rw[hnil hil];exact .inr ⟨e,fr.trans h2,rfl⟩
  .obtain⟨x,hx⟩:∃t,l[i]?=some t:=⟨_,bC8 Aa⟩
   have hxm:=bDc hx;have wx:=(tw x hxm).mono hle;have fx:=fw x hxm;have hsn:=bD hx;obtain⟨xn,xa,xd,xf,xm,xq⟩:=x;obtain rfl:xn=sg xq:=wx.sg;dsimp only at fx;have c5:=fun h w=>lN h xa xd xq w ((tO fx.1).mono Ad)
   have o5:fH xq=(xq,0):=if_pos fx.1;simp only[o5] at c5;have c6:=fun h w=>aOp h xf xm w fx.2
   have wq:=wx.fr;have wf:=wx.fac.rw;conv=>whnf
   repeat' ((first|(show Idx _ _ _ _ _;refine Idx.el rwx i _ Aa hx (fun ab ao aw=>?_))|(show LdN _ _ _ _ _;first|(refine LdN.el4 aw Af ?_)|refine LdN.oA 0 rfl rfl ?_)|(show DrN _ _ _ _ _ _;refine DrN.own [_] (List.Sublist.cons_cons _ (bE1 _)) Al ?_)|refine⟨fun _=>⟨aH.o (aA.lr _),List.singleton_sublist.2 (hA _ (bDh _ (bDe)))⟩,?_⟩|(refine⟨fun _=>⟨aH.o As,by repeat first|exact bE1 _|apply List.Sublist.cons_cons|refine List.Sublist.trans ?_ (bHf _ _)|apply List.Sublist.cons⟩,?_⟩)|((first|apply oI.z|apply cI.z))|intro (_:Nat)|(show CN _ _ _ _ _ _;first|(refine CN.keep0 rfl (fun h3 hl3 hb3=>?_);refine CN.f rfl (c5 _ (wq.mono Ab)) (fun v h' hl hr'=>?_);obtain⟨ga,gb,rfl,gw⟩:=hr')|(refine CN.f rfl (c6 _ (wf.mono Ac)) (fun v h' hl hr'=>?_);obtain⟨sj,rfl,hj'⟩:=hr'))|(show Ld _ _ _ _;refine Ld.of (v:=xf.val) (Has.imm ((by assumption:aA.le h3 _) _ _ hb3) rfl) ?_)|(show App _ _ _ _ _ _ _ _ _;refine App.growM (A:=[_,_]) (Fx:=L2) (size:=4) (bytes:=80) (z:=[.bool false,.slice none 0 0,.slice none 0 0,.slice none 0 0]) rfl rfl g ⟨_,0,none⟩ 1 1 [_,_,_,_] rfl (Has.four _) rfl Ad Aa Aa Ad (fun v' F' g' hA=>?_))|refine WN.i64 Aa Aa ?_|refine Sto.l 0 rfl rfl rfl ?_|(apply aB<;>intro _<;>try (exfalso;omega)))<;>conv=>whnf)
   have g2:=aE.el (x:=⟨sg xq,ga,gb,sj,xm,xq⟩) g';refine⟨rfl,l.length-(i+1),Aa,i+1,M++[⟨sg xq,ga,gb,sj,xm,xq⟩],v',rfl,Ac,Aa,vi Aa,rfl,g2,fun z=>absurd z Aa,by rw[bC6,hM];rfl,⟨?_⟩,⟨fun x hx=>?_⟩⟩
   .rw[bDl,hq,hsn,bDl];rfl
   .rcases bDf.1 hx with hx|hx
    .exact UpE.up Ac (hw x hx)
    .rw[bDk] at hx;subst hx;exact⟨gw.mono Ab,rfl,⟨hj',wx.fac.len⟩⟩
 .rw[f2 hv];replace c1:∀h:aA,Tb h->IsE h [.int .i64 op,.int .i64 arg,.bool neg,va.val,vb.val,.string (txt name),sk.val] (.mk op arg neg l m name ks)->Fn0 T F.q29 [.agg #[.int .i64 op,.int .i64 arg,.bool neg,va.val,vb.val,.string (txt name),sk.val]] h fun v h'=>v=.bool false:=fun h tb w=>by
   have:=c1 h tb w;rw[aG hv] at this;exact this
  clear c2 f1 f2 pg;refine f0C ok D.q14 rfl ?_;conv=>whnf
  repeat' ((first|(show LdN _ _ _ _ _;refine LdN.oA 0 rfl rfl ?_)|(show CN _ _ _ _ _ _;(refine CN.f rfl (c1 _ Ab (wE.mono Af)) (fun v h' hl hr'=>?_);obtain rfl:=hr'))|((first|apply oI.z|apply cI.z))|intro (_:Nat))<;>conv=>whnf)
  exact RN.a (.inr ⟨40,rfl,rfl⟩)
end Go.Proofs.Y