/- The rules of 'append' and 'copy'. -/
import Derived.Laws.AppendOwn
import Derived.Laws.IdiomCopy
import Derived.Test.YtdccpmlhflpeaaaGreatDoorW4
set_option linter.all false
namespace Go.Vc
open Go

def aE(e:TypeId)(size:Nat)(v:Value)(n:Nat)(xs:List Value)(L:Own):Prop:=
 xs.length=n*size/\((v=.slice none 0 0/\n=0)\/
   ∃(i b cap:Nat) (zs:List Value),v=.slice (some ⟨b,0,none⟩) n cap/\L[i]?=some (b,Obj.cells (xs++zs).toArray e (0,0))/\n<=cap/\(xs++zs).length=cap*size)

theorem aE.nil(e:TypeId)(size:Nat)(L:Own):aE e size (.slice none 0 0) 0 [] L:=⟨by simp,.inl ⟨rfl,rfl⟩⟩
theorem aE.cons{e:TypeId}{size:Nat}{v:Value}{n:Nat}{xs:List Value}{L:Own}(x:Nat × Obj)(g:aE e size v n xs L):aE e size v n xs (x::L):=
 ⟨g.1,match g.2 with|.inl e=>.inl e|.inr ⟨i,b,cap,zs,h1,h2,h3,h4⟩=>.inr ⟨i+1,b,cap,zs,h1,by simpa using h2,h3,h4⟩⟩

theorem aUt:∀dd:TypeDesc,(∀kd,dd≠.int kd)->(dd matches .int _)=false:=by intro dd hd;cases dd<;>simp at hd ⊢
theorem iC{P:Program}{t u ty e:TypeId}{dd:TypeDesc}{w:World}{s x:Value}(ht:P.underlying t=some (.slice e))(hu:P.underlying u=some dd)(hd:∀kd,dd≠.int kd):
  (Builtin.append_ #[t,u] ty #[s,x]).run P w=(Builtin.append_ #[t,t] ty #[s,x]).run P w:=by
 cases s<;>simp[Builtin.append_,run_underlying ht,run_underlying hu,aUt dd hd]

theorem aDn{v:Value}(h:gC v=true):v.oneCell'=true:=by cases v<;>simp_all [gC,Value.oneCell']

theorem App.grow{T:Tab}{e:TypeId}{size bytes:Nat}{s:Value}{h:aA}{L:Own}{k:Value->aA->Own->Prop}{z:List Value}{n:Nat}{xs:List Value}
  (hi:T.inf e=some (z,bytes)) (hz:z.length=size) (g:aE e size s n xs L)
  (ad:Addr) (m c:Nat) (news:List Value) (hl:news.length=m*size) (hnews:∀j,j<news.length->Has h L (ad.add j) (news.getD j undef)) (ho:news.all gC=true)
  (hm:n+m<=70368744177664) (hby:(n+m)*bytes<=140737488355328) (hsz:0<size)
  (hk:∀v' L',aE e size v' (n+m) (xs++news) L'->(∀x∈L,(∀b l c,s=.slice (some ⟨b,0,none⟩) l c->x.1≠b)->x∈L')->k v' h L'):
  App T e size bytes s (.slice (some ad) m c) h L k:=by
 refine⟨fun ok o ρ K Q w0 h0 L0 w ty cc hop hty hca hargs ht hsz2 hd inv hout hK=>?_⟩
 obtain⟨d,hd1,hd2⟩:=hd;obtain⟨i,zv,h1,h2,h3,h4,h5⟩:=ok.inf _ _ _ hi;have hsi:i.size=size:=by rw[h4,hz]
 have h1':∀u∈news,u.oneCell'=true:=fun u hu=>aDn ((List.all_eq_true.1 ho) u hu)
 have cell:∀(w:World),(∀a v,Has h L a v->w.cell? a=some v)->∀j u,news[j]?=some u->w.cell? (ad.add j)=some u:=fun w hc j u hu=>by
  obtain⟨hj,hju⟩:=bC9.1 hu;have:=hc _ _ (hnews j hj);rw[this];simp[bC7,hu]
 have hc0:=cell w fun a v hh=>inv.toSat.cell hh
 have hexec:∀r,(Builtin.append_ #[cc.argTypes.getD 0 0,cc.argTypes.getD 0 0] o.type #[s,.slice (some ad) m c]).run T.prog w=r->(execOp ρ.eval o).run T.prog w=r.andThen fun v w=>.ok (.value v) w:=by
  intro r hr;have he:cc.argTypes=#[cc.argTypes.getD 0 0,cc.argTypes.getD 1 0]:=by
   apply Array.ext
   .simp[hsz2]
   .intro j hj1 hj2;rw[hsz2] at hj1
    match j,hj1 with
    | 0,_=>simp[Array.getD,hsz2]
    | 1,_=>simp[Array.getD,hsz2]
  rw[<-hr,<-iC ht hd1 hd2,<-he];simp only[execOp,hop,resolve,hca,invoke,builtin,bEg,bEj,bEf,hargs]
 have fin:∀(v':Value) (L':Own) (w':World),(Builtin.append_ #[cc.argTypes.getD 0 0,cc.argTypes.getD 0 0] o.type #[s,.slice (some ad) m c]).run T.prog w=.ok v' w'->Inv w0 h0 L0 h L' w'->k v' h L'->o.wp T.prog ρ w K Q:=fun v' L' w' hr hinv hkk=>
  aX (hexec _ hr) (hK _ _ _ _ hinv hkk)
 refine .inl ?_;have hnl:∀cap,(Builtin.zeroCells zv.cells (cap-(n+m))).toList.length=(cap-(n+m))*size:=fun cap=>by
  rw[Array.length_toList,size_zeroCells,h3];simp[hz]
 obtain⟨gl,⟨rfl,rfl⟩|⟨j,b,cap,zs,rfl,hj,hnc,hlen⟩⟩:=g
 .have hx:xs=[]:=bDn (by simpa using gl);subst hx;by_cases hm0:m=0
  .subst hm0;have hn:news=[]:=bDn (by simpa using hl);subst hn;refine fin (.slice none 0 0) L w ?_ inv (hk _ _ (aE.nil _ _ _) fun x hx _=>hx)
   generalize cc.argTypes.getD 0 0=t at ht ⊢
   simp[Builtin.append_,run_underlying ht,sizeOf,typeInfo,h1,Builtin.lenOf,Builtin.firstCells,loadCells,loadCellsFrom]
  .have hr:=run_append_nil (P:=T.prog) w _ o.type e i zv ht h1 h2 ad m c news (by rw[hl,hsi]) hc0 Aa Aa (by rw[h5];simp only[bDu] at hby;omega);refine fin _ _ _ hr (inv.drew.alloc _ rfl) (hk _ _ ?_ fun x hx _=>bDh _ hx)
   have hge:=grownCap_ge w m 0 e;refine⟨by simpa using hl,.inr ⟨0,w.heap.size,_,(Builtin.zeroCells zv.cells (grownCap w m 0 e-m)).toList,by rw[bDu],?_,Aa,?_⟩⟩
   .simp
   .have:=hnl (grownCap w m 0 e);simp only[bDu] at this;rw[bEm,bC6,this,hl,<-bEc];congr 1;omega
 .have hown:w.heap[b]?=some (.cells (xs++zs).toArray e (0,0)):=inv.own _ (bDc hj);by_cases hroom:n+m<=cap
  .have hfit:n*i.size+news.length<=(xs++zs).toArray.size:=by rw[hsi,hl,bE6,hlen,<-bEc];exact bDq _ hroom
   have hr:=run_append_room (P:=T.prog) w _ o.type e i ht h1 b n cap (xs++zs).toArray hown ad m c news (by rw[hl,hsi]) hc0 h1' hroom hfit;have htake:(xs++zs).take (n*i.size)=xs:=by rw[hsi,<-gl];exact bF3
   rw[hsi] at hr hfit htake;simp only[htake] at hr;have hu:Upd w b (.cells (xs++news++(xs++zs).drop (n*size+news.length)).toArray e (0,0)) (w.setRow b (xs++news++(xs++zs).drop (n*size+news.length)).toArray):=
    ⟨setRow_heap w b _ _ e _ hown,fun x hx=>setRow_other w b x _ hx,by simp[World.setRow],rfl,rfl,rfl,rfl⟩
   obtain⟨hlt,hget⟩:=bC9.1 hj;refine fin _ _ _ hr (inv.upd hj hu) (hk _ _ ⟨by rw[bC6,gl,hl,bEc],.inr ⟨j,b,cap,(xs++zs).drop (n*size+news.length),rfl,?_,hroom,?_⟩⟩ fun x hx hne=>?_)
   .rw[bEy hlt]
   .have:=bD3 (l:=xs++zs) (i:=n*size+news.length);rw[bC6,bC6,this,hlen,gl,hl,<-bEc];have:(n+m)*size<=cap*size:=bDq _ hroom;omega
   .obtain⟨q,hq,rfl⟩:=bFh hx;have hqj:q≠j:=fun e=>by subst e;exact hne b n cap rfl (by rw[hget])
    refine bDc (i:=q) ?_;rw[List.getElem?_set_ne (Ne.symm hqj),bC8 hq]
  .have hxs:∀j u,xs[j]?=some u->w.cell? ((⟨b,0,none⟩:Addr).add j)=some u:=fun q u hu=>by
    rw[bB,bDu];refine inv.toSat.cell (Has.own j hj ?_);obtain⟨h1,h2⟩:=bC9.1 hu;simp[bDi h1,hu]
   have hr:=run_append_grow (P:=T.prog) w _ o.type e i zv ht h1 h2 ⟨b,0,none⟩ n cap xs (by rw[gl,hsi]) hxs ad m c news (by rw[hl,hsi]) hc0 Aa Aa (growslice_fits Aa (by rw[h5];exact hby));refine fin _ _ _ hr (inv.drew.alloc _ rfl) (hk _ _ ?_ fun x hx _=>bDh _ hx)
   have hge:=grownCap_ge w (n+m) cap e;refine⟨by rw[bC6,gl,hl,bEc],.inr ⟨0,w.heap.size,_,(Builtin.zeroCells zv.cells (grownCap w (n+m) cap e-(n+m))).toList,rfl,?_,hge,?_⟩⟩
   .simp
   .rw[bC6,hnl,bC6,gl,hl,<-bEc,<-bEc];congr 1;omega

theorem Ext.copy{T:Tab}{op:Op}{xs:List Operand}{h:aA}{L:Own}{k:Value->aA->Own->Prop}{dx sx:Operand}{dT sT e:TypeId}{z:List Value}{bytes:Nat}
  (hop:op=.call { callee:=.builtin .copy,args:=#[dx,sx],argTypes:=#[dT,sT] }) (hxs:xs=[dx,sx]) (ht:T.und dT=some (.slice e)) (hi:T.inf e=some (z,bytes)) (hz:z.length=1)
  (n:Nat) {b off dLen dCap sLen sCap:Nat} {sp:Option Addr} {old:List Value} {ET:TypeId} (hn:L[n]?=some (b,.cells old.toArray ET (0,0))) (hfit:off+dLen<=old.length) (vs:List Value) (hvs:vs.length=min sLen dLen)
  (hsrc:0<vs.length->∃ad,sp=some ad/\∀j,j<vs.length->Has h L (ad.add j) (vs.getD j undef)) (ho:vs.all gC=true)
  (hk:k (.int .i64 (vs.length:Nat)) h (L.set n (b,.cells (old.take off++vs++old.drop (off+vs.length)).toArray ET (0,0)))):
  Ext T op xs [.slice (some ⟨b,off,none⟩) dLen dCap,.slice sp sLen sCap] h L k:=by
 subst hop hxs;refine⟨fun ok o ρ K Q w0 h0 L0 w hop hargs inv hout _ hK=>.inl ?_⟩
 obtain⟨i,zv,h1,h2,h3,h4,h5⟩:=ok.inf _ _ _ hi;have hown:w.heap[b]?=some (.cells old.toArray ET (0,0)):=inv.own _ (bDc hn);obtain⟨hlt,hget⟩:=bC9.1 hn;have hu:=ok.und _ _ ht;have hsz:(T.prog.info? e).map (·.size)=some 1:=by rw[h1];simp[h4,hz]
 simp only[bEe,bFd,List.cons.injEq,and_true] at hargs;have hargs':Array.map ρ.eval #[dx,sx]=#[.slice (some ⟨b,off,none⟩) dLen dCap,.slice sp sLen sCap]:=by simp[hargs.1,hargs.2]
 have hexec:∀r,(Builtin.copy_ #[dT,sT] o.type #[.slice (some ⟨b,off,none⟩) dLen dCap,.slice sp sLen sCap]).run T.prog w=r->(execOp ρ.eval o).run T.prog w=r.andThen fun v w=>.ok (.value v) w:=by
  intro r hr;rw[<-hr];simp only[execOp,hop,resolve,invoke,builtin,bEg,bEj,bEf,hargs']
 by_cases h0:vs.length=0
 .obtain rfl:vs=[]:=bDn h0;have hrun:=run_copy_none (P:=T.prog) w dT sT o.type e (some ⟨b,off,none⟩) sp dLen dCap sLen sCap hu hsz (by simpa using hvs.symm);refine aX (hexec _ hrun) (hK _ _ _ _ inv ?_);have e1:L.set n (b,.cells (old.take off++[]++old.drop (off+([]:List Value).length)).toArray ET (0,0))=L:=by
   rw[bDg,bDd,bEh,bDo,<-hget,bGa]
  rw[e1] at hk;exact hk
 .obtain⟨ad,rfl,hs⟩:=hsrc Aa;have hrun:=run_copy_row (P:=T.prog) w dT sT o.type e b off dLen dCap ad sLen sCap old.toArray ET vs hu hsz hown hvs (fun j v hv=>by
    obtain⟨hj,hju⟩:=bC9.1 hv;rw[inv.toSat.cell (hs j hj)];simp[bC7,hv]) Aq (fun u hu=>aDn ((List.all_eq_true.1 ho) u hu))
  refine aX (hexec _ hrun) (hK _ _ _ _ (inv.upd hn ⟨setRow_heap w b _ _ ET _ hown,fun x hx=>setRow_other w b x _ hx,by simp[World.setRow],rfl,rfl,rfl,rfl⟩) (by simpa[goInt] using hk))

theorem CN.own{T:Tab}{f:FuncId}{args:List Value}{h:aA}{L:Own}{k:Value->aA->Own->Prop}{b:Nat}{o:Obj}{R:Value->aA->Own->Prop}(n:Nat)(hn:L[n]?=some (b,o))(ok:T.fn f=true)(hf:Fn T f args h [(b,o)] R)
  (hk:∀v h' La,h.le h'->R v h' La->∃o',La=[(b,o')]/\k v h' (L.set n (b,o'))):CN T f args h L k:=by
 obtain⟨hlt,hget⟩:=bC9.1 hn;have perm:∀(L:Own) (n:Nat) (x:Nat × Obj),n<L.length->(x::L.eraseIdx n).Perm (L.set n x):=by
  intro L
  induction L with
  | nil=>intro n x hl;simp at hl
  | cons y L ih=>
   intro n x hl
   match n with
   | 0=>simp
   | n+1=>
    simp only[bHo,bFj];exact (List.Perm.swap _ _ _).trans (List.Perm.cons _ (ih n x (by simpa using hl)))
 refine .of ok (.done ⟨[(b,o)],L.eraseIdx n,R,?_,hf,fun v h' La hl r=>?_⟩)
 .have:=(perm L n (b,o) hlt).symm
  rwa [<-hget,bGa,hget] at this
 .obtain⟨o',rfl,hkk⟩:=hk v h' La hl r;exact⟨_,perm L n (b,o') hlt,hkk⟩
end Go.Vc
/- Rows of numbers that grow by append: rules. -/
namespace Go.Vc
open Go Go.Dig

theorem aE.out{e:TypeId}{v:Value}{n:Nat}{xs:List Value}{L:Own}(g:aE e 1 v n xs L):
  (v=.slice none 0 0/\n=0/\xs=[])\/∃(i b cap:Nat) (zs:List Value),v=.slice (some ⟨b,0,none⟩) n cap/\L[i]?=some (b,Obj.cells (xs++zs).toArray e (0,0))/\n<=cap/\xs.length=n:=by
 obtain⟨g1,⟨rfl,rfl⟩|⟨i,b,cap,zs,rfl,h2,h3,-⟩⟩:=g
 .exact .inl ⟨rfl,rfl,bDn Aa⟩
 .exact .inr ⟨i,b,cap,zs,rfl,h2,h3,Aa⟩
theorem Ws.grown{kd:IntKind}{h:aA}{b:Nat}{e:TypeId}{xs:List Nat}{zs:List Value}{n cap:Nat}(hn:n=xs.length)(hc:n<=cap):Ws kd (h.put b (.cells (xs.map (vu kd)++zs).toArray e (0,0))) ⟨some ⟨b,0,none⟩,n,cap⟩ xs:=
 Ws.put hn hc fun i hi=>by
  rw[bDi (by simpa using hi)];simp[hi,vu,bC7]
theorem RN.grow{kd:IntKind}{e:TypeId}{v:Value}{n:Nat}{xs:List Nat}{h:aA}{L:Own}{R:Value->aA->Prop}(g:aE e 1 v n (xs.map (vu kd)) L)
  (hk:∀h' (s:Sl),h.le h'->v=s.val->Ws kd h' s xs->R v h'):RN v h L fun v h' L'=>L'=[]/\R v h':=by
 obtain⟨rfl,rfl,hx⟩|⟨i,b,cap,zs,rfl,h2,h3,h4⟩:=g.out
 .obtain rfl:xs=[]:=by simpa using hx
  exact RN.a (hk h ⟨none,0,0⟩ (aA.lr _) rfl (Ws.nil rfl))
 .exact RN.keep i h2 fun hle=>RN.a (hk _ ⟨some ⟨b,0,none⟩,n,cap⟩ hle rfl (Ws.grown (by simpa using h4.symm) h3))
theorem CN.grow{T:Tab}{f:FuncId}{args:List Value}{h:aA}{L:Own}{k:Value->aA->Own->Prop}{kd:IntKind}{e:TypeId}{v:Value}{n:Nat}{xs:List Nat}(g:aE e 1 v n (xs.map (vu kd)) L)(hf:T.fn f=true)
  (hk:∀h' L' (s:Sl),h.le h'->v=s.val->Ws kd h' s xs->CN T f args h' L' k):CN T f args h L k:=by
 obtain⟨rfl,rfl,hx⟩|⟨i,b,cap,zs,rfl,h2,h3,h4⟩:=g.out
 .obtain rfl:xs=[]:=by simpa using hx
  exact hk h L ⟨none,0,0⟩ (aA.lr _) rfl (Ws.nil rfl)
 .exact CN.keep i h2 hf fun hle=>hk _ _ ⟨some ⟨b,0,none⟩,n,cap⟩ hle rfl (Ws.grown (by simpa using h4.symm) h3)
theorem CN.quiet{T:Tab}{f:FuncId}{args:List Value}{h:aA}{L:Own}{k:Value->aA->Own->Prop}{v0:Value}(ok:T.fn f=true)(hf:Fn0 T f args h fun v h'=>h'=h/\v=v0)(hk:k v0 h L):CN T f args h L k:=
 CN.f ok hf fun v h' _ ⟨e1,e2⟩=>by rw[e1,e2];exact hk
theorem App.push{T:Tab}{e:TypeId}{bytes:Nat}{s:Value}{h:aA}{L:Own}{k:Value->aA->Own->Prop}{kd:IntKind}{n:Nat}{xs:List Nat}{z:Value}{b:Nat}{ET:TypeId}{y:Int}(hi:T.inf e=some ([z],bytes))
  (g:aE e 1 s n (xs.map (vu kd)) L) (x:Nat) (hx:y=x) (hn:n+1<=35184372088832) (hby:bytes<=4)
  (hk:∀v' L',aE e 1 v' (n+1) ((xs++[x]).map (vu kd)) L'->k v' h L'):App T e 1 bytes s (.slice (some ⟨b,0,none⟩) 1 1) h ((b,.cells [.int kd y].toArray ET (0,0))::L) k:=by
 subst hx;refine App.grow hi rfl (g.cons _) ⟨b,0,none⟩ 1 1 [.int kd x] rfl (fun j hj=>?_) rfl Aa (bDv (bFf hn hby) Ad) Nat.one_pos (fun v' L' g' _=>hk v' L' (by rw[bDl];exact g'))
 obtain rfl:j=0:=by simpa using hj
 exact Has.own 0 rfl rfl
theorem App.push2{T:Tab}{e:TypeId}{bytes:Nat}{s:Value}{h:aA}{L:Own}{k:Value->aA->Own->Prop}{kd:IntKind}{n:Nat}{xs:List Nat}{z:Value}{b:Nat}{ET:TypeId}{y y':Int}(hi:T.inf e=some ([z],bytes))
  (g:aE e 1 s n (xs.map (vu kd)) L) (x x':Nat) (hx:y=x) (hx':y'=x') (hn:n+2<=35184372088832) (hby:bytes<=4)
  (hk:∀v' L',aE e 1 v' (n+2) ((xs++[x,x']).map (vu kd)) L'->k v' h L'):App T e 1 bytes s (.slice (some ⟨b,0,none⟩) 2 2) h ((b,.cells [.int kd y,.int kd y'].toArray ET (0,0))::L) k:=by
 subst hx hx';refine App.grow hi rfl (g.cons _) ⟨b,0,none⟩ 2 2 [.int kd x,.int kd x'] rfl (fun j hj=>?_) rfl Aa (bDv (bFf hn hby) Ad) Nat.one_pos (fun v' L' g' _=>hk v' L' (by rw[bDl];exact g'))
 rw[bB]
 match j,hj with
 | 0,_=>exact Has.own 0 rfl rfl
 | 1,_=>exact Has.own 0 rfl rfl
theorem App.nil{T:Tab}{e:TypeId}{size bytes:Nat}{s:Value}{h:aA}{L:Own}{k:Value->aA->Own->Prop}{z:List Value}{n:Nat}{xs:List Value}
  {c:Nat} (hi:T.inf e=some (z,bytes)) (g:aE e size s n xs L) (hk:k s h L):App T e size bytes s (.slice none 0 c) h L k:=by
 refine⟨fun ok o ρ K Q w0 h0 L0 w ty cc hop hty hca hargs ht hsz2 hd inv hout hK=>?_⟩
 obtain⟨d,hd1,hd2⟩:=hd;obtain⟨i,zv,h1,h2,h3,h4,h5⟩:=ok.inf _ _ _ hi;have hexec:∀r,(Builtin.append_ #[cc.argTypes.getD 0 0,cc.argTypes.getD 0 0] o.type #[s,.slice none 0 c]).run T.prog w=r->(execOp ρ.eval o).run T.prog w=r.andThen fun v w=>.ok (.value v) w:=by
  intro r hr;have he:cc.argTypes=#[cc.argTypes.getD 0 0,cc.argTypes.getD 1 0]:=by
   apply Array.ext
   .simp[hsz2]
   .intro j hj1 hj2;rw[hsz2] at hj1
    match j,hj1 with
    | 0,_=>simp[Array.getD,hsz2]
    | 1,_=>simp[Array.getD,hsz2]
  rw[<-hr,<-iC ht hd1 hd2,<-he];simp only[execOp,hop,resolve,hca,invoke,builtin,bEg,bEj,bEf,hargs]
 refine .inl (aX (hexec (.ok s w) ?_) (hK _ _ _ _ inv hk))
 generalize cc.argTypes.getD 0 0=t at ht ⊢
 obtain⟨gl,⟨rfl,rfl⟩|⟨j,b,cap,zs,rfl,hj,hnc,hlen⟩⟩:=g
 .simp[Builtin.append_,run_underlying ht,sizeOf,typeInfo,h1,Builtin.lenOf,Builtin.firstCells,loadCells,loadCellsFrom]
 .simp[Builtin.append_,run_underlying ht,sizeOf,typeInfo,h1,Builtin.lenOf,Builtin.firstCells,loadCells,loadCellsFrom,hnc,storeCells]
theorem aE.new{e:TypeId}{kd:IntKind}{z:Value}{b m:Nat}{L:Own}(i:Nat)(h:L[i]?=some (b,.cells (List.replicate m z).toArray e (0,0))):aE e 1 (.slice (some ⟨b,0,none⟩) 0 m) 0 (([]:List Nat).map (vu kd)) L:=
 ⟨rfl,.inr ⟨i,b,m,List.replicate m z,rfl,by simpa using h,Aa,by simp⟩⟩
theorem aE.none{e:TypeId}{kd:IntKind}{L:Own}:aE e 1 (.slice none 0 0) 0 (([]:List Nat).map (vu kd)) L:=aE.nil _ _ _
theorem App.all{T:Tab}{e:TypeId}{bytes:Nat}{s:Value}{h:aA}{L:Own}{k:Value->aA->Own->Prop}{kd:IntKind}{n:Nat}{xs:List Nat}{z:Value}{t:Sl}{l:List Nat}(hi:T.inf e=some ([z],bytes))
  (g:aE e 1 s n (xs.map (vu kd)) L) (w:Ws kd h t l) (ht:t.a≠none) (hn:n+l.length<=35184372088832) (hby:bytes<=4)
  (hk:∀v' L',aE e 1 v' (n+l.length) ((xs++l).map (vu kd)) L'->k v' h L'):App T e 1 bytes s t.val h L k:=by
 obtain⟨a,ln,c⟩:=t
 match a,ht with
 | some a,_=>
  have hl:ln=l.length:=w.len;subst hl;refine App.grow hi rfl g a l.length c (l.map (vu kd)) Ao (fun j hj=>?_) (by simp[vu,gC]) Aa (bDv (bFf hn hby) Ad) Nat.one_pos (fun v' L' g' _=>hk v' L' (by rw[bDl];exact g'))
  simp at hj;obtain⟨b',off,c,T',fz,h1,h2,h3⟩:=w.mem (by rintro rfl;simp at hj);cases h1;rw[bB];refine Has.imm h2 ?_;rw[h3 j hj];simp[hj,vu,bC7]
theorem App.any{T:Tab}{e:TypeId}{bytes:Nat}{s:Value}{h:aA}{L:Own}{k:Value->aA->Own->Prop}{kd:IntKind}{n:Nat}{xs:List Nat}{z:Value}{t:Sl}{l:List Nat}(hi:T.inf e=some ([z],bytes))
  (g:aE e 1 s n (xs.map (vu kd)) L) (w:Ws kd h t l) (hn:n+l.length<=35184372088832) (hby:bytes<=4)
  (hk:∀v' L',aE e 1 v' (n+l.length) ((xs++l).map (vu kd)) L'->k v' h L'):App T e 1 bytes s t.val h L k:=by
 by_cases ha:t.a=none
 .obtain rfl:l=[]:=by
   rcases bGk l with e|⟨_,_,e⟩
   .exact e
   .obtain⟨b,off,_,_,_,hx,-⟩:=w.mem (by rw[e];simp);rw[ha] at hx;cases hx
  have h1:=w.len;obtain⟨a,ln,c⟩:=t;cases ha;cases h1;exact App.nil hi g (hk _ _ (by simpa using g))
 .exact App.all hi g w ha hn hby hk
end Go.Vc
namespace Go.Dig
theorem aKp{b:Nat}(hb:2<=b){l:List Nat}(h:∀x∈l,x<b)(hl:l.length=0\/b^(l.length-1)<=evl b l):dg b (evl b l)=l:=by
 refine aDg hb h fun hne h0=>?_
 have hpos:=List.length_pos_iff.2 hne;have hlast:l.getD (l.length-1) 0=0:=by
  rw[bHm] at h0;rw[bC7,bC8 Aa];exact h0
 have e:=nO (b:=b) (l:=l) (k:=l.length-1) Aa;rw[hlast,bFc,bEh,Nat.sub_add_cancel hpos,bDm] at e;have hlt:=iS hb (l:=l.take (l.length-1)) fun x hx=>h x (bEd hx)
 rw[show (l.take (l.length-1)).length=l.length-1 by simp] at hlt
 omega
end Go.Dig