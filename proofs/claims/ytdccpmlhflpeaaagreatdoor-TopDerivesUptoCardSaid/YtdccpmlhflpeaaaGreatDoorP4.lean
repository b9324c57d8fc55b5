/- Rows that grow by append ahead of other memory of the call's own; more than one number appended. -/
import Derived.Test.YtdccpmlhflpeaaaGreatDoorU2
set_option linter.all false
set_option maxHeartbeats 2000000
set_option maxRecDepth 20000
namespace Go.Vc
open Go Go.Dig

theorem App.growA{T:Tab}{e:TypeId}{size bytes:Nat}{s:Value}{h:aA}{A F tl:Own}{k:Value->aA->Own->Prop}{z:List Value}{n:Nat}{xs:List Value}
  (hi:T.inf e=some (z,bytes)) (hz:z.length=size) (g:aE e size s n xs F)
  (ad:Addr) (m c:Nat) (news:List Value) (hl:news.length=m*size) (hnews:∀j,j<news.length->Has h (A++(F++tl)) (ad.add j) (news.getD j undef)) (ho:news.all gC=true)
  (hm0:0<m) (hm:n+m<=70368744177664) (hby:(n+m)*bytes<=140737488355328) (hsz:0<size)
  (hk:∀v' F',aE e size v' (n+m) (xs++news) F'->(∀x∈A,x∈F')->k v' h (F'++tl)):
  App T e size bytes s (.slice (some ad) m c) h (A++(F++tl)) k:=by
 refine⟨fun ok o ρ K Q w0 h0 L0 w ty cc hop hty hca hargs ht hsz2 hd inv hout hK=>?_⟩
 obtain⟨d,hd1,hd2⟩:=hd;obtain⟨i,zv,h1,h2,h3,h4,h5⟩:=ok.inf _ _ _ hi;have hsi:i.size=size:=by rw[h4,hz]
 have h1':∀u∈news,u.oneCell'=true:=fun u hu=>aDn ((List.all_eq_true.1 ho) u hu)
 have cell:∀(w:World),(∀a v,Has h (A++(F++tl)) a v->w.cell? a=some v)->∀j u,news[j]?=some u->w.cell? (ad.add j)=some u:=fun w hc j u hu=>by
  obtain⟨hj,hju⟩:=bC9.1 hu;have:=hc _ _ (hnews j hj);rw[this];simp[bC7,hu]
 have hc0:=cell w fun a v hh=>inv.toSat.cell hh
 have hexec:∀r,(Builtin.append_ #[cc.argTypes.getD 0 0,cc.argTypes.getD 0 0] o.type #[s,.slice (some ad) m c]).run T.prog w=r->(execOp ρ.eval o).run T.prog w=r.andThen fun v w=>.ok (.value v) w:=by
  intro r hr;have he:cc.argTypes=#[cc.argTypes.getD 0 0,cc.argTypes.getD 1 0]:=by
   apply Array.ext
   .simp[hsz2]
   .intro j hj1 hj2;rw[hsz2] at hj1
    match j,hj1 with
    | 0,_=>simp[Array.getD,hsz2]
    | 1,_=>simp[Array.getD,hsz2]
  rw[<-hr,<-iC ht hd1 hd2,<-he];simp only[execOp,hop,resolve,hca,invoke,builtin,bEg,bEj,bEf,hargs]
 have fin:∀(v':Value) (L':Own) (w':World),(Builtin.append_ #[cc.argTypes.getD 0 0,cc.argTypes.getD 0 0] o.type #[s,.slice (some ad) m c]).run T.prog w=.ok v' w'->Inv w0 h0 L0 h L' w'->k v' h L'->o.wp T.prog ρ w K Q:=fun v' L' w' hr hinv hkk=>
  aX (hexec _ hr) (hK _ _ _ _ hinv hkk)
 refine .inl ?_;have hnl:∀cap,(Builtin.zeroCells zv.cells (cap-(n+m))).toList.length=(cap-(n+m))*size:=fun cap=>by
  rw[Array.length_toList,size_zeroCells,h3];simp[hz]
 obtain⟨gl,⟨rfl,rfl⟩|⟨j,b,cap,zs,rfl,hj,hnc,hlen⟩⟩:=g
 .have hx:xs=[]:=bDn (by simpa using gl);subst hx;have hr:=run_append_nil (P:=T.prog) w _ o.type e i zv ht h1 h2 ad m c news (by rw[hl,hsi]) hc0 Aa Aa (by rw[h5];simp only[bDu] at hby;omega);refine fin _ _ _ hr (inv.drew.alloc _ rfl) ?_;rw[<-bDb,<-bEn];refine hk _ (_::(A++F)) ?_ (fun x hx=>bDh _ (bDz _ hx))
  have hge:=grownCap_ge w m 0 e;refine⟨by simpa using hl,.inr ⟨0,w.heap.size,_,(Builtin.zeroCells zv.cells (grownCap w m 0 e-m)).toList,by rw[bDu],?_,Aa,?_⟩⟩
  .simp
  .have:=hnl (grownCap w m 0 e);simp only[bDu] at this;rw[bEm,bC6,this,hl,<-bEc];congr 1;omega
 .obtain⟨hlt,hget⟩:=bC9.1 hj;have hj':(A++(F++tl))[A.length+j]?=some (b,.cells (xs++zs).toArray e (0,0)):=by
   rw[bDs Aa,bEw,bDi hlt];exact hj
  have hown:w.heap[b]?=some (.cells (xs++zs).toArray e (0,0)):=inv.own _ (bDc hj');by_cases hroom:n+m<=cap
  .have hfit:n*i.size+news.length<=(xs++zs).toArray.size:=by rw[hsi,hl,bE6,hlen,<-bEc];exact bDq _ hroom
   have hr:=run_append_room (P:=T.prog) w _ o.type e i ht h1 b n cap (xs++zs).toArray hown ad m c news (by rw[hl,hsi]) hc0 h1' hroom hfit;have htake:(xs++zs).take (n*i.size)=xs:=by rw[hsi,<-gl];exact bF3
   rw[hsi] at hr hfit htake;simp only[htake] at hr;have hu:Upd w b (.cells (xs++news++(xs++zs).drop (n*size+news.length)).toArray e (0,0)) (w.setRow b (xs++news++(xs++zs).drop (n*size+news.length)).toArray):=
    ⟨setRow_heap w b _ _ e _ hown,fun x hx=>setRow_other w b x _ hx,by simp[World.setRow],rfl,rfl,rfl,rfl⟩
   refine fin _ _ _ hr (inv.upd hj' hu) ?_;rw[bEo _ _ Aa,bEw,bHc _ _ hlt,<-bDb];refine hk _ _ ⟨by rw[bC6,gl,hl,bEc],.inr ⟨A.length+j,b,cap,(xs++zs).drop (n*size+news.length),rfl,?_,hroom,?_⟩⟩ (fun x hx=>bDz _ hx)
   .rw[bDs Aa,bEw,bEy hlt]
   .have:=bD3 (l:=xs++zs) (i:=n*size+news.length);rw[bC6,bC6,this,hlen,gl,hl,<-bEc];have:(n+m)*size<=cap*size:=bDq _ hroom;omega
  .have hxs:∀j u,xs[j]?=some u->w.cell? ((⟨b,0,none⟩:Addr).add j)=some u:=fun q u hu=>by
    rw[bB,bDu];refine inv.toSat.cell (Has.own (A.length+j) hj' ?_);obtain⟨h1,h2⟩:=bC9.1 hu;simp[bDi h1,hu]
   have hr:=run_append_grow (P:=T.prog) w _ o.type e i zv ht h1 h2 ⟨b,0,none⟩ n cap xs (by rw[gl,hsi]) hxs ad m c news (by rw[hl,hsi]) hc0 Aa Aa (growslice_fits Aa (by rw[h5];exact hby));refine fin _ _ _ hr (inv.drew.alloc _ rfl) ?_;rw[<-bDb,<-bEn];refine hk _ (_::(A++F)) ?_ (fun x hx=>bDh _ (bDz _ hx))
   have hge:=grownCap_ge w (n+m) cap e;refine⟨by rw[bC6,gl,hl,bEc],.inr ⟨0,w.heap.size,_,(Builtin.zeroCells zv.cells (grownCap w (n+m) cap e-(n+m))).toList,rfl,?_,hge,?_⟩⟩
   .simp
   .rw[bC6,hnl,bC6,gl,hl,<-bEc,<-bEc];congr 1;omega

theorem App.growK{T:Tab}{e:TypeId}{size bytes:Nat}{s:Value}{h:aA}{A F tl:Own}{k:Value->aA->Own->Prop}{z:List Value}{n:Nat}{xs:List Value}
  (hi:T.inf e=some (z,bytes)) (hz:z.length=size) (g:aE e size s n xs F)
  (ad:Addr) (m c:Nat) (news:List Value) (hl:news.length=m*size) (hnews:∀j,j<news.length->Has h (A++(F++tl)) (ad.add j) (news.getD j undef)) (ho:news.all gC=true)
  (hm0:0<m) (hm:n+m<=70368744177664) (hby:(n+m)*bytes<=140737488355328) (hsz:0<size)
  (hk:∀v' F',aE e size v' (n+m) (xs++news) F'->k v' h (A++(F'++tl))):
  App T e size bytes s (.slice (some ad) m c) h (A++(F++tl)) k:=by
 refine⟨fun ok o ρ K Q w0 h0 L0 w ty cc hop hty hca hargs ht hsz2 hd inv hout hK=>?_⟩
 obtain⟨d,hd1,hd2⟩:=hd;obtain⟨i,zv,h1,h2,h3,h4,h5⟩:=ok.inf _ _ _ hi;have hsi:i.size=size:=by rw[h4,hz]
 have h1':∀u∈news,u.oneCell'=true:=fun u hu=>aDn ((List.all_eq_true.1 ho) u hu)
 have cell:∀(w:World),(∀a v,Has h (A++(F++tl)) a v->w.cell? a=some v)->∀j u,news[j]?=some u->w.cell? (ad.add j)=some u:=fun w hc j u hu=>by
  obtain⟨hj,hju⟩:=bC9.1 hu;have:=hc _ _ (hnews j hj);rw[this];simp[bC7,hu]
 have hc0:=cell w fun a v hh=>inv.toSat.cell hh
 have hexec:∀r,(Builtin.append_ #[cc.argTypes.getD 0 0,cc.argTypes.getD 0 0] o.type #[s,.slice (some ad) m c]).run T.prog w=r->(execOp ρ.eval o).run T.prog w=r.andThen fun v w=>.ok (.value v) w:=by
  intro r hr;have he:cc.argTypes=#[cc.argTypes.getD 0 0,cc.argTypes.getD 1 0]:=by
   apply Array.ext
   .simp[hsz2]
   .intro j hj1 hj2;rw[hsz2] at hj1
    match j,hj1 with
    | 0,_=>simp[Array.getD,hsz2]
    | 1,_=>simp[Array.getD,hsz2]
  rw[<-hr,<-iC ht hd1 hd2,<-he];simp only[execOp,hop,resolve,hca,invoke,builtin,bEg,bEj,bEf,hargs]
 have fin:∀(v':Value) (L':Own) (w':World),(Builtin.append_ #[cc.argTypes.getD 0 0,cc.argTypes.getD 0 0] o.type #[s,.slice (some ad) m c]).run T.prog w=.ok v' w'->Inv w0 h0 L0 h L' w'->k v' h L'->o.wp T.prog ρ w K Q:=fun v' L' w' hr hinv hkk=>
  aX (hexec _ hr) (hK _ _ _ _ hinv hkk)
 refine .inl ?_;have hnl:∀cap,(Builtin.zeroCells zv.cells (cap-(n+m))).toList.length=(cap-(n+m))*size:=fun cap=>by
  rw[Array.length_toList,size_zeroCells,h3];simp[hz]
 obtain⟨gl,⟨rfl,rfl⟩|⟨j,b,cap,zs,rfl,hj,hnc,hlen⟩⟩:=g
 .have hx:xs=[]:=bDn (by simpa using gl);subst hx;have hr:=run_append_nil (P:=T.prog) w _ o.type e i zv ht h1 h2 ad m c news (by rw[hl,hsi]) hc0 Aa Aa (by rw[h5];simp only[bDu] at hby;omega);have iv:=Inv.perm (inv.drew.alloc (.cells (news.toArray++Builtin.zeroCells zv.cells (grownCap w m 0 e-m)) e) rfl) (bH2 (l₁:=A) (l₂:=F++tl)).symm;refine fin _ _ _ hr iv ?_;refine hk _ (_::F) ?_;have hge:=grownCap_ge w m 0 e;refine⟨by simpa using hl,.inr ⟨0,w.heap.size,_,(Builtin.zeroCells zv.cells (grownCap w m 0 e-m)).toList,by rw[bDu],?_,Aa,?_⟩⟩
  .simp
  .have:=hnl (grownCap w m 0 e);simp only[bDu] at this;rw[bEm,bC6,this,hl,<-bEc];congr 1;omega
 .obtain⟨hlt,hget⟩:=bC9.1 hj;have hj':(A++(F++tl))[A.length+j]?=some (b,.cells (xs++zs).toArray e (0,0)):=by
   rw[bDs Aa,bEw,bDi hlt];exact hj
  have hown:w.heap[b]?=some (.cells (xs++zs).toArray e (0,0)):=inv.own _ (bDc hj');by_cases hroom:n+m<=cap
  .have hfit:n*i.size+news.length<=(xs++zs).toArray.size:=by rw[hsi,hl,bE6,hlen,<-bEc];exact bDq _ hroom
   have hr:=run_append_room (P:=T.prog) w _ o.type e i ht h1 b n cap (xs++zs).toArray hown ad m c news (by rw[hl,hsi]) hc0 h1' hroom hfit;have htake:(xs++zs).take (n*i.size)=xs:=by rw[hsi,<-gl];exact bF3
   rw[hsi] at hr hfit htake;simp only[htake] at hr;have hu:Upd w b (.cells (xs++news++(xs++zs).drop (n*size+news.length)).toArray e (0,0)) (w.setRow b (xs++news++(xs++zs).drop (n*size+news.length)).toArray):=
    ⟨setRow_heap w b _ _ e _ hown,fun x hx=>setRow_other w b x _ hx,by simp[World.setRow],rfl,rfl,rfl,rfl⟩
   refine fin _ _ _ hr (inv.upd hj' hu) ?_;rw[bEo _ _ Aa,bEw,bHc _ _ hlt];refine hk _ _ ⟨by rw[bC6,gl,hl,bEc],.inr ⟨j,b,cap,(xs++zs).drop (n*size+news.length),rfl,?_,hroom,?_⟩⟩
   .rw[bEy hlt]
   .have:=bD3 (l:=xs++zs) (i:=n*size+news.length);rw[bC6,bC6,this,hlen,gl,hl,<-bEc];have:(n+m)*size<=cap*size:=bDq _ hroom;omega
  .have hxs:∀j u,xs[j]?=some u->w.cell? ((⟨b,0,none⟩:Addr).add j)=some u:=fun q u hu=>by
    rw[bB,bDu];refine inv.toSat.cell (Has.own (A.length+j) hj' ?_);obtain⟨h1,h2⟩:=bC9.1 hu;simp[bDi h1,hu]
   have hr:=run_append_grow (P:=T.prog) w _ o.type e i zv ht h1 h2 ⟨b,0,none⟩ n cap xs (by rw[gl,hsi]) hxs ad m c news (by rw[hl,hsi]) hc0 Aa Aa (growslice_fits Aa (by rw[h5];exact hby));have iv:=Inv.perm (inv.drew.alloc (.cells (xs.toArray++news.toArray++Builtin.zeroCells zv.cells (grownCap w (n+m) cap e-(n+m))) e) rfl) (bH2 (l₁:=A) (l₂:=F++tl)).symm;refine fin _ _ _ hr iv ?_;refine hk _ (_::F) ?_;have hge:=grownCap_ge w (n+m) cap e;refine⟨by rw[bC6,gl,hl,bEc],.inr ⟨0,w.heap.size,_,(Builtin.zeroCells zv.cells (grownCap w (n+m) cap e-(n+m))).toList,rfl,?_,hge,?_⟩⟩
   .simp
   .rw[bC6,hnl,bC6,gl,hl,<-bEc,<-bEc];congr 1;omega

theorem App.growB{T:Tab}{e:TypeId}{size bytes:Nat}{s:Value}{h:aA}{A F:Own}{k:Value->aA->Own->Prop}{z:List Value}{n:Nat}{xs:List Value}
  (hi:T.inf e=some (z,bytes)) (hz:z.length=size) (g:aE e size s n xs F)
  (ad:Addr) (m c:Nat) (news:List Value) (hl:news.length=m*size) (hnews:∀j,j<news.length->Has h (A++F) (ad.add j) (news.getD j undef)) (ho:news.all gC=true)
  (hm0:0<m) (hm:n+m<=70368744177664) (hby:(n+m)*bytes<=140737488355328) (hsz:0<size)
  (hk:∀v' F',aE e size v' (n+m) (xs++news) F'->(∀x∈A,x∈F')->k v' h F'):
  App T e size bytes s (.slice (some ad) m c) h (A++F) k:=by
 have:=App.growA (T:=T) (A:=A) (F:=F) (tl:=[]) (k:=k) hi hz g ad m c news hl (by simpa using hnews) ho hm0 hm hby hsz (fun v' F' g' hA=>by rw[bDg];exact hk v' F' g' hA)
 simpa using this
theorem Ld.mem{h:aA}{L:Own}{b off:Nat}{k:Value->Prop}{l:List Value}{T:TypeId}{fz:Nat × Nat}{v:Value}(hb:(b,Obj.cells l.toArray T fz)∈L)(hl:l[off]?=some v)(hk:k v):Ld h L ⟨b,off,none⟩ k:=by
 obtain⟨n,hn⟩:=List.getElem?_of_mem hb;exact Ld.o n hn (by simpa using hl) hk
theorem mL(G:Own)(x:Nat × Obj)(tl:Own):(G++x::tl)[G.length]?=some x:=by simp
theorem aE.sl{e:TypeId}{size:Nat}{v:Value}{n:Nat}{xs:List Value}{G:Own}(g:aE e size v n xs G):∃s:Sl,v=s.val:=by
 obtain⟨-,⟨rfl,-⟩|⟨i,b,cap,zs,rfl,-⟩⟩:=g
 .exact⟨⟨Option.none,0,0⟩,rfl⟩
 .exact⟨⟨some ⟨b,0,Option.none⟩,n,cap⟩,rfl⟩
theorem LpN.keep0{body:fN->Env->aA->Own->Prop}{ws:List Nat}{Q:fN}{ρ:Env}{h:aA}{L:Own}{b:Nat}{o:Obj}(hk:∀h',h.le h'->h' b=some o->LpN body ws Q ρ h' L):LpN body ws Q ρ h ((b,o)::L):=
 LpN.keep 0 rfl fun hle=>hk _ hle (by simp[aA.put])
theorem LdN.three{h:aA}{L:Own}{b off:Nat}{k:Value->Prop}{l:List Value}{T:TypeId}{fz:Nat × Nat}{u v w:Value}(hb:h b=some (.cells l.toArray T fz)\/(b,Obj.cells l.toArray T fz)∈L)(h0:l[off]?=some u)(h1:l[off+1]?=some v)(h2:l[off+2]?=some w)(hk:k (.agg #[u,v,w])):LdN h L ⟨b,off,none⟩ 3 k:=
 ⟨[u,v,w],rfl,fun i hi=>by
   rw[bB];refine⟨rfl,_,_,_,hb,?_⟩
   match i,hi with
   | 0,_=>simpa using h0
   | 1,_=>simpa using h1
   | 2,_=>simpa using h2,hk⟩
theorem Has.three{h:aA}{b:Nat}{u v w:Value}{T:TypeId}{fz:Nat × Nat}(L:Own)(j:Nat)(hj:j < [u,v,w].length):Has h ((b,.cells [u,v,w].toArray T fz)::L) ((⟨b,0,none⟩:Addr).add j) ([u,v,w].getD j undef):=by
 rw[bB];refine⟨rfl,_,_,_,.inr (bDe),?_⟩
 match j,hj with
 | 0,_=>rfl
 | 1,_=>rfl
 | 2,_=>rfl
end Go.Vc
/- Texts that are read: bytes of a text, parts of it, its leading digits, the number of decimal digits. -/
namespace Go.Vc
open Go
def rl(s:ByteArray):List Nat:=s.data.toList.map UInt8.toNat
theorem aVa{l:List Nat}{j:Nat}(hj:j<l.length):(txt l)[j]?=some (UInt8.ofNat (l.getD j 0)):=by
 have h:j<(txt l).size:=by rw[bF];exact hj
 rw[getElem?_pos (txt l) j h,ByteArray.getElem_eq_getElem_data];simp[txt,bC7,hj]
theorem eZ(l:List Nat)(a b:Nat):(txt l).extract a b=txt ((l.take b).drop a):=by
 unfold txt;apply ByteArray.ext;by_cases h:a<=b
 .simp[ByteArray.data_extract,List.map_take,List.map_drop,List.take_drop,Nat.add_sub_cancel' h]
 .have h1:b-a=0:=Aa;simp[ByteArray.data_extract,List.map_take,List.map_drop,h1];omega
theorem uH{a b:List Nat}(ha:∀y∈a,y<256)(hb:∀y∈b,y<256)(h:txt a=txt b):a=b:=by
 have key:∀l:List Nat,(∀y∈l,y<256)->rl (txt l)=l:=fun l hl=>by
  unfold rl txt;simp only[bGx];apply bG0 Ao;intro i h1 h2;simp;exact hl _ (bFe h2)
 rw[<-key a ha,<-key b hb,h]
theorem eB.txt{s:ByteArray}{i:Int}{k:Int->Prop}(l:List Nat)(hs:s=Vc.txt l)(hb:∀y∈l,y<256)(j:Nat)(hi:i=j)(hj:j<l.length)(hk:k ((l.getD j 0:Nat):Int)):eB s i k:=by
 refine⟨j,_,hi,by rw[hs];exact aVa hj,?_⟩
 have:l.getD j 0<256:=hb _ (by simp[bC7,hj]);rw[UInt8.toNat_ofNat',bEl this];exact hk
theorem Cut.txt{x y z:Int}{k:Nat->Nat->Nat->Prop}(l:List Nat)(a b:Nat)(hx:x=a)(hy:y=b)(hz:z=(Vc.txt l).size)(h1:a<=b)(h2:b<=l.length)(hk:k a b (Vc.txt l).size):Cut x y z k:=
 ⟨a,b,(Vc.txt l).size,hx,hy,hz,h1,by rw[bF];exact h2,hk⟩
theorem eB.at{s:ByteArray}{i:Int}{k:Int->Prop}(l:List Nat)(c:Nat)(hs:s=Vc.txt l)(hb:∀y∈l,y<256)(j:Nat)(hi:i=j)(hc:l[j]?=some c)(hk:k (c:Int)):eB s i k:=by
 obtain⟨hj,e⟩:=bC9.1 hc;refine eB.txt l hs hb j hi hj ?_;rw[bC7,hc];exact hk
theorem iO{s e:ByteArray}{p q:Prop}(l:List Nat)(hs:s=txt l)(he:e=txt [])(hp:l=[]->p)(hq:l≠[]->q):cnd (seq s e) p q:=by
 refine aDe (fun h=>hp ?_) (fun h=>hq fun hl=>h ?_)
 .have:=congrArg ByteArray.size (hs.symm.trans (h.trans he));rw[bF,bF] at this;exact bDn this
 .rw[hs,he,hl]
end Go.Vc
namespace Go.Dig
def dgt(c:Nat):Bool:=Nat.ble 48 c && Nat.ble c 57
theorem eN{c:Nat}:dgt c=true↔48<=c/\c<=57:=by unfold dgt;simp[Nat.ble_eq]
theorem aQd(l:List Nat):∀k,k<=l.length->(∀i,i<k->dgt (l.getD i 0)=true)->(k=l.length\/¬dgt (l.getD k 0)=true)->l.takeWhile dgt=l.take k/\l.dropWhile dgt=l.drop k:=by
 induction l with
 | nil=>intro k hk _ _;simp at hk;subst hk;simp
 | cons c l ih=>
  intro k hk h1 h2;cases k with
  | zero=>
   rcases h2 with h2|h2
   .simp at h2
   .simp at h2;simp[h2]
  | succ k=>
   have hc:=h1 0 Aa;simp at hc;have:=ih k (by simpa using hk) (fun i hi=>by have:=h1 (i+1) Aa;simpa using this) (by
     rcases h2 with h2|h2
     .left;simpa using h2
     .right;simpa using h2)
   simp[bF0,List.dropWhile_cons,hc,this]
def dM(l:List Nat):Nat:=l.foldl (fun a c=>10*a+(c-48)) 0
theorem aQe:dM []=0:=rfl
theorem aBz(l:List Nat)(c:Nat):dM (l++[c])=10*dM l+(c-48):=by unfold dM;rw[List.foldl_append];rfl
theorem aYu(m:List Nat):∀a,m.foldl (fun a c=>10*a+(c-48)) a=a*10^m.length+m.foldl (fun a c=>10*a+(c-48)) 0:=by
 induction m with
 | nil=>intro a;simp
 | cons c m ih=>
  intro a;rw[List.foldl_cons,List.foldl_cons,ih,ih (10*0+(c-48)),bDa,bEk,bFc,bDu,bEc,bE4]
  congr 1
  rw[bDj 10 a,bEa,bDj 10]
theorem qY(l m:List Nat):dM (l++m)=dM l*10^m.length+dM m:=by
 unfold dM;rw[List.foldl_append,aYu]
theorem aKy{l:List Nat}(h:∀c∈l,dgt c=true):dM l<10^l.length:=by
 induction l with
 | nil=>simp[dM]
 | cons c l ih=>
  have h1:=eN.1 (h c bDe);have h2:=ih fun d hd=>h d (bDh _ hd)
  have h3:dM (c::l)=(c-48)*10^l.length+dM l:=by
   have:=qY [c] l
   simpa[dM] using this
  have h4:(c-48)*10^l.length<=9*10^l.length:=bDq _ Aa;rw[h3,bDa,bEk];omega
theorem xS{l:List Nat}(h:∀c∈l,dgt c=true):ln 4294967296 (dM l)<=l.length:=by
 rw[aL Ad];exact bD9 (aKy h) (bGf Ad _)
theorem aNb{l:List Nat}{k i:Nat}(hk:k<=i)(hi:i<l.length):(l.take (i+1)).drop k=(l.take i).drop k++[l.getD i 0]:=by
 rw[List.take_add_one,bC8 hi,bG1 Aq];simp[bC7,hi]
theorem aQf{l:List Nat}{k e:Nat}(hk:k<=e):l.take e=l.take k++(l.take e).drop k:=by
 conv=>lhs;rw[<-bDo k (l.take e)]
 rw[List.take_take,bE9 hk]
theorem aKz{l:List Nat}:∀c∈l.takeWhile dgt,dgt c=true:=fun c hc=>by
 induction l with
 | nil=>simp at hc
 | cons d l ih=>
  rw[bF0] at hc
  split at hc
  .rcases bDp.1 hc with rfl|h
   .assumption
   .exact ih h
  .simp at hc
end Go.Dig
namespace Go.Proofs.Y
open Go Go.Vc Go.Dig
theorem aQg(h:aA)(l:List Nat)(hb:∀y∈l,y<256)(hl:l.length<=1000000000):Fn0 T F.q140 [.string (txt l)] h fun v h'=>h'=h/\v=.tuple #[.string (txt (l.takeWhile dgt)),.string (txt (l.dropWhile dgt))]:=by
 have hz:=bF l;refine f0C ok D.q140 rfl ?_;conv=>whnf
 repeat ((first|apply oI.z|apply cI.z);conv=>whnf)
 skip
 refine LpN.of (fun r ρ h' L=>∃k:Nat,r=l.length-k/\h'=h/\rd ρ 4=.int .i64 k/\k<=l.length/\Hq (∀i,i<k->dgt (l.getD i 0)=true)) l.length ⟨0,rfl,rfl,vi Aa,Aa,⟨fun i hi=>by omega⟩⟩ ?_
 conv=>whnf
 repeat intro _
 rename_i r h1 L1 hI;obtain⟨k,rfl,rfl,e4,hk,hd⟩:=hI;conv at e4=>lhs;whnf
 subst e4;have hs:=fun (x:k<l.length) (y:48<=l.getD k 0) (z:l.getD k 0<=57) i (hi:i<k+1)=>(by
   by_cases e:i=k
   .subst e;exact eN.2 ⟨y,z⟩
   .exact hd.out i Aa:dgt (l.getD i 0)=true)
 have hw:=aQd l k hk hd.out;have he:∀{c:Nat},¬(48<=c/\c<=57)->¬dgt c=true:=fun x y=>x (eN.1 y)
 replace hs:=Hq.mk hs;replace hw:=Hq.mk hw;conv=>whnf
 repeat' first|((first|(show eB _ _ _;refine eB.txt l rfl hb k Aa Aa ?_)|(show Cut _ _ _ _;first|(refine Cut.txt l 0 k Aa Aa rfl Aa Aa ?_;rw[eZ])|(refine Cut.txt l k l.length Aa Aa rfl Aa Aa ?_;rw[eZ]))|((first|apply oI.z|apply cI.z))|refine WN.i64 Aa Aa ?_|refine DrN.run Al ?_)<;>conv=>whnf)|(show cnd _ _ _;first|((first|apply aB|apply bI)<;>intro _<;>first|(exfalso;omega)|conv=>whnf))
 all_goals first
  | exact⟨rfl,l.length-(k+1),Aa,k+1,rfl,rfl,vi Aa,Aa,⟨hs.out Aa Aa Aa⟩⟩
  | skip
 all_goals
  obtain⟨u1,u2⟩:=hw.out (by first|(left;omega)|(right;exact he Aa))
  refine RN.a ⟨rfl,?_⟩;rw[u1,u2,bE5,bDm]
theorem tC(h:aA)(l:List Nat)(hb:∀c∈l,dgt c=true)(hl:l.length<=65536):Fn0 T F.q142 [.string (txt l)] h fun v h'=>∃s:Sl,v=s.val/\aI h' s (dM l):=by
 have hz:=bF l;have hb8:∀y∈l,y<256:=fun y hy=>by have:=eN.1 (hb y hy);omega
 refine f0C ok D.q142 rfl ?_;conv=>whnf
 repeat ((first|apply oI.z|apply cI.z);conv=>whnf)
 skip
 refine LpN.of (fun r ρ h' L=>∃(k:Nat) (a:Sl),r=l.length-k/\h.le h'/\rd ρ 4=.int .i64 k/\k<=l.length/\rd ρ 3=a.val/\aI h' a (dM (l.take k))) l.length
  ⟨0,⟨none,0,0⟩,rfl,aA.lr _,vi Aa,Aa,rfl,(aI.nil rfl:aI h ⟨none,0,0⟩ 0)⟩ ?_
 conv=>whnf
 repeat intro _
 rename_i r h1 L1 hI;obtain⟨k,a,rfl,hle,e4,hk,e3,ha⟩:=hI;conv at e3=>lhs;whnf
 subst e3;conv at e4=>lhs;whnf
 subst e4;have lk:ln 4294967296 (dM (l.take k))<=65536:=bDv (xS fun c hc=>hb c (bEd hc)) Aq
 by_cases hc:k<l.length
 .obtain⟨e,he⟩:=AB (min l.length (k+9));have he1:e<=l.length:=Aa;have he2:k<e:=Aa;have he3:e<=k+9:=Aa;have hmm:mm false ((txt l).size:Int) ((k:Int)+9)=(e:Int):=by unfold mm;simp only[bF4,if_false];split<;>omega
  conv=>whnf
  repeat' ((first|((first|apply oI.z|apply cI.z))|refine WN.i64 Aa Aa ?_|(apply aB<;>intro _<;>try (exfalso;omega)))<;>conv=>whnf)
  refine LpN.of (fun r ρ h' L=>∃(i N t:Nat),r=e-i/\h1.le h'/\rd ρ 4=.int .i64 i/\k<=i/\i<=e/\rd ρ 6=.int .u64 N/\rd ρ 7=.int .u64 t/\N<1000000000/\t<=1000000000/\Hq (N=dM ((l.take i).drop k))/\Hq (t=10^(i-k))) (e-k)
   ⟨k,0,1,rfl,aA.lr _,rfl,bDx _,Aa,rfl,rfl,Aa,Aa,⟨by rw[List.drop_take,bFr,bFa];exact aQe.symm⟩,⟨by rw[bFr,bH1]⟩⟩ ?_
  conv=>whnf
  repeat intro _
  rename_i r h2 L2 hJ;obtain⟨i,N,t,rfl,hle2,e4,hi1,hi2,e6,e7,hN,ht,hN',ht'⟩:=hJ;conv at e4=>lhs;whnf
  subst e4;conv at e6=>lhs;whnf
  subst e6;conv at e7=>lhs;whnf
  subst e7;by_cases hie:i<e
  .have hd:=eN.1 (hb (l.getD i 0) (by simp[bC7,show i<l.length by omega]));obtain⟨c,hc'⟩:=AB (l.getD i 0);have s1:10*N+(c-48)=dM ((l.take (i+1)).drop k):=by rw[aNb hi1 Aa,aBz,<-hN'.out,hc']
   have s2:10*t=10^(i+1-k):=by rw[show i+1-k=(i-k)+1 by omega,bEk,<-ht'.out,bDj]
   have s3:10*N+(c-48)<1000000000:=by
    rw[s1];refine bD9 (aKy fun c hc=>hb c (bEd (bE2 hc))) ?_
    refine bDv (bD8 Ad (show _<=9 by simp;omega)) Ad
   have s4:10*t<=1000000000:=by
    rw[s2];exact bDv (bD8 Ad (show _<=9 by omega)) Ad
   replace s1:=Hq.mk s1;replace s2:=Hq.mk s2;rw[<-hc'] at hd;conv=>whnf
   repeat' ((first|(show eB _ _ _;(refine eB.txt l rfl hb8 i Aa Aa ?_;rw[<-hc']))|((first|apply oI.z|apply cI.z))|(show WN _ _ _;first|refine WN.i64 Aa Aa ?_|refine WN.u64 Aa Aa ?_|refine WN.u8 Aa Aa ?_)|(apply aB<;>intro _<;>try (exfalso;omega)))<;>conv=>whnf)
   all_goals exact⟨rfl,e-(i+1),Aa,i+1,10*N+(c-48),10*t,rfl,Ab,vi Aa,Aa,Aa,vi Aa,vi Aa,s3,s4,s1,s2⟩
  .obtain rfl:i=e:=Aa;have s5:dM (l.take k)*t+N=dM (l.take i):=by
    rw[aQf (l:=l) (show k<=i by omega),qY,<-hN'.out,ht'.out]
    congr 3
    simp;omega
   have lt:=cP tlB (dM (l.take k)) t;have l1:ln 4294967296 t<=2:=by rw[aL tlB];exact bFk ht Ad
   have l2:ln 4294967296 N<=2:=by rw[aL tlB];exact bH0 hN Ad
   obtain⟨X,hX⟩:=AB (dM (l.take k));rw[<-hX] at lk ha s5 lt;obtain⟨Y,hY⟩:=AB (X*t);rw[<-hY] at s5 lt;replace s5:=Hq.mk s5;conv=>whnf
   repeat' ((first|(show CN _ _ _ _ _ _;first|(refine CN.f rfl (gG _ t Aa) (fun v h' hl hr=>?_);obtain⟨s',rfl,hs'⟩:=hr)|(refine CN.f rfl (gG _ N Aa) (fun v h' hl hr=>?_);obtain⟨s',rfl,hs'⟩:=hr)|(refine CN.f rfl (sZ _ _ _ X t Ah Ab Aa Aa) (fun v h' hl hr=>?_);rw[<-hY] at hr;obtain⟨s',rfl,hs'⟩:=hr)|(refine CN.f rfl (aPq _ _ _ Y N Ah Ab Aa Aa) (fun v h' hl hr=>?_);rw[s5.out] at hr;obtain⟨s',rfl,hs'⟩:=hr))|((first|apply oI.z|apply cI.z))|(apply aB<;>intro _<;>try (exfalso;omega)))<;>conv=>whnf)
   all_goals exact⟨rfl,l.length-i,Aa,i,_,rfl,Ac,rfl,Aa,rfl,Ab⟩
 .obtain rfl:k=l.length:=Aa;rw[bDm] at ha;conv=>whnf
  repeat' ((first|((first|apply oI.z|apply cI.z))|(apply aB<;>intro _<;>try (exfalso;omega)))<;>conv=>whnf)
  exact RN.a ⟨_,rfl,Ab⟩
def parse4(neg:Bool)(hd:List Nat)(c:Nat)(tl rest:List Nat):Rat × Int:=
 if hd=[]\/tl=[]\/rest≠[]\/¬(c=0\/c=46\/c=47) then (0,3)
 else if c=46 then fH (mkQ neg (dM (hd++tl)) (10^tl.length))
 else if c=47 then (if dM tl=0 then (0,10) else fH (mkQ neg (dM hd) (dM tl)))
 else fH (mkQ neg (dM hd) 1)
def parse3(neg:Bool)(hd:List Nat):List Nat->Rat × Int
 | []=>if hd=[] then (0,3) else fH (mkQ neg (dM hd) 1)
 | c::r=>parse4 neg hd c (r.takeWhile dgt) (r.dropWhile dgt)
def parseL(l:List Nat):Rat × Int:=
 if 1240<l.length then (0,4)
 else if l.head?=some 45 then parse3 true (l.tail.takeWhile dgt) (l.tail.dropWhile dgt)
 else parse3 false (l.takeWhile dgt) (l.dropWhile dgt)
structure aDw (neg:Bool) (n:Nat) (hd tl rest:List Nat) (c:Nat) (res:Rat × Int):Prop where
 e1:hd=[]->res=(0,3)
 e2:rest≠[]->res=(0,3)
 e3:tl=[]->hd.length+(if neg then 1 else 0)≠n->res=(0,3)
 e4:c≠0->c≠46->c≠47->res=(0,3)
 r1:hd≠[]->rest=[]->(tl=[]->hd.length+(if neg then 1 else 0)=n)->c=46->res=fH (mkQ neg (dM (hd++tl)) (10^tl.length))
 r2:hd≠[]->rest=[]->(tl=[]->hd.length+(if neg then 1 else 0)=n)->c=47->dM tl=0->res=(0,10)
 r3:hd≠[]->rest=[]->(tl=[]->hd.length+(if neg then 1 else 0)=n)->c=47->dM tl≠0->res=fH (mkQ neg (dM hd) (dM tl))
 r4:hd≠[]->rest=[]->(tl=[]->hd.length+(if neg then 1 else 0)=n)->c=0->res=fH (mkQ neg (dM hd) 1)
 dh:∀x∈hd,dgt x=true
 dt:∀x∈tl,dgt x=true
 le:hd.length+(if neg then 1 else 0)+tl.length<=n
theorem aDw.nil{neg:Bool}{n:Nat}{hd:List Nat}(hh:∀x∈hd,dgt x=true)(hn:hd.length+(if neg then 1 else 0)=n):aDw neg n hd [] [] 0 (parse3 neg hd []) where
 e1:=fun h=>if_pos h
 e2:=fun h=>(h rfl).elim
 e3:=fun _ h=>(h hn).elim
 e4:=fun h=>(h rfl).elim
 r1:=fun _ _ _ h=>by cases h
 r2:=fun _ _ _ h=>by cases h
 r3:=fun _ _ _ h=>by cases h
 r4:=fun h _ _ _=>if_neg h
 dh:=hh
 dt:=fun x hx=>by cases hx
 le:=by simp;omega
theorem aDw.cons{neg:Bool}{n c:Nat}{hd tl rest:List Nat}(hh:∀x∈hd,dgt x=true)(ht:∀x∈tl,dgt x=true)(hn:hd.length+(if neg then 1 else 0)+tl.length<n):aDw neg n hd tl rest (if tl=[] then 0 else c) (parse4 neg hd c tl rest) where
 e1:=fun h=>if_pos (.inl h)
 e2:=fun h=>if_pos (.inr (.inr (.inl h)))
 e3:=fun h _=>if_pos (.inr (.inl h))
 e4:=fun a b d=>by
  by_cases h:tl=[]
  .rw[if_pos h] at a;exact (a rfl).elim
  .rw[if_neg h] at a b d;exact if_pos (.inr (.inr (.inr Aa)))
 r1:=fun a b d e=>by
  by_cases h:tl=[]
  .rw[if_pos h] at e;cases e
  .rw[if_neg h] at e;unfold parse4;rw[if_neg (by simp[a,b,h,e]),if_pos e]
 r2:=fun a b d e f=>by
  by_cases h:tl=[]
  .rw[if_pos h] at e;cases e
  .rw[if_neg h] at e;unfold parse4;rw[if_neg (by simp[a,b,h,e]),if_neg Aa,if_pos e,if_pos f]
 r3:=fun a b d e f=>by
  by_cases h:tl=[]
  .rw[if_pos h] at e;cases e
  .rw[if_neg h] at e;unfold parse4;rw[if_neg (by simp[a,b,h,e]),if_neg Aa,if_pos e,if_neg f]
 r4:=fun a b d e=>by
  by_cases h:tl=[]
  .have:=d h;rw[h] at hn;simp at hn;omega
  .rw[if_neg h] at e;unfold parse4;rw[if_neg (by simp[a,b,h,e]),if_neg Aa,if_neg Aa]
 dh:=hh
 dt:=ht
 le:=Aa
theorem aQh(k:Nat):ln 4294967296 (10^k)<=k+1:=by
 have:=aIv tlB 10 k;have h10:ln 4294967296 10<=1:=by rw[aL tlB];decide
 have:=bD2 k h10;omega
theorem aQi{neg:Bool}{m n k:Nat}(hn:n≠0)(h1:ln 4294967296 m<=k)(h2:ln 4294967296 n<=k):Sz k (mkQ neg m n):=
 ⟨bDv (dH tlB (qS neg hn).1) h1,bDv (dH tlB (qS neg hn).2) h2⟩
theorem sN(l:List Nat):(l.takeWhile dgt).length+(l.dropWhile dgt).length=l.length:=by
 rw[<-bC6,List.takeWhile_append_dropWhile]
theorem aF3(h:aA)(tb:Tb h)(l:List Nat)(hb:∀y∈l,y<256):Fn0 T F.q80 [.string (txt l)] h fun v h'=>Res h' v (parseL l):=by
 have hz:=bF l;have e4:1240<l.length->parseL l=(0,4):=fun x=>if_pos x
 have hsplit:¬1240<l.length->∃neg r0,parseL l=parse3 neg (r0.takeWhile dgt) (r0.dropWhile dgt)/\r0.length+(if neg then 1 else 0)=l.length/\((l=[]/\neg=false/\r0=[])\/(∃m,l=45::m/\neg=true/\r0=m)\/(∃c m,l=c::m/\c≠45/\neg=false/\r0=c::m)):=fun x=>by
  unfold parseL;rw[if_neg x]
  match l with
  | []=>exact⟨false,[],by simp,rfl,.inl ⟨rfl,rfl,rfl⟩⟩
  | c::m=>
   by_cases hc:c=45
   .subst hc;exact⟨true,m,by simp,by simp,.inr (.inl ⟨m,rfl,rfl,rfl⟩)⟩
   .exact⟨false,c::m,by simp[hc],by simp,.inr (.inr ⟨c,m,rfl,hc,rfl,rfl⟩)⟩
 obtain⟨res,hres⟩:=AB (parseL l);rw[<-hres] at e4 hsplit;rw[<-hres];by_cases hlong:1240<l.length
 .refine f0C ok D.q80 rfl ?_;conv=>whnf
  repeat' ((first|((first|apply oI.z|apply cI.z))|intro (_:Nat)|refine LdN.o 0 rfl rfl ?_|refine Sto.l 0 rfl rfl rfl ?_|(apply aB<;>intro _<;>try (exfalso;omega)))<;>conv=>whnf)
  rw[e4 hlong];exact RN.a (Res.err _ _)
 obtain⟨neg,r0,hp,hlen,hcase⟩:=hsplit hlong;clear hsplit e4 hres;have hr8:∀y∈r0,y<256:=fun y hy=>by
  rcases hcase with ⟨-,-,rfl⟩|⟨m,rfl,-,rfl⟩|⟨c,m,rfl,-,-,rfl⟩
  .cases hy
  .exact hb y (bDh _ hy)
  .exact hb y hy
 replace hp:=Hq.mk hp;refine f0C ok D.q80 rfl ?_
 repeat' first|(refine cI.seqN (a:=.region 4 _ _) ?_)|((first|apply oI.z|apply cI.z);conv=>whnf)|(intro (_:Nat);conv=>whnf)|(apply aB<;>intro _<;>first|(exfalso;omega)|conv=>whnf)
 rename_i b2 _;refine aQ.cut (fun ρ h' L=>rd ρ 5=.bool neg/\h'=h/\L=[(b2,.cells [.bool false,.slice none 0 0,.slice none 0 0].toArray Ty.api_Rat (0,0))]) ?_ ?_
 .rcases hcase with ⟨rfl,rfl,rfl⟩|⟨m,rfl,rfl,rfl⟩|⟨c,m,rfl,hc,rfl,rfl⟩
  .have hlc:([]:List Nat).length=0:=rfl;conv=>whnf
   repeat' ((first|((first|apply oI.z|apply cI.z))|(apply aB<;>intro _<;>try (exfalso;omega)))<;>conv=>whnf)
   all_goals exact⟨rfl,rfl,rfl,rfl⟩
  .have hlc:(45::r0).length=r0.length+1:=rfl;conv=>whnf
   repeat' ((first|(show eB _ _ _;refine eB.at (45::r0) 45 rfl hb 0 Aa rfl ?_)|((first|apply oI.z|apply cI.z))|(apply aB<;>intro _<;>try (exfalso;omega)))<;>conv=>whnf)
   all_goals exact⟨rfl,congrArg Value.bool (show Vc.eq ((45:Nat):Int) 45=true by unfold Vc.eq;simp),rfl,rfl⟩
  .have hlc:(c::m).length=m.length+1:=rfl;conv=>whnf
   repeat' ((first|(show eB _ _ _;refine eB.at (c::m) c rfl hb 0 Aa rfl ?_)|((first|apply oI.z|apply cI.z))|(apply aB<;>intro _<;>try (exfalso;omega)))<;>conv=>whnf)
   all_goals exact⟨rfl,congrArg Value.bool (show Vc.eq ((c:Nat):Int) 45=false by unfold Vc.eq;simp;omega),rfl,rfl⟩
 .conv=>whnf
  repeat intro _
  rename_i h1 L1 hJ;obtain⟨e5,rfl,rfl⟩:=hJ;conv at e5=>lhs;whnf
  subst e5;conv=>whnf
  repeat ((first|apply oI.z|apply cI.z);conv=>whnf)
  refine aQ.cut (fun ρ h' L=>rd ρ 4=.string (txt r0)/\h'=h1/\L=[(b2,.cells [.bool false,.slice none 0 0,.slice none 0 0].toArray Ty.api_Rat (0,0))]) ?_ ?_
  .rcases hcase with ⟨rfl,rfl,rfl⟩|⟨m,rfl,rfl,rfl⟩|⟨c,m,rfl,hc,rfl,rfl⟩
   .conv=>whnf
    repeat ((first|apply oI.z|apply cI.z);conv=>whnf)
    skip
    all_goals exact⟨rfl,rfl,rfl,rfl⟩
   .have hlc:(45::r0).length=r0.length+1:=rfl;conv=>whnf
    repeat' ((first|(show Cut _ _ _ _;(refine Cut.txt (45::r0) 1 (45::r0).length Aa Aa rfl Aa Aa ?_;rw[eZ,bDm]))|((first|apply oI.z|apply cI.z)))<;>conv=>whnf)
    all_goals exact⟨rfl,rfl,rfl,rfl⟩
   .conv=>whnf
    repeat ((first|apply oI.z|apply cI.z);conv=>whnf)
    skip
    all_goals exact⟨rfl,rfl,rfl,rfl⟩
  .conv=>whnf
   repeat intro _
   rename_i h2 L2 hJ;obtain⟨e4,rfl,rfl⟩:=hJ;conv at e4=>lhs;whnf
   subst e4;have hr0l:r0.length<=l.length:=Aa;obtain⟨hd,hhd⟩:=AB (r0.takeWhile dgt);obtain⟨r1,hr1⟩:=AB (r0.dropWhile dgt);have hsum:=sN r0;have hhd2:∀x∈hd,dgt x=true:=by rw[hhd];exact aKz
   have hr18:∀y∈r1,y<256:=fun y hy=>hr8 y (by rw[hr1] at hy;exact (List.dropWhile_sublist _).subset hy)
   have hrun:=aQg h2 r0 hr8 Aa;rw[<-hhd,<-hr1] at hsum hrun;replace hp:=hp.out;rw[<-hhd,<-hr1] at hp;clear hhd hr1 hcase
   repeat' ((first|(show CN _ _ _ _ _ _;refine CN.quiet rfl hrun ?_)|((first|apply oI.z|apply cI.z)))<;>conv=>whnf)
   refine aQ.cut (fun ρ h' L=>∃(tl rest:List Nat) (c:Nat),rd ρ 4=.string (txt rest)/\rd ρ 7=.string (txt tl)/\rd ρ 8=.int .u8 c/\h'=h2/\L=[(b2,.cells [.bool false,.slice none 0 0,.slice none 0 0].toArray Ty.api_Rat (0,0))]/\aDw neg l.length hd tl rest c res) ?_ ?_
   .cases r1 with
    | nil=>
     have hlc:([]:List Nat).length=0:=rfl;have hzz:=bF ([]:List Nat);have hpe:aDw neg l.length hd [] [] 0 res:=by rw[hp];exact aDw.nil hhd2 Aa
     conv=>whnf
     repeat' ((first|((first|apply oI.z|apply cI.z))|(apply aB<;>intro _<;>try (exfalso;omega)))<;>conv=>whnf)
     all_goals exact⟨rfl,[],[],0,rfl,rfl,vi rfl,rfl,rfl,hpe⟩
    | cons c r2=>
     have hlc:(c::r2).length=r2.length+1:=rfl;have hzz:=bF (c::r2);have hs2:=sN r2;have hpe:aDw neg l.length hd (r2.takeWhile dgt) (r2.dropWhile dgt) (if r2.takeWhile dgt=[] then 0 else c) res:=by rw[hp];exact aDw.cons hhd2 aKz Aa
     have hrun2:=aQg h2 r2 (fun y hy=>hr18 y (bDh _ hy)) Aa
     obtain⟨tl,htl⟩:=AB (r2.takeWhile dgt);obtain⟨rest,hrest⟩:=AB (r2.dropWhile dgt);rw[<-htl,<-hrest] at hpe hrun2;clear htl hrest hp;conv=>whnf
     repeat' first|((first|(show eB _ _ _;refine eB.at (c::r2) c rfl hr18 0 Aa rfl ?_)|(show Cut _ _ _ _;(refine Cut.txt (c::r2) 1 (c::r2).length Aa Aa rfl Aa Aa ?_;rw[eZ,bDm]))|(show CN _ _ _ _ _ _;refine CN.quiet rfl hrun2 ?_)|((first|apply oI.z|apply cI.z)))<;>conv=>whnf)|(show cnd _ _ _;first|(refine iO tl rfl rfl (fun _=>?_) (fun _=>?_)<;>(conv=>whnf))|(apply aB<;>intro _<;>first|(exfalso;omega)|conv=>whnf))
     all_goals first
      | (rw[if_pos Ab] at hpe;exact⟨rfl,tl,rest,0,rfl,rfl,vi rfl,rfl,rfl,hpe⟩)
      | (rw[if_neg Ab] at hpe;exact⟨rfl,tl,rest,c,rfl,rfl,vi rfl,rfl,rfl,hpe⟩)
   .conv=>whnf
    repeat intro _
    rename_i h3 L3 hJ;obtain⟨tl,rest,c,e4,e7,e8,rfl,rfl,hpe⟩:=hJ;conv at e4=>lhs;whnf
    subst e4;conv at e7=>lhs;whnf
    subst e7;conv at e8=>lhs;whnf
    subst e8;clear hrun hp hsum hr18 hr8 hhd2 hlen hr0l;have z1:=bF hd;have z2:=bF tl;have hle:=hpe.le;have t1:=hpe.dh;have t2:=hpe.dt;have t3:∀x∈hd++tl,dgt x=true:=fun x hx=>(bDf.1 hx).elim (t1 x) (t2 x)
    have hla:(hd++tl).length=hd.length+tl.length:=bC6;have c1:=fun h=>tC h (hd++tl) t3 Aa
    have c2:=fun h=>tC h tl t2 Aa
    have c3:=fun h=>tC h hd t1 Aa
    have e1:=hpe.e1;have e2:=hpe.e2;have e3:=hpe.e3;have e4:=hpe.e4;have q1:=hpe.r1;have q2:=hpe.r2;have q3:=hpe.r3;have q4:=hpe.r4;clear hpe;have b1:=xS t3;have b2':=xS t2;have b3:=xS t1;have b4:=aQh tl.length;have b5:tl.length*ln 4294967296 10<=tl.length*1:=bD2 _ ((aL tlB).2 Ad);have b6:=jW 4294967296 tlB;have n0:10^tl.length≠0:=Nat.ne_of_gt (bFi Ad);have c4:=fun h a i=>aIo h a 10 tl.length i Aa (bDv ((aL tlB (k:=1)).2 Ad) Ad) Aa
    rw[<-z2] at c4;rw[z2] at c4;obtain⟨A,hA⟩:=AB (dM (hd++tl));obtain⟨B,hB⟩:=AB (dM hd);obtain⟨E,hE⟩:=AB (dM tl);obtain⟨P,hP⟩:=AB (10^tl.length);simp only[<-hA,<-hB,<-hE,<-hP] at *;clear hA hB hE hP b5;have s1:Sz 1073741824 (mkQ neg A P):=aQi n0 Aa Aa;have s2:E≠0->Sz 1073741824 (mkQ neg B E):=fun x=>aQi x Aa Aa
    have s3:Sz 1073741824 (mkQ neg B 1):=aQi Ad Aa Aa;have z3:((txt tl).size:Int)=(tl.length:Int):=Aa;cases neg
    all_goals
     simp only[if_true,if_false,bF4] at e3 q1 q2 q3 q4 hle
    all_goals (repeat' first|((first|(show Cat _ _ _;refine Cat.txt (a:=hd) (b:=tl) rfl rfl Aa ?_)|(show CN _ _ _ _ _ _;first|(refine CN.f rfl (c1 _) (fun v h' hl hr=>?_);obtain⟨s',rfl,hs'⟩:=hr)|(refine CN.f rfl (c2 _) (fun v h' hl hr=>?_);obtain⟨s',rfl,hs'⟩:=hr)|(refine CN.f rfl (c3 _) (fun v h' hl hr=>?_);obtain⟨s',rfl,hs'⟩:=hr)|(refine CN.f rfl (gG _ 10 Aa) (fun v h' hl hr=>?_);obtain⟨s',rfl,hs'⟩:=hr)|(refine CN.f rfl (gG _ 1 Aa) (fun v h' hl hr=>?_);obtain⟨s',rfl,hs'⟩:=hr)|(rw[z3];refine CN.f rfl (c4 _ _ Ab) (fun v h' hl hr=>?_);obtain⟨s',rfl,hs'⟩:=hr)|refine CN.quiet rfl (jE _ _ _ Ab Aa) ?_|(refine CN.f rfl (jY _ Ae _ _ _ A P Ah Ab Aa Aa n0) (fun v h' hl hr=>?_);obtain⟨a',b',rfl,hq'⟩:=hr)|(refine CN.f rfl (jY _ Ae _ _ _ B E Ah Ah Aa Aa Ab) (fun v h' hl hr=>?_);obtain⟨a',b',rfl,hq'⟩:=hr)|(refine CN.f rfl (jY _ Ae _ _ _ B 1 Ah Ab Aa Aa Ad) (fun v h' hl hr=>?_);obtain⟨a',b',rfl,hq'⟩:=hr)|(refine CN.f rfl (lN _ _ _ _ Ab s1) (fun v h' hl hr=>?_);obtain⟨x1,x2,rfl,hq''⟩:=hr)|(refine CN.f rfl (lN _ _ _ _ Ab (s2 Ab)) (fun v h' hl hr=>?_);obtain⟨x1,x2,rfl,hq''⟩:=hr)|(refine CN.f rfl (lN _ _ _ _ Ab s3) (fun v h' hl hr=>?_);obtain⟨x1,x2,rfl,hq''⟩:=hr))|((first|apply oI.z|apply cI.z))|refine WN.i64 Aa Aa ?_|refine LdN.o 0 rfl rfl ?_|refine Sto.l 0 rfl rfl rfl ?_)<;>conv=>whnf)|(show cnd _ _ _;first|(refine iO hd rfl rfl (fun _=>?_) (fun _=>?_)<;>(conv=>whnf))|(refine iO rest rfl rfl (fun _=>?_) (fun _=>?_)<;>(conv=>whnf))|(refine iO tl rfl rfl (fun _=>?_) (fun _=>?_)<;>(conv=>whnf))|((first|apply aB|apply aD)<;>intro _<;>first|(exfalso;omega)|conv=>whnf)|(refine aJ ?_)|(apply aW<;>intro _<;>first|(exfalso;omega)|conv=>whnf)))
    all_goals first
     | (rw[e1 Ab];exact RN.a (Res.err _ _))
     | (rw[e2 Ab];exact RN.a (Res.err _ _))
     | (rw[e3 Ab Aa];exact RN.a (Res.err _ _))
     | (rw[e4 Aa Aa Aa];exact RN.a (Res.err _ _))
     | (rw[q2 Ab Ab (fun x=>by first|exact absurd x Ab|omega) Aa Ab];exact RN.a (Res.err _ _))
     | (rw[q1 Ab Ab (fun x=>by first|exact absurd x Ab|omega) Aa];exact RN.a ⟨_,_,rfl,Ab⟩)
     | (rw[q3 Ab Ab (fun x=>by first|exact absurd x Ab|omega) Aa Ab];exact RN.a ⟨_,_,rfl,Ab⟩)
     | (rw[q4 Ab Ab (fun x=>by first|exact absurd x Ab|omega) Aa];exact RN.a ⟨_,_,rfl,Ab⟩)
end Go.Proofs.Y
/- What Parse makes of a text that Format has made. -/
namespace Go.Dig
theorem aI0(a b:List Nat)(ha:∀x∈a,dgt x=true)(hb:∀c,b.head?=some c->dgt c=false):(a++b).takeWhile dgt=a/\(a++b).dropWhile dgt=b:=by
 induction a with
 | nil=>
  cases b with
  | nil=>simp
  | cons c b=>simp[hb c rfl]
 | cons c a ih=>
  have h1:=ha c bDe;have:=ih fun x hx=>ha x (bDh _ hx)
  simp[h1,this]
theorem aQj(ds:List Nat):dM ((ds.map (48+·)).reverse)=evl 10 ds:=by
 induction ds with
 | nil=>simp[dM,aU]
 | cons c ds ih=>
  rw[bEe,List.reverse_cons,aBz,ih,eD];omega
theorem aVb(B t a K J x y z:Nat)(hJ:J=z*z)(hK:K=x+y*z)(h1:B^z<=a*t^y)(h2:a^z<=t^x):B^J<=t^K:=by
 subst hJ hK;rw[bEs,bFz,bFz];refine bDv (bGf h1 z) ?_;rw[Nat.mul_pow];exact bDq _ h2
end Go.Dig
namespace Go.Proofs.Y
open Go Go.Vc Go.Dig
theorem eE(n:Nat):∀x∈aY n,dgt x=true:=fun x hx=>by
 unfold aY at hx
 split at hx
 .simp at hx;subst hx;rfl
 .rw[List.mem_reverse] at hx;obtain⟨y,hy,rfl⟩:=List.mem_map.1 hx;have:=kN fI n y hy;exact eN.2 ⟨Aa,Aa⟩
theorem lP(n:Nat):aY n≠[]:=by
 unfold aY
 split
 .simp
 .rename_i h;rw[gT fI h];simp
theorem mE(n:Nat):dM (aY n)=n:=by
 unfold aY
 split
 .rename_i h;subst h;rfl
 .rw[aQj,bV fI]
theorem aF4{n:Nat}(h:ln 4294967296 n<=64):(aY n).length<=617:=by
 have h1:ln 10 n<=617:=by
  rw[aL fI];exact bD9 ((aL tlB).1 h) (aVb 4294967296 10 11580 617 64 33 73 8 rfl rfl Ad Ad)
 unfold aY
 split
 .simp
 .unfold ln at h1;simpa using h1
theorem aNc{neg:Bool}{n d:Nat}(hd:d≠0):parse3 neg (aY n) ([47]++aY d)=fH (mkQ neg n d):=by
 have:=aI0 (aY d) [] (eE d) (fun c h=>by cases h)
 rw[bDg] at this;show parse4 neg (aY n) 47 ((aY d).takeWhile dgt) ((aY d).dropWhile dgt)=_;rw[this.1,this.2];unfold parse4;rw[if_neg (by simp[lP]),if_neg Ad,if_pos rfl,mE,mE,if_neg hd]
theorem aB0{q:Rat}(hf:fits q):parseL (kA q)=(q,0):=by
 have l1:=aF4 hf.1;have l2:=aF4 hf.2;have hd:=q.den_nz;have hq:fH q=(q,0):=if_pos hf;have hself:=tW q;have tw:∀t,(∀c,t.head?=some c->dgt c=false)->(aY (nu q)++t).takeWhile dgt=aY (nu q)/\(aY (nu q)++t).dropWhile dgt=t:=fun t ht=>aI0 _ t (eE _) ht
 obtain⟨T,hT⟩:=AB (if q.den=1 then ([]:List Nat) else [47]++aY q.den)
 have lT:T.length<=618:=by rw[hT];split<;>simp;omega
 have hTh:∀c,T.head?=some c->dgt c=false:=fun c hc=>by
  rw[hT] at hc
  split at hc
  .cases hc
  .simp at hc;subst hc;rfl
 have p3:∀neg,neg=sg q->parse3 neg (aY (nu q)) T=(q,0):=fun neg hn=>by
  rw[hT,hn]
  split
  .rename_i h1;show (if aY (nu q)=[] then (0,3) else fH (mkQ (sg q) (dM (aY (nu q))) 1))=(q,0)
   rw[if_neg (lP _),mE];rw[h1] at hself;rw[hself,hq]
  .rw[aNc hd,hself,hq]
 have hfm:kA q=(if sg q then [45]++aY (nu q) else aY (nu q))++T:=by rw[hT];rfl
 have hneg:∀t,(aY (nu q)++t).head?≠some 45:=fun t h=>by
  obtain⟨c,m,hc⟩:∃c m,aY (nu q)=c::m:=by
   match e:aY (nu q) with
   | []=>exact (lP _ e).elim
   | c::m=>exact⟨c,m,rfl⟩
  have:=eE (nu q) c (by rw[hc];exact bDe);rw[hc] at h;simp at h;subst h;exact absurd this Ad
 unfold parseL;rw[hfm];cases hs:sg q with
 | true=>
  rw[if_pos rfl,if_neg Aq,if_pos Ao];simp only[bEn,bEm,List.tail_cons,bDb];rw[(tw T hTh).1,(tw T hTh).2];exact p3 true hs.symm
 | false=>
  simp only[bF4,if_false];rw[if_neg Aq,if_neg (hneg T),(tw T hTh).1,(tw T hTh).2];exact p3 false hs.symm
theorem Fok.parse4(neg:Bool)(hd:List Nat)(c:Nat)(tl rest:List Nat):Fok (Proofs.Y.parse4 neg hd c tl rest):=by
 unfold Proofs.Y.parse4
 split
 .exact Fok.err1 3
 .split
  .exact Fok.out _
  .split
   .split
    .exact Fok.err1 10
    .exact Fok.out _
   .exact Fok.out _
theorem Fok.parse3(neg:Bool)(hd:List Nat)(r:List Nat):Fok (Proofs.Y.parse3 neg hd r):=by
 cases r with
 | nil=>
  show Fok (if hd=[] then (0,3) else fH (mkQ neg (dM hd) 1))
  split
  .exact Fok.err1 3
  .exact Fok.out _
 | cons c r=>exact Fok.parse4 _ _ _ _ _
theorem Fok.parseL(l:List Nat):Fok (Proofs.Y.parseL l):=by
 unfold Proofs.Y.parseL
 split
 .exact Fok.err1 4
 .split
  .exact Fok.parse3 _ _ _
  .exact Fok.parse3 _ _ _
end Go.Proofs.Y