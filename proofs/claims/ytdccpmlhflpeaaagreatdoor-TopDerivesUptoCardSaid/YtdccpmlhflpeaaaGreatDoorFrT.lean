/- An expression that comes in, opened: the tree that it is. -/
import Derived.Test.YtdccpmlhflpeaaaGreatDoorFrE
import Derived.ReadAgain
set_option linter.all false
set_option maxHeartbeats 1000000
set_option maxRecDepth 20000
namespace Go.Proofs.YtdccpmlhflpeaaaGreatDoor
open Go Go.Proofs.Y Go.Vc Go.Dig Go.ChangeShapes Go.WideShapes Go.ChangeAt Go.RowKit
theorem wD:Tryz.prog.cellsOf 27=7:=by kernel_rfl
theorem zR:Tryz.prog.cellsOf 24=3:=by kernel_rfl
theorem aRn:Tryz.prog.cellsOf 3=1:=by kernel_rfl
theorem zS:Tryz.prog.cellsOf 9=1:=by kernel_rfl
theorem aJc:Tryz.prog.cellsOf 25=1:=by kernel_rfl
theorem aJd(s:ByteArray):s=txt (s.data.toList.map (·.toNat))/\∀y∈s.data.toList.map (·.toNat),y<256:=by
 refine⟨?_,fun y hy=>?_⟩
 .unfold txt;rw[bGx];have:((fun n:Nat=>UInt8.ofNat n) ∘ fun b:UInt8=>b.toNat)=id:=by
   funext b;simp
  simp[this]
 .obtain⟨b,-,rfl⟩:=List.mem_map.1 hy;exact b.toNat_lt
theorem iU.of{h:aA}{c:Array Value}:∀(ts:List Tr) (off:Nat),(∀i t,ts[i]?=some t->∃vs,vs.length=7/\(∀j,j<7->c[off+i*7+j]?=vs[j]?)/\IsE h vs t)->iU h c off ts
 | [],_,_=>by rw[iU];trivial
 | t::ts,off,g=>by
  rw[iU];refine⟨?_,iU.of ts (off+7) fun i u hu=>?_⟩
  .obtain⟨vs,h1,h2,h3⟩:=g 0 t rfl;exact⟨vs,h1,fun j hj=>by have:=h2 j hj;rwa [bEv,bEh] at this,h3⟩
  .obtain⟨vs,h1,h2,h3⟩:=g (i+1) u (by simpa using hu);exact⟨vs,h1,fun j hj=>by rw[<-h2 j hj];congr 1;omega,h3⟩
theorem zT{H:Type}{d:DataW H}:∀{l:List (DataW H)},d∈l->Rows.uptoBulk d<=Rows.uptoBulkAll l
 | e::l,h=>by
  rw[Rows.uptoBulkAll];rcases bDp.1 h with rfl|h
  .omega
  .have:=zT h;omega
theorem eW{w:World}{base n:Nat}{a:Addr}{cs:List Value}(h:w.cells? base a n=some cs):cs.length=n/\∀i,i<n->w.cell? (a.add i)=cs[i]?:=by
 unfold World.cells? at h
 split at h
 .exact⟨by simpa using mapM_some_length h,fun i hi=>mapM_some_get h i i (by simp[hi])⟩
 .cases h
section
variable {H:Type} {enc:TypeId × Value->H} {w:World}
theorem aCb:∀(n:Nat) (cs:List Value) (x:DataW H × List MemPlace),DataW.trod enc Tryz.prog w 0 (fun _=>true) true n 27 cs=some x->∃t:Tr,Rows.uptoBulk x.1<=1048576->IsE (eR w) cs t:=by
 intro n
 induction n using Nat.strongRecOn with
 | ind n ih=>
  intro cs x h;obtain⟨xs,n,rfl,rfl,hlen,hxs,hf⟩:=DataW.trod_struct Tryz.underlying27 h;rw[wD] at hlen
  match xs,hxs with
  | [y0,y1,y2,y3,y4],_=>
   obtain⟨c0,c1,c2,c3,c4,c5,c6,hcs⟩:∃c0 c1 c2 c3 c4 c5 c6,cs=[c0,c1,c2,c3,c4,c5,c6]:=by
    match cs,hlen with
    | [c0,c1,c2,c3,c4,c5,c6],_=>exact⟨c0,c1,c2,c3,c4,c5,c6,rfl⟩
   subst hcs;have f0:DataW.trod enc Tryz.prog w 0 (fun _=>true) true n 3 ([c0,c1,c2,c3,c4,c5,c6].take (Tryz.prog.cellsOf 3))=some y0:=hf 0 _ rfl
   have f1:DataW.trod enc Tryz.prog w 0 (fun _=>true) true n 3 ([c1,c2,c3,c4,c5,c6].take (Tryz.prog.cellsOf 3))=some y1:=hf 1 _ rfl
   have f2:DataW.trod enc Tryz.prog w 0 (fun _=>true) true n 24 ([c2,c3,c4,c5,c6].take (Tryz.prog.cellsOf 24))=some y2:=hf 2 _ rfl
   have f3:DataW.trod enc Tryz.prog w 0 (fun _=>true) true n 9 ([c5,c6].take (Tryz.prog.cellsOf 9))=some y3:=hf 3 _ rfl
   have f4:DataW.trod enc Tryz.prog w 0 (fun _=>true) true n 25 ([c6].take (Tryz.prog.cellsOf 25))=some y4:=hf 4 _ rfl
   clear hf h;rw[aRn] at f0 f1;rw[zR] at f2;rw[zS] at f3;rw[aJc] at f4
   change DataW.trod enc Tryz.prog w 0 (fun _=>true) true n 3 [c0]=some y0 at f0
   change DataW.trod enc Tryz.prog w 0 (fun _=>true) true n 3 [c1]=some y1 at f1
   change DataW.trod enc Tryz.prog w 0 (fun _=>true) true n 24 [c2,c3,c4]=some y2 at f2
   change DataW.trod enc Tryz.prog w 0 (fun _=>true) true n 9 [c5]=some y3 at f3
   change DataW.trod enc Tryz.prog w 0 (fun _=>true) true n 25 [c6]=some y4 at f4
   obtain⟨op,e0,rfl,w0⟩:=DataW.trod_int Tryz.underlying3 f0;obtain⟨ar,e1,rfl,w1⟩:=DataW.trod_int Tryz.underlying3 f1;obtain⟨s,e3,rfl,hs⟩:=DataW.trod_string Tryz.underlying9 f3;obtain⟨ng,a,b,l,m,dn,dm,e2,wa,wb,ba,bb,hd,pa,pb,-⟩:=zP (enc:=enc) (base:=0) (v:=.agg #[c2,c3,c4]) (d:=y2.1) (p:=y2.2) ⟨_,rfl⟩ ⟨n,f2⟩;obtain rfl:c0=.int .i64 op:=(List.cons.inj e0).1;obtain rfl:c1=.int .i64 ar:=(List.cons.inj e1).1;obtain rfl:c5=.string s:=(List.cons.inj e3).1;have e2':=congrArg Array.toList (Value.agg.inj e2);obtain rfl:c2=.bool ng:=(List.cons.inj e2').1;obtain rfl:c3=a.val:=(List.cons.inj (List.cons.inj e2').2).1;obtain rfl:c4=b.val:=(List.cons.inj (List.cons.inj (List.cons.inj e2').2).2).1;have hb0:Rows.uptoBulk (DataW.agg ([(.lit (.int .i64 op),[]),(.lit (.int .i64 ar),[]),y2,(.lit (.string s.data.toList),[]),y4].map (·.1)):DataW H)<=1048576->(l.length<=1073741824/\m.length<=1073741824)/\Rows.uptoBulk y4.1<=1048576:=fun hb=>by
    simp only[bEe,bFd,Rows.uptoBulk,Rows.uptoBulkAll,hd] at hb;have q1:=oT pa;have q2:=oT pb;omega
   have r0:=bounds_i64 w0;have r1:=bounds_i64 w1;obtain⟨hn1,hn2⟩:=aJd s;have fin:∀(sl:Sl) (ks:List Tr),c6=sl.val->(Rows.uptoBulk y4.1<=1048576->IsK (eR w) sl ks)->∃t:Tr,Rows.uptoBulk (DataW.agg ([(.lit (.int .i64 op),[]),(.lit (.int .i64 ar),[]),y2,(.lit (.string s.data.toList),[]),y4].map (·.1)):DataW H)<=1048576->IsE (eR w) [.int .i64 op,.int .i64 ar,.bool ng,a.val,b.val,.string s,c6] t:=fun sl ks e g=>by
    refine⟨.mk op ar ng l m (s.data.toList.map (·.toNat)) ks,fun hb=>?_⟩
    obtain⟨⟨z1,z2⟩,z3⟩:=hb0 hb;have k:=g z3;rw[IsE];exact⟨a,b,sl,by rw[<-hn1,e],r0,r1,⟨wa,wb,ba,bb,z1,z2⟩,hn2,k.len,k.cap,k.mem⟩
   rcases DataW.trod_slice Tryz.underlying25 f4 with ⟨e4,rfl⟩|⟨ad,len,cap,elems,rest,n',rfl,e4,rfl,-,hlc,hcm,hel,hk,-,-⟩
   .exact fin ⟨none,0,0⟩ [] (List.cons.inj e4).1 fun _=>IsK.nil _
   .have hk':∀i,i<len->∃(t:Tr) (vs:List Value),w.cells? 0 (ad.add (i*7)) 7=some vs/\(Rows.uptoBulkAll (elems.map (·.1))<=1048576->IsE (eR w) vs t):=fun i hi=>by
     have h1:=hk i hi;rw[wD,bC8 Aa,Option.bind_eq_some_iff] at h1;obtain⟨vs,h2,h3⟩:=h1;obtain⟨t,ht⟩:=ih n' Aa vs _ h3;refine⟨t,vs,h2,fun hb=>ht (bDv (zT (bDy (bFe _))) hb)⟩
    have hch:∀i,∃t:Tr,i<len->∃vs:List Value,w.cells? 0 (ad.add (i*7)) 7=some vs/\(Rows.uptoBulkAll (elems.map (·.1))<=1048576->IsE (eR w) vs t):=fun i=>by
     by_cases hi:i<len
     .obtain⟨t,g⟩:=hk' i hi;exact⟨t,fun _=>g⟩
     .exact⟨tE [],fun x=>absurd x hi⟩
    obtain⟨f,hF⟩:=Classical.axiomOfChoice hch;refine fin ⟨some ad,len,cap⟩ ((List.range len).map f) (List.cons.inj e4).1 fun hb=>⟨by simp,hlc,?_⟩
    have hbl:Rows.uptoBulkAll (elems.map (·.1))<=1048576:=by
     simp only[Rows.uptoBulk] at hb;omega
    rcases bE7 len with h0|h0
    .left;rw[h0];rfl
    .right
     obtain⟨bl,off,spot⟩:=ad;obtain⟨vs0,g0,-⟩:=hF 0 h0;have c0:=(eW g0).2 0 Aa;have l0:=(eW g0).1;rw[bC8 Aa,bEv] at c0;rw[show Addr.add (Addr.add ⟨bl,off,spot⟩ 0) 0=⟨bl,off,spot⟩ from rfl] at c0;obtain⟨hsp,c,T,fz,hc,-⟩:=oS c0
     change spot=none at hsp
     subst hsp;refine⟨bl,off,c,T,fz,rfl,hc,iU.of _ _ fun i t ht=>?_⟩
     rw[bF1] at ht;obtain⟨i',hi',rfl⟩:=Option.map_eq_some_iff.1 ht;obtain⟨hil,rfl⟩:i<len/\i=i':=by
      rcases bEp i len with q|q
      .rw[List.getElem?_range q] at hi';exact⟨q,Option.some.inj hi'⟩
      .rw[bD5 (by simpa using q)] at hi';cases hi'
     obtain⟨vs,g1,g2⟩:=hF i hil;obtain⟨l1,g3⟩:=eW g1;refine⟨vs,l1,fun j hj=>?_,g2 hbl⟩
     have c1:=g3 j hj;rw[rD,rD,bC8 Aa] at c1;obtain⟨-,c',T',fz',hc',hv⟩:=oS c1;rw[hc] at hc';cases hc';rw[hv,bC8 Aa]
theorem aRo:laidOutB Tryz.prog=true:=by kernel_rfl
theorem aJe:mapsRowed Tryz.prog=true:=by kernel_rfl
theorem aGg:∀t e,t<Tryz.prog.types.size->Tryz.prog.underlying t=some (.slice e)->0<Tryz.prog.cellsOf e:=slices_full_of Tryz.prog (by kernel_rfl)
theorem aCc{W':World}{sp:Nat->Bool}:∀{ts:List TypeId} {vs:List Value} {ds:List (DataW H)} {ps:List MemPlace},DataW.TrodAll enc Tryz.prog w 0 sp true ts vs ds ps->(∀q∈ps,w.sameAt W' q)->DataW.TrodAll enc Tryz.prog W' 0 sp true ts vs ds ps
 | [],[],[],_,h,_=>h
 | _::_,_::_,_::_,_,⟨p,q,⟨n,h1⟩,h2,e⟩,hs=>⟨p,q,⟨n,DataW.trod_carry n _ _ _ h1 fun x hx=>hs x (by rw[e];exact bDz _ hx)⟩,aCc h2 fun x hx=>hs x (by rw[e];exact bD0 _ hx),e⟩
theorem aNv{W':World}{sp:Nat->Bool}{ts:List TypeId}{vs:List Value}{ds:List (DataW H)}{ps:List MemPlace}(ht:∀t∈ts,t<Tryz.prog.types.size)(h:DataW.TrodAll enc Tryz.prog w 0 (fun _=>true) true ts vs ds ps)
  (hb:∀b,b<w.heap.size->W'.heap[b]?=w.heap[b]?) (hs:∀q∈ps,sp q.block=true):DataW.TrodAll enc Tryz.prog W' 0 sp true ts vs ds ps:=by
 have hlt:=DataW.TrodAll.lt h;refine aCc (DataW.TrodAll.respare (kids_rows aRo aJe) aGg ht h hs) fun q hq=>?_
 have:=hb _ (hlt q hq);cases q with
 | cell b off=>
  show World.cell? W' _=World.cell? w _
  unfold World.cell?;rw[show W'.heap[(⟨b,off,none⟩:Addr).block]?=w.heap[(⟨b,off,none⟩:Addr).block]? from this]
 | map b=>exact this
def zdE{H:Type}:DataW H:=.agg [.lit (.int .i64 0),.lit (.int .i64 0),.agg [.lit (.bool false),.nil,.nil],.lit (.string []),.nil]
structure In (h:aA) (t:TypeId) (v:Value):Prop where
 tree:t=27->∃(vs:List Value) (tr:Tr),v=.agg vs.toArray/\IsE h vs tr
 str:t=9->∃s:ByteArray,v=.string s/\s.size<=maxLen
 raw:∃(w:World) (H:Type) (enc:TypeId × Value->H) (base:Nat) (d:DataW H) (p:List MemPlace),h=eR w/\Value.okWide Tryz.prog w .any base t v/\DataW.Trod enc Tryz.prog w 0 (fun _=>true) true t v d p/\Rows.uptoBulk d<=1048576
theorem bBx{base:Nat}{t:TypeId}{v:Value}{d:DataW H}{p:List MemPlace}(hval:Value.okWide Tryz.prog w .any base t v)(h:DataW.Trod enc Tryz.prog w 0 (fun _=>true) true t v d p)(hb:Rows.uptoBulk d<=1048576):In (eR w) t v:=by
 constructor
 .rintro rfl
  unfold Value.okWide at hval;rw[Tryz.underlying27] at hval;obtain⟨cs,rfl,-⟩:=hval;obtain⟨n,hn⟩:=h;obtain⟨tr,g⟩:=aCb n _ _ hn;exact⟨cs.toList,tr,by simp,g hb⟩
 .rintro rfl
  obtain⟨s,rfl,rfl,rfl,hs⟩:=ChangeMaps.open_string Tryz.underlying9 hval h;exact⟨s,rfl,hs⟩
 .exact⟨w,H,enc,base,d,p,rfl,hval,h,hb⟩
theorem aRp{base:Nat}:∀{ts:List TypeId} {vs:List Value} {ds:List (DataW H)} {p:List MemPlace},
  (∀(j:Nat) t v,ts[j]?=some t->vs[j]?=some v->Value.okWide Tryz.prog w .any base t v)->DataW.TrodAll enc Tryz.prog w 0 (fun _=>true) true ts vs ds p->Rows.uptoBulkAll ds<=1048576->
  vs.length=ts.length/\ds.length=ts.length/\∀(j:Nat) t v,ts[j]?=some t->vs[j]?=some v->In (eR w) t v
 | [],vs,ds,p,_,h,_=>by
  obtain⟨rfl,rfl,rfl⟩:=trodAll_nil h;exact⟨rfl,rfl,fun j t v h=>by simp at h⟩
 | t::ts,vs,ds,p,hval,h,hb=>by
  obtain⟨v0,vs0,d0,ds0,p0,q0,rfl,rfl,rfl,h0,r0⟩:=trodAll_cons h;rw[Rows.uptoBulkAll] at hb;have i0:=bBx (hval 0 t v0 rfl rfl) h0 Aa;obtain⟨l1,l2,is⟩:=aRp (base:=base) (fun j t v h1 h2=>hval (j+1) t v (by simpa using h1) (by simpa using h2)) r0 Aa
  refine⟨by simp[l1],by simp[l2],fun j u v hu hv=>?_⟩
  cases j with
  | zero=>
   simp at hu hv;subst hu hv;exact i0
  | succ j=>exact is j u v (by simpa using hu) (by simpa using hv)
end
theorem aBe(f:FuncId)(fn:Func)(s:ChangeSpec)(laid:List (String × DataW Unit))(ts:List TypeId)(hp:fn.params=ts.toArray)(hg:∀t∈ts,t<Tryz.prog.types.size)(hr:fn.resultTypes=#[4])(hv:s.vars=[])
  (hs:∀(H:Type) (ds:List (DataW H)),ds.length=ts.length->s.fn H ds={ results:=[.lit (.bool true)],args:=ds })
  (htab:∀W,laidMetH Tryz.prog laid W->Tbs (eR W))
  (law:∀(h:aA) (vs:List Value),Tbs h->vs.length=ts.length->(∀(j:Nat) t v,ts[j]?=some t->vs[j]?=some v->In h t v)->Fn0 T f vs h fun v _=>v=.bool true)
  (H:Type) (enc:TypeId × Value->H) (W:World) (base:Nat) (args:Array Value) (ds gs:List (DataW H)) (before:List MemPlace)
  (hval:∀(j:Nat) t v,fn.params[j]?=some t->args[j]?=some v->Value.okWide Tryz.prog W .any base t v)
  (hW:DataW.Whole enc Tryz.prog fn.params.toList s.vars false W args.toList ds gs before) (hk:Rows.uptoBulkAll (ds++gs)<=1048576) (hL:laidMetH Tryz.prog laid W):
  Calls Tryz.prog f args W fun e W'=>∃v,e=.returned v/\s.post enc Tryz.prog fn false true false false W args v W':=by
 obtain⟨vs,rfl⟩:∃vs:List Value,args=vs.toArray:=⟨args.toList,by simp⟩
 have hW':=hW;obtain⟨p,q,hA0,hV,rfl,hfz,hnd⟩:=hW;have hA:DataW.TrodAll enc Tryz.prog W 0 (fun _=>true) true fn.params.toList vs ds p:=hA0
 rw[hp] at hA hval;rw[hv] at hV;obtain⟨rfl,rfl⟩:=trodVars_none hV;rw[bDg] at hk;obtain⟨hlv,hlen,hin⟩:=aRp (base:=base) (fun j t v h1 h2=>hval j t v (by simpa using h1) (by simpa using h2)) hA hk
 have again:=fun W' sp h1 h2=>aNv (W':=W') (sp:=sp) hg hA h1 h2
 refine ((law _ vs (htab W hL) hlv hin).out W (aJb W)).mono fun e W' he=>?_
 cases e with
 | returned v=>
  obtain⟨h',L',i,-,rfl⟩:=he;refine⟨_,rfl,?_⟩;refine aGf (pa:=p) (pv:=[]) hW' (fun _ _ _=>?_) (fun sp hsp=>?_) (fun _ _=>?_) rfl (aV7 i _) (aNu i) (ok_one hr rfl (okWide_bool_mk Tryz.underlying4 _))
  .rw[hr];simp only[bDg,hs _ _ hlen];exact trodAll_cons_mk (shut_bool Tryz.underlying4 _) trodAll_mk0
  .rw[hp];simp only[bDg,hs _ _ hlen];exact again W' sp (fun b hb=>i.fr b hb Ao) (fun q hq=>hsp q (by simpa using hq))
  .rw[hv];simp only[bDg,hs _ _ hlen]
   rfl
 | panicked _=>exact he.elim
 | outgrown=>exact he.elim
end Go.Proofs.YtdccpmlhflpeaaaGreatDoor