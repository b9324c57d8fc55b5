/- The program's parser of expressions, whole. -/
import Derived.Test.YtdccpmlhflpeaaaGreatDoorE19
import Derived.Lib.Builder
import Derived.Lib.AppendStr
import Derived.Lib.UnsafeStr
import Derived.Laws.Externs
set_option linter.all false
set_option maxHeartbeats 2000000
set_option maxRecDepth 100000
namespace Go.Dig
theorem aNq{l:List Nat}{k m:Nat}(h:jO l=some (k,m))(hne:l≠[]):k<=3/\0<m/\m<=l.length:=by
 have h1:=aDx l;have h2:=aK2 l;have h3:0<l.length:=List.length_pos_iff.2 hne;unfold jO at h
 split at h
 .split at h
  .cases h;omega
  .split at h
   .cases h;omega
   .split at h
    .cases h;omega
    .cases h
 .split at h
  .cases h;omega
  .split at h
   .cases h;omega
   .cases h
def bBp(N:Nat)(t:Tk):Prop:=(∀y∈t.text,y<256)/\t.pos<=N/\t.kind<=3/\t.text.length<=N
theorem zL{N:Nat}:∀(n:Nat) (l:List Nat) (i:Nat) (acc:List Tk),(∀y∈l,y<256)->i+l.length<=N->acc.length<=i->(∀t∈acc,bBp N t)->
  (∀t∈(bQ n l i acc).1,bBp N t)/\(bQ n l i acc).1.length<=N/\((bQ n l i acc).2=-1\/∃k:Nat,(bQ n l i acc).2=k)
 | n,[],i,acc,_,h2,h3,h4=>by
  have e:bQ n [] i acc=(acc,-1):=by cases n<;>rfl
  rw[e];exact⟨h4,by simp at h2;exact bDv h3 h2,.inl rfl⟩
 | 0,c::l,i,acc,_,h2,h3,h4=>by
  rw[bQ];exact⟨by simp,bDw _,.inr ⟨i,rfl⟩⟩
 | n+1,c::l,i,acc,h1,h2,h3,h4=>by
  rw[bQ];simp only[bDa] at h2
  split
  .exact zL n l (i+1) acc (fun y hy=>h1 y (bDh _ hy)) Aa Aa h4
  .split
   .exact⟨by simp,bDw _,.inr ⟨i,rfl⟩⟩
   .rename_i k m hk;obtain⟨k1,k2,k3⟩:=aNq hk Ao;rw[bDa] at k3;refine zL n _ (i+m) _ (fun y hy=>h1 y (bE2 hy)) (by rw[bD3,bDa];omega) (by rw[bC6,bD4];omega) fun t ht=>?_
    rcases bDf.1 ht with ht|ht
    .exact h4 t ht
    .obtain rfl:t=_:=by simpa using ht
     exact⟨fun y hy=>h1 y (bEd hy),by show i<=N;omega,k1,by show (List.take m (c::l)).length<=N;rw[bDr,bDa];omega⟩
end Go.Dig
namespace Go.Proofs.Y
open Go Go.Vc Go.Dig
def iW(l:List Nat):Tr × Nat × Nat:=
 if 4000<l.length then (bZ,0,4)
 else if 0<=(bQ l.length l 0 []).2 then (bZ,(bQ l.length l 0 []).2.toNat,3)
 else match rA (bQ l.length l 0 []).1 with
  | .bad j=>(bZ,iX (bQ l.length l 0 []).1 l.length j,3)
  | .ok tr _ cs=>if (oM (bQ l.length l 0 []).1 cs).1≠0 then (bZ,(oM (bQ l.length l 0 []).1 cs).2,(oM (bQ l.length l 0 []).1 cs).1) else ((qE tr).1,0,(qE tr).2)
def bCu(h:aA)(v:Value)(x:Tr × Nat × Nat):Prop:=∃a,v=.tuple #[a,.int .i64 x.2.1,.int .i64 x.2.2]/\VE h a x.1
attribute [local irreducible] Vc.Fn FnP
theorem aK5(h:aA)(tb:Tb h)(l:List Nat)(hb:∀y∈l,y<256)(hn:NkT (bQ l.length l 0 []).1):Fn0 T F.q12 [.string (txt l)] h fun v h'=>bCu h' v (iW l):=by
 have hz:=bF l;have r1:4000<l.length->iW l=(bZ,0,4):=fun x=>if_pos x
 by_cases hl4:4000<l.length
 .rw[r1 hl4];refine f0C ok D.q12 rfl ?_;conv=>whnf
  repeat' ((first|((first|apply oI.z|apply cI.z))|intro (_:Nat)|refine LdN.o 0 rfl rfl ?_|refine Sto.l 0 rfl rfl rfl ?_|(apply aB<;>intro _<;>try (exfalso;omega)))<;>conv=>whnf)
  exact RN.a ⟨_,rfl,VE.zero _⟩
 .have c1:=fun h=>aVj h l hb Aa
  obtain⟨k1,k2,k3⟩:=zL (N:=l.length) l.length l 0 [] hb Aa (bDw _) Ao;have r2:0<=(bQ l.length l 0 []).2->iW l=(bZ,(bQ l.length l 0 []).2.toNat,3):=fun x=>by unfold iW;rw[if_neg hl4,if_pos x]
  have r3:∀j,¬0<=(bQ l.length l 0 []).2->rA (bQ l.length l 0 []).1=.bad j->iW l=(bZ,iX (bQ l.length l 0 []).1 l.length j,3):=fun j x y=>by unfold iW;rw[if_neg hl4,if_neg x,y]
  have r4:∀tr i cs,¬0<=(bQ l.length l 0 []).2->rA (bQ l.length l 0 []).1=.ok tr i cs->(oM (bQ l.length l 0 []).1 cs).1≠0->iW l=(bZ,(oM (bQ l.length l 0 []).1 cs).2,(oM (bQ l.length l 0 []).1 cs).1):=fun tr i cs x y z=>by unfold iW;rw[if_neg hl4,if_neg x,y];exact if_pos z
  have r5:∀tr i cs,¬0<=(bQ l.length l 0 []).2->rA (bQ l.length l 0 []).1=.ok tr i cs->¬(oM (bQ l.length l 0 []).1 cs).1≠0->iW l=((qE tr).1,0,(qE tr).2):=fun tr i cs x y z=>by unfold iW;rw[if_neg hl4,if_neg x,y];exact if_neg z
  obtain⟨R,hR⟩:=AB (bQ l.length l 0 []);obtain⟨P,hP⟩:=AB (iW l);rw[<-hP] at r1 r2 r3 r4 r5 ⊢;rw[<-hR] at c1 k1 k2 k3 r2 r3 r4 r5 hn;clear r1 hR hP;obtain⟨ts,at_⟩:=R;simp only at c1 k1 k2 k3 r2 r3 r4 r5 hn;have hts:∀{hh:aA} {s:Sl},Rw hh s 3 (tkc ts)->dU hh s ts:=fun {hh s} w=>by
   have hlen:=w.len;rw[aDz] at hlen;exact⟨w,Aa,fun t ht=>(k1 t ht).1,Aa,fun t ht=>by have:=k1 t ht;exact⟨by have:=this.2.1;omega,this.2.2.1,by have:=this.2.2.2;omega⟩,hn⟩
  rw[<-hz] at r3;refine f0C ok D.q12 rfl ?_;conv=>whnf
  repeat' first|((first|(show CN _ _ _ _ _ _;first|(refine CN.f rfl (c1 _) (fun v h' hl2 hr=>?_);obtain⟨s,rfl,hrw⟩:=hr)|(refine CN.new rfl (aY4 _ s (txt l).size) (fun v h' La hl hr=>?_);obtain⟨rfl,bp,rfl,rfl⟩:=hr;clear hl))|((first|apply oI.z|apply cI.z))|intro (_:Nat)|refine LdN.o 0 rfl rfl ?_|refine Sto.l 0 rfl rfl rfl ?_)<;>conv=>whnf)|(show cnd _ _ _;first|((first|apply aB|apply bI)<;>intro _<;>first|(exfalso;omega)|conv=>whnf))
  .obtain⟨k,rfl⟩:∃k:Nat,at_=k:=by
    rcases k3 with x|x
    .omega
    .exact x
   rw[r2 Aa];exact RN.a ⟨_,rfl,VE.zero _⟩
  .have hat:¬0<=at_:=Aa;have hto:=hts hrw;have tb':=tb.mono hl2;refine CN.par2 (A:=[]) (Lp:=[_,_,_]) (B:=[_]) rfl (Fn.pan (aY2 (f:=F.q35) rfl [.pointer (some ⟨_,0,none⟩),.pointer (some ⟨_,0,none⟩)] h' [_,_,_] _ _ (aNm ts _ s (txt l).size h' (.slice none 0 0) [] _ _ _ tb' hto (aE.nil _ _ _)))) (fun v h2 Lp hl3 hr=>?_) (fun _ _ _ _ x=>x.elim)
   rcases hr with ⟨rv,⟨tr,i1,cs1,v1,G1,op,ar,ng,nn,dd,nm,ss,htop,hcs,rfl,g1,hE⟩,rfl⟩|⟨i,rfl,j,htop,rfl⟩
   .have c5:=fun h tb w=>aQ1 h tb bp s ts i1 (txt l).size v1 cs1 G1 w g1 Aa
    have tb2:=tb'.mono hl3;have hto2:=hto.mono hl3;obtain⟨Q,hQ⟩:=AB (oM ts cs1);replace r4:=r4 tr i1 cs1 hat htop;replace r5:=r5 tr i1 cs1 hat htop;rw[<-hQ] at r4 r5 c5;conv=>whnf
    repeat' ((first|(apply aQ.go)|((first|apply oI.z|apply cI.z))|intro (_:Nat)|(show Ld _ _ _ _;first|refine Ld.o 0 rfl rfl ?_|refine Ld.o 2 rfl rfl ?_)|refine Sto.l 0 rfl rfl rfl ?_|(apply aD<;>intro _<;>try (exfalso;omega)))<;>conv=>whnf)
    all_goals refine CN.par2 (A:=[_,_,_]) (B:=[_]) rfl (Fn.pan (c5 _ tb2 hto2)) (fun v h' Lp hl hr=>?_) (fun _ _ _ _ x=>x.elim)
    obtain⟨rfl,rfl⟩:=hr;simp only[bEm,bEn];have hE2:=hE.mono hl;have tb3:=tb2.mono hl;have c6:=fun h tb w=>zK tr h [.int .i64 op,.int .i64 ar,.bool ng,nn.val,dd.val,.string (txt nm),ss.val] tb w
    conv=>whnf
    repeat' first|((first|(show CN _ _ _ _ _ _;(refine CN.f rfl (c6 _ tb3 hE2) (fun v h' hl2 hr=>?_);obtain⟨_,rfl,op2,ar2,ng2,nn2,dd2,nm2,ss2,rfl,hE3⟩:=hr))|(show DrN _ _ _ _ _ _;refine DrN.each Al ?_)|((first|apply oI.z|apply cI.z))|refine⟨fun _=>aH.o (aA.lr _),?_⟩|intro (_:Nat)|(show LdN _ _ _ _ _;first|refine LdN.o 0 rfl rfl ?_|refine LdN.o 1 rfl rfl ?_|refine LdN.o 3 rfl rfl ?_|refine LdN.o 4 rfl rfl ?_)|refine Ld.o 0 rfl rfl ?_|(show Sto _ _ _ _;first|refine Sto.l 0 rfl rfl rfl ?_|refine Sto.l 3 rfl rfl rfl ?_|refine Sto.l 4 rfl rfl rfl ?_))<;>conv=>whnf)|(show cnd _ _ _;first|(apply aD<;>intro _<;>first|(exfalso;omega)|conv=>whnf)|(refine aJ ?_))|(refine sS.mk ?_ ?_<;>(conv=>whnf))
    all_goals first
     | (rw[r4 Aa];exact RN.a ⟨_,rfl,VE.zero _⟩)
     | (rw[r5 Aa];exact RN.a ⟨_,rfl,op2,ar2,ng2,nn2,dd2,nm2,ss2,rfl,hE3⟩)
   .rw[r3 j hat htop];simp only[bEm];conv=>whnf
    repeat' first|((first|(apply aQ.go)|(show DrN _ _ _ _ _ _;refine DrN.each Al ?_)|(show Sto _ _ _ _;first|refine Sto.tl (A:=[_]) (X:=Lp) rfl rfl ?_|refine Sto.l 0 rfl rfl rfl ?_)|(show LdN _ _ _ _ _;refine LdN.tl (A:=[_]) (F:=Lp) rfl ?_)|((first|apply oI.z|apply cI.z))|refine⟨fun _=>aH.o (aA.lr _),?_⟩|intro (_:Nat)|refine Ld.o 0 rfl rfl ?_)<;>conv=>whnf)|(show cnd _ _ _;first|(apply aD<;>intro _<;>first|(exfalso;omega)|conv=>whnf)|(refine aJ ?_))|(refine sS.mk ?_ ?_<;>(conv=>whnf))
    all_goals exact RN.a ⟨_,rfl,VE.zero _⟩
end Go.Proofs.Y
/- A builder of text in the call's own memory. -/
namespace Go.Vc
open Go Go.Dig
theorem aD4{x:List Nat}(hx:∀y∈x,y<256):Lib.strCells (txt x)=x.map (vu .u8):=by
 unfold Lib.strCells txt;simp only[bGx];apply bHh;intro y hy;simp only[Function.comp,vu]
 congr 2
 rw[UInt8.toNat_ofNat',bEl (hx y hy)]
theorem Ext.appS{T:Tab}{c:Call}{s:Value}{x:List Nat}{h:aA}{A X:Own}{k:Value->aA->Own->Prop}{n:Nat}{xs:List Value}{e t u:TypeId}(hc:c.callee=.builtin .append)(hat:c.argTypes=#[t,u])
  (ht:T.und t=some (.slice e)) (hu:T.und u=some .string) (hi:T.inf e=some ([.int .u8 0],1)) (g:aE e 1 s n xs X) (hx:∀y∈x,y<256) (h0:x≠[]) (hm:n+x.length<=70368744177664)
  (hk:∀v' X',aE e 1 v' (n+x.length) (xs++x.map (vu .u8)) X'->k v' h (A++X')):Ext T (.call c) c.args.toList [s,.string (txt x)] h (A++X) k:=by
 refine⟨fun ok o ρ K Q w0 h0' L0 w hop hargs inv hout hP hK=>.inl ?_⟩
 obtain⟨i,zv,h1,h2,h3,h4,h5⟩:=ok.inf _ _ _ hi;have hz:([Value.int .u8 0]:List Value).length=1:=rfl;have hs1:i.size=1:=by rw[h4];rfl
 have htx:=bF x;have hsc:=aD4 hx;have hx0:0<x.length:=List.length_pos_iff.2 h0;have hht:=ok.und _ _ ht;have hhu:=ok.und _ _ hu;have hexec:∀r,(Builtin.append_ #[t,u] o.type #[s,.string (txt x)]).run T.prog w=r->(execOp ρ.eval o).run T.prog w=r.andThen fun v w=>.ok (.value v) w:=by
  intro r hr;have ea:c.args.map ρ.eval=#[s,.string (txt x)]:=by apply Array.ext';simpa using hargs
  rw[<-hr,<-hat];simp only[execOp,hop,resolve,hc,invoke,builtin,bEg,bEj,bEf,ea]
 have fin:∀(v':Value) (L':Own) (w':World),(Builtin.append_ #[t,u] o.type #[s,.string (txt x)]).run T.prog w=.ok v' w'->Inv w0 h0' L0 h L' w'->k v' h L'->o.wp T.prog ρ w K Q:=fun v' L' w' hr hinv hkk=>
  aX (hexec _ hr) (hK _ _ _ _ hinv hkk)
 have hnl:∀cap,(Builtin.zeroCells zv.cells (cap-(n+x.length))).toList.length=cap-(n+x.length):=fun cap=>by
  rw[Array.length_toList,size_zeroCells,h3];simp
 obtain⟨gl,⟨rfl,rfl⟩|⟨j,b,cap,zs,rfl,hj,hnc,hlen⟩⟩:=g
 .have hx:xs=[]:=bDn (by simpa using gl);subst hx;have hr:=run_append_nil_string (P:=T.prog) w t u o.type e i zv hht hhu h1 h2 (txt x) Aa Aa (by rw[h5,htx];omega);have e1:((txt x).data.map (fun b=>Value.int .u8 b.toNat))=(x.map (vu .u8)).toArray:=by
   rw[<-hsc];unfold Lib.strCells;apply Array.ext';simp
  rw[htx,e1] at hr;have iv:=Inv.perm (inv.drew.alloc (.cells ((x.map (vu .u8)).toArray++Builtin.zeroCells zv.cells (grownCap w x.length 0 e-x.length)) e) rfl) (bH2 (l₁:=A) (l₂:=X)).symm;refine fin _ _ _ hr iv ?_;refine hk _ (_::X) ?_;have hge:=grownCap_ge w x.length 0 e;refine⟨by simp,.inr ⟨0,w.heap.size,_,(Builtin.zeroCells zv.cells (grownCap w x.length 0 e-x.length)).toList,by rw[bDu],?_,Aa,?_⟩⟩
  .simp
  .have:=hnl (grownCap w x.length 0 e);simp only[bDu] at this;rw[bEm,bC6,this,bDt];omega
 .obtain⟨hlt,hget⟩:=bC9.1 hj;have hj':(A++X)[A.length+j]?=some (b,.cells (xs++zs).toArray e (0,0)):=by
   rw[bDs Aa,bEw];exact hj
  have hown:w.heap[b]?=some (.cells (xs++zs).toArray e (0,0)):=inv.own _ (bDc hj');rw[bFm] at gl hlen;by_cases hroom:n+x.length<=cap
  .have hr:=Lib.run_append_room_string (P:=T.prog) w t u o.type e i hht hhu h1 hs1 b n cap (xs++zs).toArray hown (txt x) Aa (by rw[bE6,hlen];omega);have htake:(xs++zs).take n=xs:=by rw[<-gl];exact bF3
   rw[htx,hsc] at hr;simp only[htake] at hr;have hu:Upd w b (.cells (xs++x.map (vu .u8)++(xs++zs).drop (n+x.length)).toArray e (0,0)) (w.setRow b (xs++x.map (vu .u8)++(xs++zs).drop (n+x.length)).toArray):=
    ⟨setRow_heap w b _ _ e _ hown,fun x hx=>setRow_other w b x _ hx,by simp[World.setRow],rfl,rfl,rfl,rfl⟩
   refine fin _ _ _ hr (inv.upd hj' hu) ?_;rw[bEo _ _ Aa,bEw];refine hk _ _ ⟨by rw[bC6,gl,bDt,bFm],.inr ⟨j,b,cap,(xs++zs).drop (n+x.length),rfl,?_,hroom,?_⟩⟩
   .rw[bEy hlt]
   .have:=bD3 (l:=xs++zs) (i:=n+x.length);rw[bC6,bC6,this,hlen,gl,bDt,bFm];omega
  .have hxs:∀j u,xs[j]?=some u->w.cell? ((⟨b,0,none⟩:Addr).add j)=some u:=fun q u hu=>by
    rw[bB,bDu];refine inv.toSat.cell (Has.own (A.length+j) hj' ?_);obtain⟨h1,h2⟩:=bC9.1 hu;simp[bDi h1,hu]
   have hr:=Lib.run_append_grow_string (P:=T.prog) w t u o.type e i zv hht hhu h1 h2 ⟨b,0,none⟩ n cap xs (by rw[gl,hs1,bFm]) hxs (txt x) Aa Aa (growslice_fits Aa (by rw[h5,htx];omega));rw[htx,hsc] at hr;have iv:=Inv.perm (inv.drew.alloc (.cells (xs.toArray++(x.map (vu .u8)).toArray++Builtin.zeroCells zv.cells (grownCap w (n+x.length) cap e-(n+x.length))) e) rfl) (bH2 (l₁:=A) (l₂:=X)).symm;refine fin _ _ _ hr iv ?_;refine hk _ (_::X) ?_;have hge:=grownCap_ge w (n+x.length) cap e;refine⟨by rw[bC6,gl,bDt,bFm],.inr ⟨0,w.heap.size,_,(Builtin.zeroCells zv.cells (grownCap w (n+x.length) cap e-(n+x.length))).toList,rfl,?_,hge,?_⟩⟩
   .simp
   .rw[bC6,hnl,bC6,gl,bDt];omega
theorem Ext.sliceData{T:Tab}{c:Call}{h:aA}{L:Own}{k:Value->aA->Own->Prop}{a:Addr}{n cap:Nat}(hc:c.callee=.builtin .unsafeSliceData)(hcap:cap≠0)(hk:k (.pointer (some a)) h L):Ext T (.call c) c.args.toList [.slice (some a) n cap] h L k:=by
 refine⟨fun ok o ρ K Q w0 h0' L0 w hop hargs inv hout hP hK=>.inl ?_⟩
 have ea:c.args.map ρ.eval=#[.slice (some a) n cap]:=by apply Array.ext';simpa using hargs
 refine aX (w':=w) (v:=.pointer (some a)) ?_ (hK _ _ _ _ inv hk);simp only[execOp,hop,resolve,hc,invoke,builtin,bEg,bEj,bEf,ea];rw[Lib.run_unsafeSliceData_row _ _ _ _ _ _ hcap]
 rfl
theorem Ext.unsafeStr{T:Tab}{c:Call}{h:aA}{L:Own}{k:Value->aA->Own->Prop}{pt it e:TypeId}{z:Value}{by_ b:Nat}(i:Nat){x:List Nat}{zs:List Value}(hc:c.callee=.builtin .unsafeString)(hat:c.argTypes=#[pt,it])
  (hp:T.und pt=some (.pointer e)) (hi:T.inf e=some ([z],by_)) (hL:L[i]?=some (b,.cells (x.map (vu .u8)++zs).toArray e (0,0))) (hx:∀y∈x,y<256) (h0:x≠[]) (hm:x.length<=1000000000)
  (hk:∀fz,k (.string (txt x)) h (L.set i (b,.cells (x.map (vu .u8)++zs).toArray e fz))):Ext T (.call c) c.args.toList [.pointer (some ⟨b,0,none⟩),.int .i64 x.length] h L k:=by
 refine⟨fun ok o ρ K Q w0 h0' L0 w hop hargs inv hout hP hK=>.inl ?_⟩
 have ea:c.args.map ρ.eval=#[.pointer (some ⟨b,0,none⟩),.int .i64 x.length]:=by apply Array.ext';simpa using hargs
 obtain⟨inf,zv,h1,h2,h3,h4,h5⟩:=ok.inf _ _ _ hi;have hg:w.heap[b]?=some (.cells (x.map (vu .u8)++zs).toArray e (0,0)):=inv.own _ (bDc hL);have hcell:T.prog.cellsOf e=1:=by simp[Program.cellsOf,h1,h4]
 obtain⟨l,hl⟩:∃l:List UInt8,l=x.map UInt8.ofNat:=⟨_,rfl⟩
 have hll:l.length=x.length:=by rw[hl,bDt]
 have htx:txt x=⟨l.toArray⟩:=by rw[hl];rfl
 have hr:=Lib.run_unsafeString_row (P:=T.prog) w pt it o.type e (ok.und _ _ hp) hcell b (x.map (vu .u8)++zs).toArray.size (by simp[World.shape?,hg]) l (by rw[hl];simpa using h0) (by rw[hll];simp) Aa (by
   intro j y hy;rw[bB,bDu];have hj:j<x.length:=by rw[<-hll];exact (bC9.1 hy).1
   rw[hl,bF1,bC8 hj] at hy;simp only[bGq,Option.some.injEq] at hy;refine inv.toSat.cell (Has.own i hL ?_);rw[bD1,bDi (by simpa using hj),bF1,bC8 hj,<-hy];simp only[bGq,vu];rw[UInt8.toNat_ofNat',bEl (hx _ (bFe hj))])
 rw[hll,<-htx] at hr;have hfz:∃fz,Upd w b (.cells (x.map (vu .u8)++zs).toArray e fz) (w.freeze ⟨b,0,none⟩ x.length):=by
  have hx0:x.length≠0:=by simpa using h0
  refine⟨(0,0+x.length),?_,?_,?_,?_,?_,?_,rfl⟩<;>simp only[World.freeze,if_neg hx0]
  .simp[Array.getElem?_modify,hg]
  .intro y hy;rw[Array.getElem?_modify,if_neg (by simpa using Ne.symm hy)]
  .simp
 obtain⟨fz,hu⟩:=hfz;refine aX (v:=.string (txt x)) ?_ (hK _ _ _ _ (inv.upd hL hu) (hk fz));simp only[execOp,hop,resolve,hc,invoke,builtin,bEg,bEj,bEf,ea];rw[hat,hr]
 rfl
end Go.Vc
namespace Go.Proofs.Y
open Go Go.Vc Go.Dig
theorem aNr(b:Nat)(w:World)(h0:w.cell? ⟨b,0,none⟩=some (.pointer (some ⟨b,0,none⟩))):
  Calls Tryz.prog 179 #[.pointer (some ⟨b,0,none⟩)] w fun e w'=>e=.returned (.tuple #[])/\w'=w:=by
 obtain⟨j,zv,hj',-,-,hjs,-⟩:=ok.inf 120 _ _ rfl;have hj:Tryz.prog.info? 120=some j:=hj';have hp:Tryz.prog.underlying 117=some (.pointer 120):=Tryz.underlying117
 go_enter Tryz.func179,Tryz.ntmps179
 go_wp2
 rw[Lib.run_neq_ptr_same w _ hp hj]
 go_wp2
 go_end0
 exact⟨rfl,rfl⟩
theorem aI6(b:Nat)(w:World)(h0:w.cell? ⟨b,0,none⟩=some (.pointer none))(hsh:w.shape? b=some (120,2))(hfz:w.frozen? ⟨b,0,none⟩=false):
  Calls Tryz.prog 179 #[.pointer (some ⟨b,0,none⟩)] w fun e w'=>e=.returned (.tuple #[])/\w'=w.setCell ⟨b,0,none⟩ (.pointer (some ⟨b,0,none⟩)):=by
 obtain⟨j,zv,hj',-,-,hjs,-⟩:=ok.inf 120 _ _ rfl;have hj:Tryz.prog.info? 120=some j:=hj';have hp:Tryz.prog.underlying 117=some (.pointer 120):=Tryz.underlying117;have hu:Tryz.prog.underlying 234=some .unsafePointer:=Tryz.underlying234;have hjs2:j.size=2:=hjs
 go_enter Tryz.func179,Tryz.ntmps179
 go_wp2
 rw[Lib.run_to_unsafe w ⟨b,0,none⟩ hp hu hj (by rw[hjs2];decide) hsh (Nat.zero_lt_succ 1)];simp only[Result.andThen];rw[Oper.upon_value]
 go_wp2
 rw[run_callFunc_extern Tryz.func207 (by kernel_rfl) (by kernel_rfl) (by kernel_rfl) (e:=Extern.AbiNoEscape.same) (by kernel_rfl)];rw[Lib.run_noEscape];simp only[Result.andThen];rw[Oper.upon_value]
 go_wp2
 rw[Lib.run_from_unsafe w ⟨b,0,none⟩ hu hp hj hsh (by kernel_rfl)];simp only[Result.andThen];rw[Oper.upon_value]
 go_wp2
 go_end0
 exact⟨rfl,rfl⟩
def BB(b:Nat)(p v:Value):Nat × Obj:=(b,.cells [p,v].toArray 120 (0,0))
theorem Fn.ofCalls1{f:FuncId}{args:List Value}{h:aA}{b:Nat}{o o':Obj}{v:Value}(hc:∀w:World,w.heap[b]?=some o->Calls T.prog f args.toArray w fun e w'=>e=.returned v/\Upd w b o' w'):
  Vc.Fn T f args h [(b,o)] fun r h' L'=>h'=h/\L'=[(b,o')]/\r=v:=by
 intro w s;refine (hc w (s.own _ (bDk.2 rfl))).mono fun e w' he=>?_
 obtain⟨rfl,hu⟩:=he;exact⟨h,[(b,o')],(Inv.init s).upd (n:=0) rfl hu,rfl,rfl,rfl⟩
theorem aD5(h:aA)(b:Nat)(p v:Value)(hp:p=.pointer none\/p=.pointer (some ⟨b,0,none⟩)):
  Vc.Fn T F.q179 [.pointer (some ⟨b,0,none⟩)] h [BB b p v] fun r h' L'=>h'=h/\L'=[BB b (.pointer (some ⟨b,0,none⟩)) v]/\r=.tuple #[]:=by
 refine Fn.ofCalls1 fun w hw=>?_
 rcases hp with rfl|rfl
 .refine (aI6 b w (by simp[World.cell?,hw]) (by simp[World.shape?,hw]) (by simp[World.frozen?,hw])).mono fun e w' he=>?_
  obtain⟨rfl,rfl⟩:=he;exact⟨rfl,eX (off:=0) hw _⟩
 .refine (aNr b w (by simp[World.cell?,hw])).mono fun e w' he=>?_
  obtain⟨rfl,rfl⟩:=he;exact⟨rfl,hw,fun _ _=>rfl,rfl,rfl,rfl,rfl,rfl⟩
def Bld(b:Nat)(x:List Nat)(L:Own):Prop:=∃p v X,L=BB b p v::X/\(p=.pointer none\/p=.pointer (some ⟨b,0,none⟩))/\aE Ty.uint8 1 v x.length (x.map (vu .u8)) X
theorem WSc(h:aA)(b:Nat)(x y:List Nat)(L:Own)(hL:Bld b x L)(hy:∀c∈y,c<256)(h0:y≠[])(hm:x.length+y.length<=1000000000):
  Vc.Fn T F.q120 [.pointer (some ⟨b,0,none⟩),.string (txt y)] h L fun r h' L'=>h'=h/\Bld b (x++y) L'/\∃n e,r=.tuple #[n,e]:=by
 obtain⟨p,v,X,rfl,hp,g⟩:=hL;refine f1C ok D.q120 rfl ?_;conv=>whnf
 repeat' ((first|(show CN _ _ _ _ _ _;(refine CN.own 0 rfl rfl (aD5 _ b p v hp) (fun v h' La hl hr=>?_);obtain⟨rfl,rfl,rfl⟩:=hr;clear hl;refine⟨_,rfl,?_⟩))|(show Ext _ _ _ _ _ _ _;(refine Ext.appS (A:=[_]) rfl rfl rfl rfl rfl g hy h0 Aa (fun v' X' g'=>?_);obtain⟨sv,rfl⟩:=g'.sl))|((first|apply oI.z|apply cI.z))|refine Ld.o 0 rfl rfl ?_|refine Sto.l 0 rfl rfl rfl ?_)<;>conv=>whnf)
 exact RN.done ⟨rfl,⟨_,_,X',rfl,.inr rfl,by rw[bC6,bDl];exact g'⟩,_,_,rfl⟩
end Go.Proofs.Y
namespace Go.Vc
open Go
theorem aH.mark{h:aA}{L:Own}{b n:Nat}{c:Array Value}{T:TypeId}{fz fz':Nat × Nat}(hL:L[n]?=some (b,.cells c T fz)):aH h L h (L.set n (b,.cells c T fz')):=by
 rintro a v ⟨h1,c1,T1,fz1,hm,hg⟩
 rcases hm with hm|hm
 .exact⟨h1,c1,T1,fz1,.inl hm,hg⟩
 .obtain⟨i,hi⟩:=List.mem_iff_getElem?.1 hm;by_cases e:i=n
  .subst e;rw[hL] at hi;have:=Option.some.inj hi
   injection this with e1 e2
   injection e2 with e2 e3 e4
   subst e2 e3;refine⟨h1,c,T,fz',.inr ?_,hg⟩;rw[<-e1];exact List.mem_iff_getElem?.2 ⟨i,by rw[bEy (bC9.1 hL).1]⟩
  .exact⟨h1,c1,T1,fz1,.inr (List.mem_iff_getElem?.2 ⟨i,by rw[List.getElem?_set_ne (Ne.symm e)];exact hi⟩),hg⟩
end Go.Vc
namespace Go.Proofs.Y
open Go Go.Vc Go.Dig
theorem aNs(h:aA)(b:Nat)(x:List Nat)(L:Own)(hL:Bld b x L)(hx:∀c∈x,c<256)(h0:x≠[])(hm:x.length<=1000000000):
  Vc.Fn T F.q67 [.pointer (some ⟨b,0,none⟩)] h L fun r h' L'=>h'=h/\r=.string (txt x):=by
 obtain⟨p,v,X,rfl,hp,gl,⟨rfl,hn⟩|⟨i,g,cap,zs,rfl,hj,hnc,hlen⟩⟩:=hL
 .exact absurd (bD7.1 hn) h0
 .have hx0:0<x.length:=List.length_pos_iff.2 h0;have hj':(BB b p (.slice (some ⟨g,0,none⟩) x.length cap)::X)[i+1]?=some (g,.cells (x.map (vu .u8)++zs).toArray Ty.uint8 (0,0)):=by simpa using hj
  refine f1C ok D.q67 rfl ?_;conv=>whnf
  repeat' ((first|(show Ext _ _ _ _ _ _ _;first|refine Ext.sliceData rfl Aa ?_|(refine Ext.unsafeStr (i+1) rfl rfl rfl rfl hj' hx h0 hm (fun fz=>?_);refine⟨fun _=>aH.mark hj',?_⟩))|((first|apply oI.z|apply cI.z))|refine⟨fun _=>aH.o (aA.lr _),?_⟩|refine Ld.o 0 rfl rfl ?_|refine DrN.run Al ?_)<;>conv=>whnf)
  exact RN.done ⟨rfl,rfl⟩
end Go.Proofs.Y