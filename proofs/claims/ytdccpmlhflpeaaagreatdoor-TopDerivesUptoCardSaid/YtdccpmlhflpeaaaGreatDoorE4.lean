/- Tokens: the program's scanner. -/
import Derived.Test.YtdccpmlhflpeaaaGreatDoorE2
set_option linter.all false
set_option maxHeartbeats 4000000
set_option maxRecDepth 20000
namespace Go.Dig
def jI(l:List Nat):Nat:=(l.takeWhile dgt).length
theorem xT(l:List Nat):jI l<=l.length:=(List.takeWhile_sublist (p:=dgt) (l:=l)).length_le
def lI(l:List Nat):Nat:=
 if 0<jI l/\jI l<l.length/\(l.getD (jI l) 0=46\/l.getD (jI l) 0=47)/\0<jI (l.drop (jI l+1)) then jI l+1+jI (l.drop (jI l+1)) else jI l
theorem aK2(l:List Nat):lI l<=l.length:=by
 have h1:=xT l;have h2:=xT (l.drop (jI l+1));rw[bD3] at h2;unfold lI
 split<;>omega
def gA:List (List Nat):=[[43],[45],[42],[47],[94],[40],[41],[44]]
structure Tk where
 kind:Nat
 text:List Nat
 pos:Nat
def jO(l:List Nat):Option (Nat × Nat):=
 if 0<cZ l then
  if l.take (cZ l)∈cB then some (3,cZ l) else if fE (l.take (cZ l)) then some (2,cZ l) else if tD (l.take (cZ l)) then some (0,cZ l) else none
 else if 0<lI l then some (1,lI l)
 else if l.take 1∈gA then some (0,1) else none
def bQ:Nat->List Nat->Nat->List Tk->List Tk × Int
 | _,[],_,acc=>(acc,-1)
 | 0,_::_,i,_=>([],i)
 | n+1,c::l,i,acc=>
  if c=32 then bQ n l (i+1) acc
  else match jO (c::l) with
   | none=>([],i)
   | some (k,m)=>bQ n ((c::l).drop m) (i+m) (acc++[⟨k,(c::l).take m,i⟩])
end Go.Dig
namespace Go.Vc
open Go Go.Dig
theorem aQo{a b:ByteArray}(h:a≠b):seq a b=false:=by
 unfold seq;cases hx:a.toList == b.toList with
 | false=>rfl
 | true=>exact (h (toList_inj (eq_of_beq hx))).elim
structure Rw (h:aA) (s:Sl) (size:Nat) (cs:List Value):Prop where
 len:s.l*size=cs.length
 cap:s.l<=s.c
 mem:cs≠[]->∃b off c T fz,s.a=some ⟨b,off,none⟩/\h b=some (.cells c T fz)/\∀i,i<cs.length->c[off+i]?=cs[i]?
theorem Rw.mono{h h':aA}{s:Sl}{size:Nat}{cs:List Value}(w:Rw h s size cs)(hl:h.le h'):Rw h' s size cs:=
 ⟨w.len,w.cap,fun hn=>let ⟨b,off,c,T,fz,h1,h2,h3⟩:=w.mem hn;⟨b,off,c,T,fz,h1,hl _ _ h2,h3⟩⟩
theorem RN.growR{e:TypeId}{size:Nat}{v w:Value}{n:Nat}{xs:List Value}{h:aA}{L:Own}{R:Value->aA->Prop}(hs:0<size)(g:aE e size v n xs L)
  (hk:∀h' (s:Sl),h.le h'->v=s.val->Rw h' s size xs->R w h'):RN w h L fun v h' L'=>L'=[]/\R v h':=by
 obtain⟨g1,⟨rfl,rfl⟩|⟨i,b,cap,zs,rfl,h2,h3,h4⟩⟩:=g
 .obtain rfl:xs=[]:=by simpa using g1
  exact RN.a (hk h ⟨none,0,0⟩ (aA.lr _) rfl ⟨by simp,bDx _,fun x=>(x rfl).elim⟩)
 .exact RN.keep i h2 fun hle=>RN.a (hk _ ⟨some ⟨b,0,none⟩,n,cap⟩ hle rfl ⟨g1.symm,h3,fun _=>⟨b,0,(xs++zs).toArray,e,(0,0),rfl,by simp[aA.put],fun j hj=>by
    rw[bDu,bD1,bDi hj]⟩⟩)
def tkv(t:Tk):List Value:=[.int .i64 t.kind,.string (txt t.text),.int .i64 t.pos]
def tkc(ts:List Tk):List Value:=ts.flatMap tkv
theorem aQp(ts:List Tk)(t:Tk):tkc (ts++[t])=tkc ts++tkv t:=by unfold tkc;simp
theorem aDz:∀ts:List Tk,(tkc ts).length=ts.length*3
 | []=>rfl
 | t::ts=>by unfold tkc;rw[bHw,bC6];have:=aDz ts;unfold tkc at this;rw[this];simp[tkv];omega
end Go.Vc
namespace Go.Proofs.Y
open Go Go.Vc Go.Dig
theorem vZ(h:aA)(l:List Nat)(hb:∀y∈l,y<256)(hl:l.length<=9223372036854775807):Fn0 T F.q128 [.string (txt l)] h fun v h'=>h'=h/\v=.int .i64 (jI l:Nat):=by
 have hz:=bF l;refine f0C ok D.q128 rfl ?_;conv=>whnf
 repeat ((first|apply oI.z|apply cI.z);conv=>whnf)
 skip
 refine LpN.of (fun r ρ h' L=>∃k:Nat,r=l.length-k/\h'=h/\rd ρ 3=.int .i64 k/\k<=l.length/\Hq (∀i,i<k->dgt (l.getD i 0)=true)) l.length ⟨0,rfl,rfl,vi Aa,Aa,⟨fun i hi=>by omega⟩⟩ ?_
 conv=>whnf
 repeat intro _
 rename_i r h1 L1 hI;obtain⟨k,rfl,rfl,e3,hk,hd⟩:=hI;conv at e3=>lhs;whnf
 subst e3;have hs:=fun (x:k<l.length) (y:dgt (l.getD k 0)=true) i (hi:i<k+1)=>(by
   by_cases e:i=k
   .subst e;exact y
   .exact hd.out i Aa:dgt (l.getD i 0)=true)
 have hw:=aB1 l k hk hd.out;obtain⟨X,hX⟩:=AB (l.getD k 0);rw[<-hX] at hs hw;replace hs:=Hq.mk hs;replace hw:=Hq.mk hw;conv=>whnf
 repeat' first|((first|(show eB _ _ _;(refine eB.txt l rfl hb k Aa Aa ?_;rw[<-hX]))|(show CN _ _ _ _ _ _;refine CN.quiet rfl (aB3 _ X) ?_)|((first|apply oI.z|apply cI.z))|refine WN.i64 Aa Aa ?_)<;>conv=>whnf)|(show cnd _ _ _;first|((first|apply aB|apply aW)<;>intro _<;>first|(exfalso;omega)|conv=>whnf))
 all_goals first
  | exact⟨rfl,l.length-(k+1),Aa,k+1,rfl,rfl,vi Aa,Aa,⟨hs.out Aa Ab⟩⟩
  | (refine RN.a ⟨rfl,?_⟩;unfold jI;rw[hw.out (by first|(left;omega)|(right;assumption))])
theorem aNg(h:aA)(l:List Nat)(hb:∀y∈l,y<256)(hl:l.length<=9223372036854775807):Fn0 T F.q71 [.string (txt l)] h fun v h'=>h'=h/\v=.int .i64 (lI l:Nat):=by
 have hz:=bF l;have hd1:=xT l;obtain⟨k,hk⟩:=AB (jI l);have c1:=fun h=>vZ h l hb hl
 have c2:=fun h=>vZ h (l.drop (k+1)) (fun y hy=>hb y (bE2 hy)) (by rw[bD3];omega)
 have n1:0<k->k<l.length->(l.getD k 0=46\/l.getD k 0=47)->0<jI (l.drop (k+1))->lI l=k+1+jI (l.drop (k+1)):=fun a b c d=>by unfold lI;rw[<-hk,if_pos ⟨a,b,c,d⟩]
 have n2:¬(0<k/\k<l.length/\(l.getD k 0=46\/l.getD k 0=47)/\0<jI (l.drop (k+1)))->lI l=k:=fun a=>by unfold lI;rw[<-hk,if_neg a]
 have hm:=xT (l.drop (k+1));rw[bD3] at hm;obtain⟨X,hX⟩:=AB (l.getD k 0);obtain⟨M,hM⟩:=AB (jI (l.drop (k+1)));have hd3:(l.take l.length).drop (k+1)=l.drop (k+1):=by rw[bDm]
 simp only[<-hX,<-hM] at n1 n2 hm c2;rw[<-hk] at hd1;simp only[<-hk] at c1;refine f0C ok D.q71 rfl ?_;conv=>whnf
 repeat' first|((first|(apply aQ.go)|(show CN _ _ _ _ _ _;first|refine CN.quiet rfl (c1 _) ?_|refine CN.quiet rfl (c2 _) ?_)|(show eB _ _ _;(refine eB.txt l rfl hb k Aa Aa ?_;rw[<-hX]))|(show Cut _ _ _ _;(refine Cut.txt l (k+1) l.length Aa Aa rfl Aa Aa ?_;rw[eZ,hd3]))|((first|apply oI.z|apply cI.z))|refine WN.i64 Aa Aa ?_)<;>conv=>whnf)|(show cnd _ _ _;first|((first|apply aB|apply aD)<;>intro _<;>first|(exfalso;omega)|conv=>whnf))
 all_goals first
  | (refine RN.a ⟨rfl,?_⟩;rw[n1 Aa Aa Aa Aa];exact vi Aa)
  | (refine RN.a ⟨rfl,?_⟩;rw[n2 Aa])
theorem aD0(h:aA)(a b:List Nat)(ha:∀y∈a,y<256)(hb:∀y∈b,y<256)(hl:a.length<=9223372036854775807):Fn0 T F.q72 [.string (txt a),.string (txt b)] h fun v h'=>h'=h/\v=.bool (dec (a.take b.length=b)):=by
 have hz:=bF a;have hy:=bF b;have f1:a.take b.length=b->dec (a.take b.length=b)=true:=bA;have f2:a.take b.length≠b->dec (a.take b.length=b)=false:=aG;have f3:a.length<b.length->a.take b.length≠b:=fun x e=>by have:=congrArg List.length e;rw[bDr] at this;omega
 have c1:∀h,Fn0 T F.q129 [.string (txt a),.string (txt b)] h fun v h'=>h'=h/\v=.bool (dec (a.take b.length=b)):=fun h=>by
  refine f0C ok D.q129 rfl ?_;conv=>whnf
  repeat' ((first|(show Cut _ _ _ _;(refine Cut.txt a 0 b.length Aa Aa rfl Aa Aa ?_;rw[eZ,bE5]))|((first|apply oI.z|apply cI.z))|(apply bI<;>intro _<;>try (exfalso;omega)))<;>conv=>whnf)
  .refine RN.a ⟨rfl,?_⟩
   congr 1
   by_cases e:a.take b.length=b
   .rw[f1 e,e];unfold Vc.seq;simp
   .rw[f2 e];exact aQo fun x=>e (uH (fun y hy=>ha y (bEd hy)) hb x)
  .refine RN.a ⟨rfl,?_⟩;rw[f2 (f3 Aa)]
 refine f0C ok D.q72 rfl ?_;conv=>whnf
 repeat' ((first|(show CN _ _ _ _ _ _;refine CN.quiet rfl (c1 _) ?_)|((first|apply oI.z|apply cI.z)))<;>conv=>whnf)
 all_goals exact RN.a ⟨rfl,rfl⟩
end Go.Proofs.Y
/- Tokens: the program's scanner, walked. -/
namespace Go.Dig
theorem aNh:∀j,j<8->(gA.getD j []).length=1:=Ad
theorem aQq:∀l∈gA,∀y∈l,y<256:=Ad
theorem aVd{l:List Nat}(h:0<cZ l)(x:l.take (cZ l)∈cB):jO l=some (3,cZ l):=by unfold jO;rw[if_pos h,if_pos x]
theorem aVe{l:List Nat}(h:0<cZ l)(x:l.take (cZ l)∉cB)(y:fE (l.take (cZ l))):jO l=some (2,cZ l):=by unfold jO;rw[if_pos h,if_neg x,if_pos y]
theorem aVf{l:List Nat}(h:0<cZ l)(x:l.take (cZ l)∉cB)(y:¬fE (l.take (cZ l)))(z:tD (l.take (cZ l))):jO l=some (0,cZ l):=by unfold jO;rw[if_pos h,if_neg x,if_neg y,if_pos z]
theorem aVg{l:List Nat}(h:0<cZ l)(x:l.take (cZ l)∉cB)(y:¬fE (l.take (cZ l)))(z:¬tD (l.take (cZ l))):jO l=none:=by unfold jO;rw[if_pos h,if_neg x,if_neg y,if_neg z]
theorem aQr{l:List Nat}(h:¬0<cZ l)(x:0<lI l):jO l=some (1,lI l):=by unfold jO;rw[if_neg h,if_pos x]
theorem aVh{l:List Nat}(h:¬0<cZ l)(x:¬0<lI l)(y:l.take 1∈gA):jO l=some (0,1):=by unfold jO;rw[if_neg h,if_neg x,if_pos y]
theorem aVi{l:List Nat}(h:¬0<cZ l)(x:¬0<lI l)(y:l.take 1∉gA):jO l=none:=by unfold jO;rw[if_neg h,if_neg x,if_neg y]
def zH(l:List Nat)(kind:Nat)(t:List Nat):Prop:=(t≠[]/\jO l=some (kind,t.length)/\t=l.take t.length)\/(t=[]/\jO l=none)
theorem zH.of{l:List Nat}{kind n:Nat}(h:jO l=some (kind,n))(h0:0<n)(hn:n<=l.length):zH l kind (l.take n):=by
 have e:(l.take n).length=n:=by rw[bDr];omega
 exact .inl ⟨fun x=>by rw[x] at e;simp at e;omega,by rw[e];exact h,by rw[e]⟩
end Go.Dig
namespace Go.Proofs.Y
open Go Go.Vc Go.Dig
theorem Rw.nil(h:aA)(size:Nat):Rw h ⟨none,0,0⟩ size []:=⟨by simp,bDx _,fun x=>(x rfl).elim⟩
theorem aVj(h:aA)(l:List Nat)(hb:∀y∈l,y<256)(hl:l.length<=1000000):Fn0 T F.q32 [.string (txt l),.bool false] h fun v h'=>∃s:Sl,v=.tuple #[s.val,.int .i64 (bQ l.length l 0 []).2]/\Rw h' s 3 (tkc (bQ l.length l 0 []).1):=by
 have hz:=bF l;obtain⟨R,hR⟩:=AB (bQ l.length l 0 []);rw[<-hR];refine f0C ok D.q32 rfl ?_
 repeat' ((first|(apply aQ.go)|((first|apply oI.z|apply cI.z))|intro (_:Nat))<;>conv=>whnf)
 refine LpN.keep0 fun hS hleS hbS=>?_
 have sg:aF5 hS ⟨some ⟨_,0,none⟩,8,8⟩ gA:=⟨rfl,_,_,_,_,rfl,hbS,fun i hi=>by
   match i,hi with
   | 0,_=>rfl
   | 1,_=>rfl
   | 2,_=>rfl
   | 3,_=>rfl
   | 4,_=>rfl
   | 5,_=>rfl
   | 6,_=>rfl
   | 7,_=>rfl⟩
 refine LpN.of (fun r ρ h' L=>∃(k n:Nat) (v:Value) (acc:List Tk),r=l.length-k/\hS.le h'/\rd ρ 8=.int .i64 k/\rd ρ 7=v/\k<=l.length/\aE Ty.syntax_Token 3 v acc.length (tkc acc) L/\acc.length<=k/\l.length-k<=n/\Hq (R=bQ n (l.drop k) k acc)) l.length
  ⟨0,l.length,_,[],rfl,aA.lr _,rfl,rfl,Aa,aE.nil _ _ _,bDx _,bDx _,⟨hR⟩⟩ ?_
 conv=>whnf
 repeat intro _
 rename_i r h1 L1 hI;obtain⟨k,n,v,acc,rfl,hle,e8,e7,hk,g,hac,hn,hq⟩:=hI;conv at e7=>lhs;whnf
 subst e7;conv at e8=>lhs;whnf
 subst e8;replace sg:=sg.mono hle;by_cases hke:k=l.length
 .subst hke;have hq:=hq.out;rw[List.drop_length,show bQ n [] l.length acc=(acc,-1) by cases n<;>rfl] at hq
  conv=>whnf
  repeat' ((first|((first|apply oI.z|apply cI.z))|(apply aB<;>intro _<;>try (exfalso;omega)))<;>conv=>whnf)
  rw[hq];exact RN.growR (size:=3) Ad g fun h' s hl e w=>⟨s,by rw[e],w⟩
 .have hkl:k<l.length:=Aa;obtain⟨c,hc⟩:=AB (l.getD k 0);obtain⟨m,hm⟩:=AB (l.drop (k+1));have hdr:l.drop k=c::m:=by rw[bD6 hkl,hc,hm];simp[bC7,hkl]
  have hck:l[k]?=some c:=by rw[hc];simp[bC7,hkl]
  have hq:=hq.out;rw[hdr] at hq;obtain⟨n',rfl⟩:∃n',n=n'+1:=⟨n-1,Aa⟩
  rw[bQ] at hq;by_cases h32:c=32
  .subst h32;rw[if_pos rfl,hm] at hq;replace hq:=Hq.mk hq;conv=>whnf
   repeat' first|((first|(show eB _ _ _;refine eB.at l 32 rfl hb k Aa hck ?_)|((first|apply oI.z|apply cI.z))|refine WN.i64 Aa Aa ?_)<;>conv=>whnf)|(show cnd _ _ _;first|((first|apply aB|apply aD)<;>intro _<;>first|(exfalso;omega)|conv=>whnf))
   all_goals exact⟨rfl,l.length-(k+1),Aa,k+1,n',_,acc,rfl,hle,vi Aa,rfl,Aa,g,Aa,Aa,hq⟩
  .rw[if_neg h32] at hq;obtain⟨rest,hrest⟩:=AB (c::m);rw[<-hrest] at hq hdr;have hrl:rest.length=l.length-k:=by rw[<-hdr,bD3]
   have hr8:∀y∈rest,y<256:=fun y hy=>hb y (by rw[<-hdr] at hy;exact bE2 hy)
   have cut1:(l.take l.length).drop k=rest:=by rw[bDm,hdr]
   have cut2:∀n,(l.take (k+n)).drop k=rest.take n:=fun n=>by rw[<-hdr,List.drop_take,bEw]
   have hdr2:∀n,rest.drop n=l.drop (k+n):=fun n=>by rw[<-hdr,bG2]
   clear hrest hm hdr;replace hq:=Hq.mk hq;replace hc:=Hq.mk hc
   repeat' first|((first|(show eB _ _ _;refine eB.at l c rfl hb k Aa hck ?_)|refine Sto.l 0 rfl rfl rfl ?_)<;>conv=>whnf)|(refine cI.seqN (a:=.seq (.region 10 _ _) _) ?_)|((first|apply oI.z|apply cI.z);conv=>whnf)|(intro (_:Nat);conv=>whnf)|(show cnd _ _ _;first|((first|apply aB|apply aD)<;>intro _<;>first|(exfalso;omega)|conv=>whnf))
   rename_i b9;have wl:=aDx rest;have nl:=aK2 rest;have c1:=fun h=>aK1 h rest hr8 Aa
   have c2:=fun h=>aNg h rest hr8 Aa
   have sgm:∀j,j<8->gA.getD j []=rest.take 1->rest.take 1∈gA:=fun j hj e=>e▸oH hj
   have sgn:(∀j,j<8->gA.getD j []≠rest.take 1)->rest.take 1∉gA:=fun x y=>by
    obtain⟨j,hj,e⟩:=bFh y;exact x j hj (by simp[bC7,show j<gA.length from hj,e])
   refine aQ.cut (fun ρ h' L'=>∃(kind:Nat) (t:List Nat),h1.le h'/\L'=(b9,.cells [.int .i64 kind,.string (txt t),.int .i64 k].toArray Ty.syntax_Token (0,0))::L1/\t.length<=rest.length/\zH rest kind t) ?_ ?_
   .by_cases hw:0<cZ rest
    .obtain⟨w,hwd⟩:=AB (rest.take (cZ rest));have w8:∀y∈w,y<256:=fun y hy=>by rw[hwd] at hy;exact hr8 y (bEd hy)
     have c3:=fun h=>aK0 h w w8
     have c4:=fun h=>zG h w w8
     have c5:=fun h=>wU h w w8
     have t1:=aVd hw;have t2:=aVe hw;have t3:=aVf hw;have t4:=aVg hw;have cw:=cut2 (cZ rest);have tw:∀kd,jO rest=some (kd,cZ rest)->zH rest kd w:=fun kd x=>by rw[hwd];exact zH.of x hw wl
     have hwl:w.length<=rest.length:=by rw[hwd,bDr];omega
     rw[<-hwd] at t1 t2 t3 t4 cw;obtain⟨W,hW⟩:=AB (cZ rest);rw[<-hW] at c1 t1 t2 t3 tw cw wl hw;clear hwd hW;conv=>whnf
     repeat' first|((first|(show Cut _ _ _ _;first|(refine Cut.txt l k l.length Aa Aa rfl Aa Aa ?_;rw[eZ,cut1])|(refine Cut.txt l k (k+W) Aa Aa rfl Aa Aa ?_;rw[eZ,cw]))|(show CN _ _ _ _ _ _;first|refine CN.quiet rfl (c1 _) ?_|(refine CN.f rfl (c3 _) (fun v h' hl hr=>?_);obtain rfl:=hr)|(refine CN.f rfl (c4 _) (fun v h' hl hr=>?_);obtain rfl:=hr)|(refine CN.f rfl (c5 _) (fun v h' hl hr=>?_);obtain rfl:=hr))|((first|apply oI.z|apply cI.z))|refine WN.i64 Aa Aa ?_|refine Ld.o 0 rfl rfl ?_|refine Sto.l 0 rfl rfl rfl ?_)<;>conv=>whnf)|(show cnd _ _ _;first|(apply aB<;>intro _<;>first|(exfalso;omega)|conv=>whnf)|(refine aJ ?_)|(apply aW<;>intro _<;>first|(exfalso;omega)|conv=>whnf))
     all_goals first
      | exact⟨rfl,3,w,Ac,rfl,hwl,tw 3 (t1 Ab)⟩
      | exact⟨rfl,2,w,Ac,rfl,hwl,tw 2 (t2 Ab Ab)⟩
      | exact⟨rfl,0,w,Ac,rfl,hwl,tw 0 (t3 Ab Ab Ab)⟩
      | (have e:=hq.out
         rw[t4 Ab Ab Ab] at e;rw[e];exact RN.a ⟨⟨none,0,0⟩,rfl,Rw.nil _ _⟩)
    .have hw0:cZ rest=0:=Aa;rw[hw0] at c1;by_cases hn0:0<lI rest
     .have t1:=zH.of (aQr hw hn0) hn0 nl;have cw:=cut2 (lI rest);have hwl:(rest.take (lI rest)).length<=rest.length:=by rw[bDr];omega
      obtain⟨w,hwd⟩:=AB (rest.take (lI rest));rw[<-hwd] at t1 cw hwl;obtain⟨W,hW⟩:=AB (lI rest);rw[<-hW] at c2 cw nl hn0;clear hwd hW;conv=>whnf
      repeat' ((first|(show Cut _ _ _ _;first|(refine Cut.txt l k l.length Aa Aa rfl Aa Aa ?_;rw[eZ,cut1])|(refine Cut.txt l k (k+W) Aa Aa rfl Aa Aa ?_;rw[eZ,cw]))|(show CN _ _ _ _ _ _;first|refine CN.quiet rfl (c1 _) ?_|refine CN.quiet rfl (c2 _) ?_)|((first|apply oI.z|apply cI.z))|refine WN.i64 Aa Aa ?_|refine Sto.l 0 rfl rfl rfl ?_|(apply aB<;>intro _<;>try (exfalso;omega)))<;>conv=>whnf)
      all_goals exact⟨rfl,1,w,Af,rfl,hwl,t1⟩
     .have hn1:lI rest=0:=Aa;rw[hn1] at c2;have t1:=fun y=>zH.of (aVh hw hn0 y) Nat.one_pos (show 1<=rest.length by omega)
      have t2:=aVi hw hn0;have hwl:(rest.take 1).length<=rest.length:=by rw[bDr];omega
      conv=>whnf
      repeat' ((first|(show Cut _ _ _ _;(refine Cut.txt l k l.length Aa Aa rfl Aa Aa ?_;rw[eZ,cut1]))|(show CN _ _ _ _ _ _;first|refine CN.quiet rfl (c1 _) ?_|refine CN.quiet rfl (c2 _) ?_)|((first|apply oI.z|apply cI.z))|(apply aB<;>intro _<;>try (exfalso;omega)))<;>conv=>whnf)
      refine LpN.of (fun r ρ h' L=>∃j:Nat,r=8-j/\h1.le h'/\rd ρ 82=.int .i64 j/\j<=8/\L=(b9,.cells [.int .i64 0,.string (txt []),.int .i64 k].toArray Ty.syntax_Token (0,0))::L1/\Hq (∀i,i<j->gA.getD i []≠rest.take 1)) 8
       ⟨0,rfl,aA.lr _,vi Aa,Aa,rfl,⟨fun i hi=>by omega⟩⟩ ?_
      conv=>whnf
      repeat intro _
      rename_i r2 h2 L2 hJ;obtain⟨j,rfl,hle2,e82,hj,rfl,hd⟩:=hJ;conv at e82=>lhs;whnf
      subst e82;have sg2:=sg.mono hle2;have s1:=aNh j;have s2:j<8->∀y∈gA.getD j [],y<256:=fun x=>aQq _ (oH x)
      have s3:j=8->jO rest=none:=fun e=>t2 (sgn (by subst e;exact hd.out))
      have s4:=sgm j;have s5:gA.getD j []≠rest.take 1->∀i,i<j+1->gA.getD i []≠rest.take 1:=fun y i hi=>by
       by_cases e:i=j
       .subst e;exact y
       .exact hd.out i Aa
      obtain⟨X,hX⟩:=AB (gA.getD j []);rw[<-hX] at s1 s2 s4 s5;have c6:=fun (x:j<8) h=>aD0 h rest X hr8 (s2 x) Aa
      have s6:j<8->rest.take X.length=rest.take 1:=fun x=>by rw[s1 x]
      replace s3:=Hq.mk s3;conv=>whnf
      repeat' first|((first|(show Idx _ _ _ _ _;refine Idx.strs sg2 j Aa (by exact (show j<8 by omega)) (fun ad hv=>?_))|(show Ld _ _ _ _;(refine Ld.of (by first|exact hv _|(rename_i hv;exact hv _)) ?_;rw[<-hX]))|(show Cut _ _ _ _;(refine Cut.txt l k l.length Aa Aa rfl Aa Aa ?_;rw[eZ,cut1]))|(show CN _ _ _ _ _ _;refine CN.quiet rfl (c6 Aa _) ?_)|((first|apply oI.z|apply cI.z))|refine WN.i64 Aa Aa ?_|refine Sto.l 0 rfl rfl rfl ?_)<;>conv=>whnf)|(show cnd _ _ _;first|((first|apply aB|apply aW)<;>intro _<;>first|(exfalso;omega)|conv=>whnf))
      all_goals first
       | exact⟨rfl,0,X,Ab,rfl,by rw[s1 Aa];omega,by
           have e:=s6 Aa;have x:rest.take X.length=X:=Ab;rw[x] at e;have t:=t1 (s4 Aa e);rw[<-e] at t;exact t⟩
       | exact⟨rfl,8-(j+1),Aa,j+1,rfl,Ab,vi Aa,Aa,rfl,⟨s5 fun y=>absurd (show rest.take X.length=X by rw[s6 Aa,<-y]) Ab⟩⟩
       | exact⟨rfl,0,[],Ab,rfl,bDw _,.inr ⟨rfl,s3.out Aa⟩⟩
   .clear c1 c2 sgm sgn cut1 cut2 wl nl;conv=>whnf
    repeat intro _
    rename_i h2 L2 hJ;obtain⟨kind,t,hle2,rfl,htl,hT⟩:=hJ;have hT1:t=[]->R=([],(k:Int)):=fun e=>by
     rcases hT with ⟨x,-⟩|⟨-,y⟩
     .exact absurd e x
     .have:=hq.out;rw[y] at this;exact this
    have hT2:t≠[]->R=bQ n' (l.drop (k+t.length)) (k+t.length) (acc++[⟨kind,t,k⟩]):=fun e=>by
     rcases hT with ⟨-,x,y⟩|⟨x,-⟩
     .have:=hq.out;rw[x] at this;simp only[<-y,hdr2] at this;exact this
     .exact absurd x e
    have hT3:t≠[]->0<t.length:=List.length_pos_iff.2;have zt:=bF t;clear hT hq;replace hT2:=Hq.mk hT2;conv=>whnf
    repeat' first|((first|(show App _ _ _ _ _ _ _ _ _;refine App.growB (A:=[_,_]) (F:=L1) (size:=3) (bytes:=32) (z:=[.int .i64 0,.string ByteArray.empty,.int .i64 0]) rfl rfl g ⟨_,0,none⟩ 1 1 [_,_,_] rfl (Has.three _) rfl Ad Aa Aa Ad (fun v' L' g' hA=>?_))|((first|apply oI.z|apply cI.z))|intro (_:Nat)|refine LdN.o 0 rfl rfl ?_|refine Ld.o 0 rfl rfl ?_)<;>conv=>whnf)|(show cnd _ _ _;first|(refine iO t rfl rfl (fun _=>?_) (fun _=>?_)<;>(conv=>whnf)))
    .rw[hT1 Ab];exact RN.a ⟨⟨none,0,0⟩,rfl,Rw.nil _ _⟩
    .have hb9:=hA _ (.tail _ (.head _));have ht0:t≠[]:=Ab;have ht1:=hT3 ht0;refine Ld.mem hb9 rfl ?_;conv=>whnf
     repeat' ((first|((first|apply oI.z|apply cI.z))|refine WN.i64 Aa Aa ?_)<;>conv=>whnf)
     all_goals exact⟨rfl,l.length-(k+t.length),Aa,k+t.length,n',v',acc++[⟨kind,t,k⟩],rfl,Ac,vi Aa,rfl,Aa,by rw[bC6,aQp];exact g',by rw[bC6];simp;omega,Aa,⟨hT2.out ht0⟩⟩
end Go.Proofs.Y