/- Tokens: the program's scanner. -/
import Derived.Test.YtiohcpiloenmoaaGreatDoorE2
set_option linter.all false
set_option maxHeartbeats 4000000
set_option maxRecDepth 20000
namespace Go.Dig
def lO(l:List Nat):Nat:=(l.takeWhile dgt).length
theorem vK(l:List Nat):lO l<=l.length:=(List.takeWhile_sublist (p:=dgt) (l:=l)).length_le
def oC(l:List Nat):Nat:=
 if 0<lO l/\lO l<l.length/\(l.getD (lO l) 0=46\/l.getD (lO l) 0=47)/\0<lO (l.drop (lO l+1)) then lO l+1+lO (l.drop (lO l+1)) else lO l
theorem aH6(l:List Nat):oC l<=l.length:=by
 have h1:=vK l;have h2:=vK (l.drop (lO l+1));rw[aZz] at h2;unfold oC
 split<;>omega
def iD:List (List Nat):=[[43],[45],[42],[47],[94],[40],[41],[44]]
structure Tk where
 kind:Nat
 text:List Nat
 pos:Nat
def lP(l:List Nat):Option (Nat × Nat):=
 if 0<eE l then
  if l.take (eE l)∈bI then some (3,eE l) else if dH (l.take (eE l)) then some (2,eE l) else if sF (l.take (eE l)) then some (0,eE l) else none
 else if 0<oC l then some (1,oC l)
 else if l.take 1∈iD then some (0,1) else none
def cQ:Nat->List Nat->Nat->List Tk->List Tk × Int
 | _,[],_,acc=>(acc,-1)
 | 0,_::_,i,_=>([],i)
 | n+1,c::l,i,acc=>
  if c=32 then cQ n l (i+1) acc
  else match lP (c::l) with
   | none=>([],i)
   | some (k,m)=>cQ n ((c::l).drop m) (i+m) (acc++[⟨k,(c::l).take m,i⟩])
end Go.Dig
namespace Go.Vc
open Go Go.Dig
theorem aNk{a b:ByteArray}(h:a≠b):seq a b=false:=by
 unfold seq;cases hx:a.toList == b.toList with
 | false=>rfl
 | true=>exact (h (toList_inj (eq_of_beq hx))).elim
structure Rw (h:aA) (s:Sl) (size:Nat) (cs:List Value):Prop where
 len:s.l*size=cs.length
 cap:s.l<=s.c
 mem:cs≠[]->∃b off c T fz,s.a=some ⟨b,off,none⟩/\h b=some (.cells c T fz)/\∀i,i<cs.length->c[off+i]?=cs[i]?
theorem Rw.mono{h h':aA}{s:Sl}{size:Nat}{cs:List Value}(w:Rw h s size cs)(hl:h.le h'):Rw h' s size cs:=
 ⟨w.len,w.cap,fun hn=>let ⟨b,off,c,T,fz,h1,h2,h3⟩:=w.mem hn;⟨b,off,c,T,fz,h1,hl _ _ h2,h3⟩⟩
theorem RN.growR{e:TypeId}{size:Nat}{v w:Value}{n:Nat}{xs:List Value}{h:aA}{L:Own}{R:Value->aA->Prop}(hs:0<size)(g:aE e size v n xs L)
  (hk:∀h' (s:Sl),h.le h'->v=s.val->Rw h' s size xs->R w h'):RN w h L fun v h' L'=>L'=[]/\R v h':=by
 obtain⟨g1,⟨rfl,rfl⟩|⟨i,b,cap,zs,rfl,h2,h3,h4⟩⟩:=g
 .obtain rfl:xs=[]:=by simpa using g1
  exact RN.a (hk h ⟨none,0,0⟩ (aA.lr _) rfl ⟨by simp,aZt _,fun x=>(x rfl).elim⟩)
 .exact RN.keep i h2 fun hle=>RN.a (hk _ ⟨some ⟨b,0,none⟩,n,cap⟩ hle rfl ⟨g1.symm,h3,fun _=>⟨b,0,(xs++zs).toArray,e,(0,0),rfl,by simp[aA.put],fun j hj=>by
    rw[aZq,aZx,aZe hj]⟩⟩)
def tkv(t:Tk):List Value:=[.int .i64 t.kind,.string (txt t.text),.int .i64 t.pos]
def tkc(ts:List Tk):List Value:=ts.flatMap tkv
theorem aNl(ts:List Tk)(t:Tk):tkc (ts++[t])=tkc ts++tkv t:=by unfold tkc;simp
theorem aBw:∀ts:List Tk,(tkc ts).length=ts.length*3
 | []=>rfl
 | t::ts=>by unfold tkc;rw[bDc,aY2];have:=aBw ts;unfold tkc at this;rw[this];simp[tkv];omega
end Go.Vc
namespace Go.Proofs.Y
open Go Go.Vc Go.Dig
theorem tV(h:aA)(l:List Nat)(hb:∀y∈l,y<256)(hl:l.length<=9223372036854775807):Fn0 T F.q150 [.string (txt l)] h fun v h'=>h'=h/\v=.int .i64 (lO l:Nat):=by
 have hz:=bF l;refine f0C ok D.q150 rfl ?_;conv=>whnf
 repeat ((first|apply oI.z|apply cI.z);conv=>whnf)
 skip
 refine LpN.of (fun r ρ h' L=>∃k:Nat,r=l.length-k/\h'=h/\rd ρ 3=.int .i64 k/\k<=l.length/\Hq (∀i,i<k->dgt (l.getD i 0)=true)) l.length ⟨0,rfl,rfl,vi Aa,Aa,⟨fun i hi=>by omega⟩⟩ ?_
 conv=>whnf
 repeat intro _
 rename_i r h1 L1 hI;obtain⟨k,rfl,rfl,e3,hk,hd⟩:=hI;conv at e3=>lhs;whnf
 subst e3;have hs:=fun (x:k<l.length) (y:dgt (l.getD k 0)=true) i (hi:i<k+1)=>(by
   by_cases e:i=k
   .subst e;exact y
   .exact hd.out i Aa:dgt (l.getD i 0)=true)
 have hw:=zW l k hk hd.out;obtain⟨X,hX⟩:=AE (l.getD k 0);rw[<-hX] at hs hw;replace hs:=Hq.mk hs;replace hw:=Hq.mk hw;conv=>whnf
 repeat' first|((first|(show eF _ _ _;(refine eF.txt l rfl hb k Aa Aa ?_;rw[<-hX]))|(show CN _ _ _ _ _ _;refine CN.quiet rfl (zY _ X) ?_)|((first|apply oI.z|apply cI.z))|refine WN.i64 Aa Aa ?_)<;>conv=>whnf)|(show cnd _ _ _;first|((first|apply aB|apply aN)<;>intro _<;>first|(exfalso;omega)|conv=>whnf))
 all_goals first
  | exact⟨rfl,l.length-(k+1),Aa,k+1,rfl,rfl,vi Aa,Aa,⟨hs.out Aa Ab⟩⟩
  | (refine RN.a ⟨rfl,?_⟩;unfold lO;rw[hw.out (by first|(left;omega)|(right;assumption))])
theorem aJ4(h:aA)(l:List Nat)(hb:∀y∈l,y<256)(hl:l.length<=9223372036854775807):Fn0 T F.q88 [.string (txt l)] h fun v h'=>h'=h/\v=.int .i64 (oC l:Nat):=by
 have hz:=bF l;have hd1:=vK l;obtain⟨k,hk⟩:=AE (lO l);have c1:=fun h=>tV h l hb hl
 have c2:=fun h=>tV h (l.drop (k+1)) (fun y hy=>hb y (bA0 hy)) (by rw[aZz];omega)
 have n1:0<k->k<l.length->(l.getD k 0=46\/l.getD k 0=47)->0<lO (l.drop (k+1))->oC l=k+1+lO (l.drop (k+1)):=fun a b c d=>by unfold oC;rw[<-hk,if_pos ⟨a,b,c,d⟩]
 have n2:¬(0<k/\k<l.length/\(l.getD k 0=46\/l.getD k 0=47)/\0<lO (l.drop (k+1)))->oC l=k:=fun a=>by unfold oC;rw[<-hk,if_neg a]
 have hm:=vK (l.drop (k+1));rw[aZz] at hm;obtain⟨X,hX⟩:=AE (l.getD k 0);obtain⟨M,hM⟩:=AE (lO (l.drop (k+1)));have hd3:(l.take l.length).drop (k+1)=l.drop (k+1):=by rw[aZi]
 simp only[<-hX,<-hM] at n1 n2 hm c2;rw[<-hk] at hd1;simp only[<-hk] at c1;refine f0C ok D.q88 rfl ?_;conv=>whnf
 repeat' first|((first|(apply aO.go)|(show CN _ _ _ _ _ _;first|refine CN.quiet rfl (c1 _) ?_|refine CN.quiet rfl (c2 _) ?_)|(show eF _ _ _;(refine eF.txt l rfl hb k Aa Aa ?_;rw[<-hX]))|(show Cut _ _ _ _;(refine Cut.txt l (k+1) l.length Aa Aa rfl Aa Aa ?_;rw[eY,hd3]))|((first|apply oI.z|apply cI.z))|refine WN.i64 Aa Aa ?_)<;>conv=>whnf)|(show cnd _ _ _;first|((first|apply aB|apply aD)<;>intro _<;>first|(exfalso;omega)|conv=>whnf))
 all_goals first
  | (refine RN.a ⟨rfl,?_⟩;rw[n1 Aa Aa Aa Aa];exact vi Aa)
  | (refine RN.a ⟨rfl,?_⟩;rw[n2 Aa])
theorem aBx(h:aA)(a b:List Nat)(ha:∀y∈a,y<256)(hb:∀y∈b,y<256)(hl:a.length<=9223372036854775807):Fn0 T F.q89 [.string (txt a),.string (txt b)] h fun v h'=>h'=h/\v=.bool (dec (a.take b.length=b)):=by
 have hz:=bF a;have hy:=bF b;have f1:a.take b.length=b->dec (a.take b.length=b)=true:=aW;have f2:a.take b.length≠b->dec (a.take b.length=b)=false:=aG;have f3:a.length<b.length->a.take b.length≠b:=fun x e=>by have:=congrArg List.length e;rw[aZn] at this;omega
 have c1:∀h,Fn0 T F.q151 [.string (txt a),.string (txt b)] h fun v h'=>h'=h/\v=.bool (dec (a.take b.length=b)):=fun h=>by
  refine f0C ok D.q151 rfl ?_;conv=>whnf
  repeat' ((first|(show Cut _ _ _ _;(refine Cut.txt a 0 b.length Aa Aa rfl Aa Aa ?_;rw[eY,bA2]))|((first|apply oI.z|apply cI.z))|(apply bH<;>intro _<;>try (exfalso;omega)))<;>conv=>whnf)
  .refine RN.a ⟨rfl,?_⟩
   congr 1
   by_cases e:a.take b.length=b
   .rw[f1 e,e];unfold Vc.seq;simp
   .rw[f2 e];exact aNk fun x=>e (sD (fun y hy=>ha y (aZ9 hy)) hb x)
  .refine RN.a ⟨rfl,?_⟩;rw[f2 (f3 Aa)]
 refine f0C ok D.q89 rfl ?_;conv=>whnf
 repeat' ((first|(show CN _ _ _ _ _ _;refine CN.quiet rfl (c1 _) ?_)|((first|apply oI.z|apply cI.z)))<;>conv=>whnf)
 all_goals exact RN.a ⟨rfl,rfl⟩
end Go.Proofs.Y
/- Tokens: the program's scanner, walked. -/
namespace Go.Dig
theorem aJ5:∀j,j<8->(iD.getD j []).length=1:=Ag
theorem aNm:∀l∈iD,∀y∈l,y<256:=Ag
theorem aRx{l:List Nat}(h:0<eE l)(x:l.take (eE l)∈bI):lP l=some (3,eE l):=by unfold lP;rw[if_pos h,if_pos x]
theorem aRy{l:List Nat}(h:0<eE l)(x:l.take (eE l)∉bI)(y:dH (l.take (eE l))):lP l=some (2,eE l):=by unfold lP;rw[if_pos h,if_neg x,if_pos y]
theorem aRz{l:List Nat}(h:0<eE l)(x:l.take (eE l)∉bI)(y:¬dH (l.take (eE l)))(z:sF (l.take (eE l))):lP l=some (0,eE l):=by unfold lP;rw[if_pos h,if_neg x,if_neg y,if_pos z]
theorem aR0{l:List Nat}(h:0<eE l)(x:l.take (eE l)∉bI)(y:¬dH (l.take (eE l)))(z:¬sF (l.take (eE l))):lP l=none:=by unfold lP;rw[if_pos h,if_neg x,if_neg y,if_neg z]
theorem aNn{l:List Nat}(h:¬0<eE l)(x:0<oC l):lP l=some (1,oC l):=by unfold lP;rw[if_neg h,if_pos x]
theorem aR1{l:List Nat}(h:¬0<eE l)(x:¬0<oC l)(y:l.take 1∈iD):lP l=some (0,1):=by unfold lP;rw[if_neg h,if_neg x,if_pos y]
theorem aR2{l:List Nat}(h:¬0<eE l)(x:¬0<oC l)(y:l.take 1∉iD):lP l=none:=by unfold lP;rw[if_neg h,if_neg x,if_neg y]
def xD(l:List Nat)(kind:Nat)(t:List Nat):Prop:=(t≠[]/\lP l=some (kind,t.length)/\t=l.take t.length)\/(t=[]/\lP l=none)
theorem xD.of{l:List Nat}{kind n:Nat}(h:lP l=some (kind,n))(h0:0<n)(hn:n<=l.length):xD l kind (l.take n):=by
 have e:(l.take n).length=n:=by rw[aZn];omega
 exact .inl ⟨fun x=>by rw[x] at e;simp at e;omega,by rw[e];exact h,by rw[e]⟩
end Go.Dig
namespace Go.Proofs.Y
open Go Go.Vc Go.Dig
theorem Rw.nil(h:aA)(size:Nat):Rw h ⟨none,0,0⟩ size []:=⟨by simp,aZt _,fun x=>(x rfl).elim⟩
theorem aR3(h:aA)(l:List Nat)(hb:∀y∈l,y<256)(hl:l.length<=1000000):Fn0 T F.q42 [.string (txt l),.bool false] h fun v h'=>∃s:Sl,v=.tuple #[s.val,.int .i64 (cQ l.length l 0 []).2]/\Rw h' s 3 (tkc (cQ l.length l 0 []).1):=by
 have hz:=bF l;obtain⟨R,hR⟩:=AE (cQ l.length l 0 []);rw[<-hR];refine f0C ok D.q42 rfl ?_
 repeat' ((first|(apply aO.go)|((first|apply oI.z|apply cI.z))|intro (_:Nat))<;>conv=>whnf)
 refine LpN.keep0 fun hS hleS hbS=>?_
 have sg:aDw hS ⟨some ⟨_,0,none⟩,8,8⟩ iD:=⟨rfl,_,_,_,_,rfl,hbS,fun i hi=>by
   match i,hi with
   | 0,_=>rfl
   | 1,_=>rfl
   | 2,_=>rfl
   | 3,_=>rfl
   | 4,_=>rfl
   | 5,_=>rfl
   | 6,_=>rfl
   | 7,_=>rfl⟩
 refine LpN.of (fun r ρ h' L=>∃(k n:Nat) (v:Value) (acc:List Tk),r=l.length-k/\hS.le h'/\rd ρ 8=.int .i64 k/\rd ρ 7=v/\k<=l.length/\aE Ty.syntax_Token 3 v acc.length (tkc acc) L/\acc.length<=k/\l.length-k<=n/\Hq (R=cQ n (l.drop k) k acc)) l.length
  ⟨0,l.length,_,[],rfl,aA.lr _,rfl,rfl,Aa,aE.nil _ _ _,aZt _,aZt _,⟨hR⟩⟩ ?_
 conv=>whnf
 repeat intro _
 rename_i r h1 L1 hI;obtain⟨k,n,v,acc,rfl,hle,e8,e7,hk,g,hac,hn,hq⟩:=hI;conv at e7=>lhs;whnf
 subst e7;conv at e8=>lhs;whnf
 subst e8;replace sg:=sg.mono hle;by_cases hke:k=l.length
 .subst hke;have hq:=hq.out;rw[List.drop_length,show cQ n [] l.length acc=(acc,-1) by cases n<;>rfl] at hq
  conv=>whnf
  repeat' ((first|((first|apply oI.z|apply cI.z))|(apply aB<;>intro _<;>try (exfalso;omega)))<;>conv=>whnf)
  rw[hq];exact RN.growR (size:=3) Ag g fun h' s hl e w=>⟨s,by rw[e],w⟩
 .have hkl:k<l.length:=Aa;obtain⟨c,hc⟩:=AE (l.getD k 0);obtain⟨m,hm⟩:=AE (l.drop (k+1));have hdr:l.drop k=c::m:=by rw[aZ2 hkl,hc,hm];simp[aY3,hkl]
  have hck:l[k]?=some c:=by rw[hc];simp[aY3,hkl]
  have hq:=hq.out;rw[hdr] at hq;obtain⟨n',rfl⟩:∃n',n=n'+1:=⟨n-1,Aa⟩
  rw[cQ] at hq;by_cases h32:c=32
  .subst h32;rw[if_pos rfl,hm] at hq;replace hq:=Hq.mk hq;conv=>whnf
   repeat' first|((first|(show eF _ _ _;refine eF.at l 32 rfl hb k Aa hck ?_)|((first|apply oI.z|apply cI.z))|refine WN.i64 Aa Aa ?_)<;>conv=>whnf)|(show cnd _ _ _;first|((first|apply aB|apply aD)<;>intro _<;>first|(exfalso;omega)|conv=>whnf))
   all_goals exact⟨rfl,l.length-(k+1),Aa,k+1,n',_,acc,rfl,hle,vi Aa,rfl,Aa,g,Aa,Aa,hq⟩
  .rw[if_neg h32] at hq;obtain⟨rest,hrest⟩:=AE (c::m);rw[<-hrest] at hq hdr;have hrl:rest.length=l.length-k:=by rw[<-hdr,aZz]
   have hr8:∀y∈rest,y<256:=fun y hy=>hb y (by rw[<-hdr] at hy;exact bA0 hy)
   have cut1:(l.take l.length).drop k=rest:=by rw[aZi,hdr]
   have cut2:∀n,(l.take (k+n)).drop k=rest.take n:=fun n=>by rw[<-hdr,List.drop_take,bAo]
   have hdr2:∀n,rest.drop n=l.drop (k+n):=fun n=>by rw[<-hdr,List.drop_drop]
   clear hrest hm hdr;replace hq:=Hq.mk hq;replace hc:=Hq.mk hc
   repeat' first|((first|(show eF _ _ _;refine eF.at l c rfl hb k Aa hck ?_)|refine Sto.l 0 rfl rfl rfl ?_)<;>conv=>whnf)|(refine cI.seqN (a:=.seq (.region 10 _ _) _) ?_)|((first|apply oI.z|apply cI.z);conv=>whnf)|(intro (_:Nat);conv=>whnf)|(show cnd _ _ _;first|((first|apply aB|apply aD)<;>intro _<;>first|(exfalso;omega)|conv=>whnf))
   rename_i b9;have wl:=aBv rest;have nl:=aH6 rest;have c1:=fun h=>aH5 h rest hr8 Aa
   have c2:=fun h=>aJ4 h rest hr8 Aa
   have sgm:∀j,j<8->iD.getD j []=rest.take 1->rest.take 1∈iD:=fun j hj e=>e▸mZ hj
   have sgn:(∀j,j<8->iD.getD j []≠rest.take 1)->rest.take 1∉iD:=fun x y=>by
    obtain⟨j,hj,e⟩:=bBe y;exact x j hj (by simp[aY3,show j<iD.length from hj,e])
   refine aO.cut (fun ρ h' L'=>∃(kind:Nat) (t:List Nat),h1.le h'/\L'=(b9,.cells [.int .i64 kind,.string (txt t),.int .i64 k].toArray Ty.syntax_Token (0,0))::L1/\t.length<=rest.length/\xD rest kind t) ?_ ?_
   .by_cases hw:0<eE rest
    .obtain⟨w,hwd⟩:=AE (rest.take (eE rest));have w8:∀y∈w,y<256:=fun y hy=>by rw[hwd] at hy;exact hr8 y (aZ9 hy)
     have c3:=fun h=>aH3 h w w8
     have c4:=fun h=>xC h w w8
     have c5:=fun h=>uO h w w8
     have t1:=aRx hw;have t2:=aRy hw;have t3:=aRz hw;have t4:=aR0 hw;have cw:=cut2 (eE rest);have tw:∀kd,lP rest=some (kd,eE rest)->xD rest kd w:=fun kd x=>by rw[hwd];exact xD.of x hw wl
     have hwl:w.length<=rest.length:=by rw[hwd,aZn];omega
     rw[<-hwd] at t1 t2 t3 t4 cw;obtain⟨W,hW⟩:=AE (eE rest);rw[<-hW] at c1 t1 t2 t3 tw cw wl hw;clear hwd hW;conv=>whnf
     repeat' first|((first|(show Cut _ _ _ _;first|(refine Cut.txt l k l.length Aa Aa rfl Aa Aa ?_;rw[eY,cut1])|(refine Cut.txt l k (k+W) Aa Aa rfl Aa Aa ?_;rw[eY,cw]))|(show CN _ _ _ _ _ _;first|refine CN.quiet rfl (c1 _) ?_|(refine CN.f rfl (c3 _) (fun v h' hl hr=>?_);obtain rfl:=hr)|(refine CN.f rfl (c4 _) (fun v h' hl hr=>?_);obtain rfl:=hr)|(refine CN.f rfl (c5 _) (fun v h' hl hr=>?_);obtain rfl:=hr))|((first|apply oI.z|apply cI.z))|refine WN.i64 Aa Aa ?_|refine Ld.o 0 rfl rfl ?_|refine Sto.l 0 rfl rfl rfl ?_)<;>conv=>whnf)|(show cnd _ _ _;first|(apply aB<;>intro _<;>first|(exfalso;omega)|conv=>whnf)|(refine aI ?_)|(apply aN<;>intro _<;>first|(exfalso;omega)|conv=>whnf))
     all_goals first
      | exact⟨rfl,3,w,Ac,rfl,hwl,tw 3 (t1 Ab)⟩
      | exact⟨rfl,2,w,Ac,rfl,hwl,tw 2 (t2 Ab Ab)⟩
      | exact⟨rfl,0,w,Ac,rfl,hwl,tw 0 (t3 Ab Ab Ab)⟩
      | (have e:=hq.out
         rw[t4 Ab Ab Ab] at e;rw[e];exact RN.a ⟨⟨none,0,0⟩,rfl,Rw.nil _ _⟩)
    .have hw0:eE rest=0:=Aa;rw[hw0] at c1;by_cases hn0:0<oC rest
     .have t1:=xD.of (aNn hw hn0) hn0 nl;have cw:=cut2 (oC rest);have hwl:(rest.take (oC rest)).length<=rest.length:=by rw[aZn];omega
      obtain⟨w,hwd⟩:=AE (rest.take (oC rest));rw[<-hwd] at t1 cw hwl;obtain⟨W,hW⟩:=AE (oC rest);rw[<-hW] at c2 cw nl hn0;clear hwd hW;conv=>whnf
      repeat' ((first|(show Cut _ _ _ _;first|(refine Cut.txt l k l.length Aa Aa rfl Aa Aa ?_;rw[eY,cut1])|(refine Cut.txt l k (k+W) Aa Aa rfl Aa Aa ?_;rw[eY,cw]))|(show CN _ _ _ _ _ _;first|refine CN.quiet rfl (c1 _) ?_|refine CN.quiet rfl (c2 _) ?_)|((first|apply oI.z|apply cI.z))|refine WN.i64 Aa Aa ?_|refine Sto.l 0 rfl rfl rfl ?_|(apply aB<;>intro _<;>try (exfalso;omega)))<;>conv=>whnf)
      all_goals exact⟨rfl,1,w,Ad,rfl,hwl,t1⟩
     .have hn1:oC rest=0:=Aa;rw[hn1] at c2;have t1:=fun y=>xD.of (aR1 hw hn0 y) Nat.one_pos (show 1<=rest.length by omega)
      have t2:=aR2 hw hn0;have hwl:(rest.take 1).length<=rest.length:=by rw[aZn];omega
      conv=>whnf
      repeat' ((first|(show Cut _ _ _ _;(refine Cut.txt l k l.length Aa Aa rfl Aa Aa ?_;rw[eY,cut1]))|(show CN _ _ _ _ _ _;first|refine CN.quiet rfl (c1 _) ?_|refine CN.quiet rfl (c2 _) ?_)|((first|apply oI.z|apply cI.z))|(apply aB<;>intro _<;>try (exfalso;omega)))<;>conv=>whnf)
      refine LpN.of (fun r ρ h' L=>∃j:Nat,r=8-j/\h1.le h'/\rd ρ 82=.int .i64 j/\j<=8/\L=(b9,.cells [.int .i64 0,.string (txt []),.int .i64 k].toArray Ty.syntax_Token (0,0))::L1/\Hq (∀i,i<j->iD.getD i []≠rest.take 1)) 8
       ⟨0,rfl,aA.lr _,vi Aa,Aa,rfl,⟨fun i hi=>by omega⟩⟩ ?_
      conv=>whnf
      repeat intro _
      rename_i r2 h2 L2 hJ;obtain⟨j,rfl,hle2,e82,hj,rfl,hd⟩:=hJ;conv at e82=>lhs;whnf
      subst e82;have sg2:=sg.mono hle2;have s1:=aJ5 j;have s2:j<8->∀y∈iD.getD j [],y<256:=fun x=>aNm _ (mZ x)
      have s3:j=8->lP rest=none:=fun e=>t2 (sgn (by subst e;exact hd.out))
      have s4:=sgm j;have s5:iD.getD j []≠rest.take 1->∀i,i<j+1->iD.getD i []≠rest.take 1:=fun y i hi=>by
       by_cases e:i=j
       .subst e;exact y
       .exact hd.out i Aa
      obtain⟨X,hX⟩:=AE (iD.getD j []);rw[<-hX] at s1 s2 s4 s5;have c6:=fun (x:j<8) h=>aBx h rest X hr8 (s2 x) Aa
      have s6:j<8->rest.take X.length=rest.take 1:=fun x=>by rw[s1 x]
      replace s3:=Hq.mk s3;conv=>whnf
      repeat' first|((first|(show Idx _ _ _ _ _;refine Idx.strs sg2 j Aa (by exact (show j<8 by omega)) (fun ad hv=>?_))|(show Ld _ _ _ _;(refine Ld.of (by first|exact hv _|(rename_i hv;exact hv _)) ?_;rw[<-hX]))|(show Cut _ _ _ _;(refine Cut.txt l k l.length Aa Aa rfl Aa Aa ?_;rw[eY,cut1]))|(show CN _ _ _ _ _ _;refine CN.quiet rfl (c6 Aa _) ?_)|((first|apply oI.z|apply cI.z))|refine WN.i64 Aa Aa ?_|refine Sto.l 0 rfl rfl rfl ?_)<;>conv=>whnf)|(show cnd _ _ _;first|((first|apply aB|apply aN)<;>intro _<;>first|(exfalso;omega)|conv=>whnf))
      all_goals first
       | exact⟨rfl,0,X,Ab,rfl,by rw[s1 Aa];omega,by
           have e:=s6 Aa;have x:rest.take X.length=X:=Ab;rw[x] at e;have t:=t1 (s4 Aa e);rw[<-e] at t;exact t⟩
       | exact⟨rfl,8-(j+1),Aa,j+1,rfl,Ab,vi Aa,Aa,rfl,⟨s5 fun y=>absurd (show rest.take X.length=X by rw[s6 Aa,<-y]) Ab⟩⟩
       | exact⟨rfl,0,[],Ab,rfl,aZs _,.inr ⟨rfl,s3.out Aa⟩⟩
   .clear c1 c2 sgm sgn cut1 cut2 wl nl;conv=>whnf
    repeat intro _
    rename_i h2 L2 hJ;obtain⟨kind,t,hle2,rfl,htl,hT⟩:=hJ;have hT1:t=[]->R=([],(k:Int)):=fun e=>by
     rcases hT with ⟨x,-⟩|⟨-,y⟩
     .exact absurd e x
     .have:=hq.out;rw[y] at this;exact this
    have hT2:t≠[]->R=cQ n' (l.drop (k+t.length)) (k+t.length) (acc++[⟨kind,t,k⟩]):=fun e=>by
     rcases hT with ⟨-,x,y⟩|⟨x,-⟩
     .have:=hq.out;rw[x] at this;simp only[<-y,hdr2] at this;exact this
     .exact absurd x e
    have hT3:t≠[]->0<t.length:=List.length_pos_iff.2;have zt:=bF t;clear hT hq;replace hT2:=Hq.mk hT2;conv=>whnf
    repeat' first|((first|(show App _ _ _ _ _ _ _ _ _;refine App.growB (A:=[_,_]) (F:=L1) (size:=3) (bytes:=32) (z:=[.int .i64 0,.string ByteArray.empty,.int .i64 0]) rfl rfl g ⟨_,0,none⟩ 1 1 [_,_,_] rfl (Has.three _) rfl Ag Aa Aa Ag (fun v' L' g' hA=>?_))|((first|apply oI.z|apply cI.z))|intro (_:Nat)|refine LdN.o 0 rfl rfl ?_|refine Ld.o 0 rfl rfl ?_)<;>conv=>whnf)|(show cnd _ _ _;first|(refine iK t rfl rfl (fun _=>?_) (fun _=>?_)<;>(conv=>whnf)))
    .rw[hT1 Ab];exact RN.a ⟨⟨none,0,0⟩,rfl,Rw.nil _ _⟩
    .have hb9:=hA _ (.tail _ (.head _));have ht0:t≠[]:=Ab;have ht1:=hT3 ht0;refine Ld.mem hb9 rfl ?_;conv=>whnf
     repeat' ((first|((first|apply oI.z|apply cI.z))|refine WN.i64 Aa Aa ?_)<;>conv=>whnf)
     all_goals exact⟨rfl,l.length-(k+t.length),Aa,k+t.length,n',v',acc++[⟨kind,t,k⟩],rfl,Ac,vi Aa,rfl,Aa,by rw[aY2,aNl];exact g',by rw[aY2];simp;omega,Aa,⟨hT2.out ht0⟩⟩
end Go.Proofs.Y