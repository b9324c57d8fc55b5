/- Tokens: the program's scanner. -/
import Derived.Test.YtblecjeceecaaaaGreatDoorE2
set_option linter.all false
set_option maxHeartbeats 4000000
set_option maxRecDepth 20000
namespace Go.Dig
def kY(l:List Nat):Nat:=(l.takeWhile dgt).length
theorem aAi(l:List Nat):kY l<=l.length:=(List.takeWhile_sublist (p:=dgt) (l:=l)).length_le
def mJ(l:List Nat):Nat:=
 if 0<kY l/\kY l<l.length/\(l.getD (kY l) 0=46\/l.getD (kY l) 0=47)/\0<kY (l.drop (kY l+1)) then kY l+1+kY (l.drop (kY l+1)) else kY l
theorem aOh(l:List Nat):mJ l<=l.length:=by
 have h1:=aAi l;have h2:=aAi (l.drop (kY l+1));rw[bJl] at h2;unfold mJ
 split<;>omega
def iF:List (List Nat):=[[43],[45],[42],[47],[94],[40],[41],[44]]
structure Tk where
 kind:Nat
 text:List Nat
 pos:Nat
def lJ(l:List Nat):Option (Nat × Nat):=
 if 0<eB l then
  if l.take (eB l)∈aW then some (3,eB l) else if fD (l.take (eB l)) then some (2,eB l) else if vI (l.take (eB l)) then some (0,eB l) else none
 else if 0<mJ l then some (1,mJ l)
 else if l.take 1∈iF then some (0,1) else none
def dD:Nat->List Nat->Nat->List Tk->List Tk × Int
 | _,[],_,acc=>(acc,-1)
 | 0,_::_,i,_=>([],i)
 | n+1,c::l,i,acc=>
  if c=32 then dD n l (i+1) acc
  else match lJ (c::l) with
   | none=>([],i)
   | some (k,m)=>dD n ((c::l).drop m) (i+m) (acc++[⟨k,(c::l).take m,i⟩])
end Go.Dig
namespace Go.Vc
open Go Go.Dig
theorem aTu{a b:ByteArray}(h:a≠b):seq a b=false:=by
 unfold seq;cases hx:a.toList == b.toList with
 | false=>rfl
 | true=>exact (h (toList_inj (eq_of_beq hx))).elim
structure Rw (h:aA) (s:Sl) (size:Nat) (cs:List Value):Prop where
 len:s.l*size=cs.length
 cap:s.l<=s.c
 mem:cs≠[]->∃b off c T fz,s.a=some ⟨b,off,none⟩/\h b=some (.cells c T fz)/\∀i,i<cs.length->c[off+i]?=cs[i]?
theorem Rw.mono{h h':aA}{s:Sl}{size:Nat}{cs:List Value}(w:Rw h s size cs)(hl:h.le h'):Rw h' s size cs:=
 ⟨w.len,w.cap,fun hn=>let ⟨b,off,c,T,fz,h1,h2,h3⟩:=w.mem hn;⟨b,off,c,T,fz,h1,hl _ _ h2,h3⟩⟩
theorem RN.growR{e:TypeId}{size:Nat}{v w:Value}{n:Nat}{xs:List Value}{h:aA}{L:Own}{R:Value->aA->Prop}(hs:0<size)(g:aF e size v n xs L)
  (hk:∀h' (s:Sl),h.le h'->v=s.val->Rw h' s size xs->R w h'):RN w h L fun v h' L'=>L'=[]/\R v h':=by
 obtain⟨g1,⟨rfl,rfl⟩|⟨i,b,cap,zs,rfl,h2,h3,h4⟩⟩:=g
 .obtain rfl:xs=[]:=by simpa using g1
  exact RN.a (hk h ⟨none,0,0⟩ (aA.lr _) rfl ⟨by simp,bJf _,fun x=>(x rfl).elim⟩)
 .exact RN.keep i h2 fun hle=>RN.a (hk _ ⟨some ⟨b,0,none⟩,n,cap⟩ hle rfl ⟨g1.symm,h3,fun _=>⟨b,0,(xs++zs).toArray,e,(0,0),rfl,by simp[aA.put],fun j hj=>by
    rw[bJc,bJj,bI0 hj]⟩⟩)
def tkv(t:Tk):List Value:=[.int .i64 t.kind,.string (txt t.text),.int .i64 t.pos]
def tkc(ts:List Tk):List Value:=ts.flatMap tkv
theorem aTv(ts:List Tk)(t:Tk):tkc (ts++[t])=tkc ts++tkv t:=by unfold tkc;simp
theorem aGh:∀ts:List Tk,(tkc ts).length=ts.length*3
 | []=>rfl
 | t::ts=>by unfold tkc;rw[bNk,bIo];have:=aGh ts;unfold tkc at this;rw[this];simp[tkv];omega
end Go.Vc
namespace Go.Proofs.Y
open Go Go.Vc Go.Dig
theorem yL(h:aA)(l:List Nat)(hb:∀y∈l,y<256)(hl:l.length<=9223372036854775807):Fn0 T F.q227 [.string (txt l)] h fun v h'=>h'=h/\v=.int .i64 (kY l:Nat):=by
 have hz:=bW l;refine f0C ok D.q227 rfl ?_;conv=>whnf
 repeat ((first|apply oI.z|apply cI.z);conv=>whnf)
 skip
 refine LpN.of (fun r ρ h' L=>∃k:Nat,r=l.length-k/\h'=h/\rd ρ 3=.int .i64 k/\k<=l.length/\Hq (∀i,i<k->dgt (l.getD i 0)=true)) l.length ⟨0,rfl,rfl,vi Aa,Aa,⟨fun i hi=>by omega⟩⟩ ?_
 conv=>whnf
 repeat intro _
 rename_i r h1 L1 hI;obtain⟨k,rfl,rfl,e3,hk,hd⟩:=hI;conv at e3=>lhs;whnf
 subst e3;have hs:=fun (x:k<l.length) (y:dgt (l.getD k 0)=true) i (hi:i<k+1)=>(by
   by_cases e:i=k
   .subst e;exact y
   .exact hd.out i Aa:dgt (l.getD i 0)=true)
 have hw:=aD8 l k hk hd.out;obtain⟨X,hX⟩:=AH (l.getD k 0);rw[<-hX] at hs hw;replace hs:=Hq.mk hs;replace hw:=Hq.mk hw;conv=>whnf
 repeat' first|((first|(show fP _ _ _;(refine fP.txt l rfl hb k Aa Aa ?_;rw[<-hX]))|(show CN _ _ _ _ _ _;refine CN.quiet rfl (aEa _ X) ?_)|((first|apply oI.z|apply cI.z))|refine WN.i64 Aa Aa ?_)<;>conv=>whnf)|(show cnd _ _ _;first|((first|apply aB|apply aU)<;>intro _<;>first|(exfalso;omega)|conv=>whnf))
 all_goals first
  | exact⟨rfl,l.length-(k+1),Aa,k+1,rfl,rfl,vi Aa,Aa,⟨hs.out Aa Ab⟩⟩
  | (refine RN.a ⟨rfl,?_⟩;unfold kY;rw[hw.out (by first|(left;omega)|(right;assumption))])
theorem aQr(h:aA)(l:List Nat)(hb:∀y∈l,y<256)(hl:l.length<=9223372036854775807):Fn0 T F.q148 [.string (txt l)] h fun v h'=>h'=h/\v=.int .i64 (mJ l:Nat):=by
 have hz:=bW l;have hd1:=aAi l;obtain⟨k,hk⟩:=AH (kY l);have c1:=fun h=>yL h l hb hl
 have c2:=fun h=>yL h (l.drop (k+1)) (fun y hy=>hb y (bKg hy)) (by rw[bJl];omega)
 have n1:0<k->k<l.length->(l.getD k 0=46\/l.getD k 0=47)->0<kY (l.drop (k+1))->mJ l=k+1+kY (l.drop (k+1)):=fun a b c d=>by unfold mJ;rw[<-hk,if_pos ⟨a,b,c,d⟩]
 have n2:¬(0<k/\k<l.length/\(l.getD k 0=46\/l.getD k 0=47)/\0<kY (l.drop (k+1)))->mJ l=k:=fun a=>by unfold mJ;rw[<-hk,if_neg a]
 have hm:=aAi (l.drop (k+1));rw[bJl] at hm;obtain⟨X,hX⟩:=AH (l.getD k 0);obtain⟨M,hM⟩:=AH (kY (l.drop (k+1)));have hd3:(l.take l.length).drop (k+1)=l.drop (k+1):=by rw[bI4]
 simp only[<-hX,<-hM] at n1 n2 hm c2;rw[<-hk] at hd1;simp only[<-hk] at c1;refine f0C ok D.q148 rfl ?_;conv=>whnf
 repeat' first|((first|(apply bJ.go)|(show CN _ _ _ _ _ _;first|refine CN.quiet rfl (c1 _) ?_|refine CN.quiet rfl (c2 _) ?_)|(show fP _ _ _;(refine fP.txt l rfl hb k Aa Aa ?_;rw[<-hX]))|(show Cut _ _ _ _;(refine Cut.txt l (k+1) l.length Aa Aa rfl Aa Aa ?_;rw[gI,hd3]))|((first|apply oI.z|apply cI.z))|refine WN.i64 Aa Aa ?_)<;>conv=>whnf)|(show cnd _ _ _;first|((first|apply aB|apply aD)<;>intro _<;>first|(exfalso;omega)|conv=>whnf))
 all_goals first
  | (refine RN.a ⟨rfl,?_⟩;rw[n1 Aa Aa Aa Aa];exact vi Aa)
  | (refine RN.a ⟨rfl,?_⟩;rw[n2 Aa])
theorem aGi(h:aA)(a b:List Nat)(ha:∀y∈a,y<256)(hb:∀y∈b,y<256)(hl:a.length<=9223372036854775807):Fn0 T F.q149 [.string (txt a),.string (txt b)] h fun v h'=>h'=h/\v=.bool (dec (a.take b.length=b)):=by
 have hz:=bW a;have hy:=bW b;have f1:a.take b.length=b->dec (a.take b.length=b)=true:=aX;have f2:a.take b.length≠b->dec (a.take b.length=b)=false:=aH;have f3:a.length<b.length->a.take b.length≠b:=fun x e=>by have:=congrArg List.length e;rw[bI9] at this;omega
 have c1:∀h,Fn0 T F.q228 [.string (txt a),.string (txt b)] h fun v h'=>h'=h/\v=.bool (dec (a.take b.length=b)):=fun h=>by
  refine f0C ok D.q228 rfl ?_;conv=>whnf
  repeat' ((first|(show Cut _ _ _ _;(refine Cut.txt a 0 b.length Aa Aa rfl Aa Aa ?_;rw[gI,bKp]))|((first|apply oI.z|apply cI.z))|(apply bX<;>intro _<;>try (exfalso;omega)))<;>conv=>whnf)
  .refine RN.a ⟨rfl,?_⟩
   congr 1
   by_cases e:a.take b.length=b
   .rw[f1 e,e];unfold Vc.seq;simp
   .rw[f2 e];exact aTu fun x=>e (aAg (fun y hy=>ha y (bJv hy)) hb x)
  .refine RN.a ⟨rfl,?_⟩;rw[f2 (f3 Aa)]
 refine f0C ok D.q149 rfl ?_;conv=>whnf
 repeat' ((first|(show CN _ _ _ _ _ _;refine CN.quiet rfl (c1 _) ?_)|((first|apply oI.z|apply cI.z)))<;>conv=>whnf)
 all_goals exact RN.a ⟨rfl,rfl⟩
end Go.Proofs.Y
/- Tokens: the program's scanner, walked. -/
namespace Go.Dig
theorem aQs:∀j,j<8->(iF.getD j []).length=1:=Ae
theorem aTw:∀l∈iF,∀y∈l,y<256:=Ae
theorem aZk{l:List Nat}(h:0<eB l)(x:l.take (eB l)∈aW):lJ l=some (3,eB l):=by unfold lJ;rw[if_pos h,if_pos x]
theorem aZl{l:List Nat}(h:0<eB l)(x:l.take (eB l)∉aW)(y:fD (l.take (eB l))):lJ l=some (2,eB l):=by unfold lJ;rw[if_pos h,if_neg x,if_pos y]
theorem aZm{l:List Nat}(h:0<eB l)(x:l.take (eB l)∉aW)(y:¬fD (l.take (eB l)))(z:vI (l.take (eB l))):lJ l=some (0,eB l):=by unfold lJ;rw[if_pos h,if_neg x,if_neg y,if_pos z]
theorem aZn{l:List Nat}(h:0<eB l)(x:l.take (eB l)∉aW)(y:¬fD (l.take (eB l)))(z:¬vI (l.take (eB l))):lJ l=none:=by unfold lJ;rw[if_pos h,if_neg x,if_neg y,if_neg z]
theorem aTx{l:List Nat}(h:¬0<eB l)(x:0<mJ l):lJ l=some (1,mJ l):=by unfold lJ;rw[if_neg h,if_pos x]
theorem aZo{l:List Nat}(h:¬0<eB l)(x:¬0<mJ l)(y:l.take 1∈iF):lJ l=some (0,1):=by unfold lJ;rw[if_neg h,if_neg x,if_pos y]
theorem aZp{l:List Nat}(h:¬0<eB l)(x:¬0<mJ l)(y:l.take 1∉iF):lJ l=none:=by unfold lJ;rw[if_neg h,if_neg x,if_neg y]
def aBr(l:List Nat)(kind:Nat)(t:List Nat):Prop:=(t≠[]/\lJ l=some (kind,t.length)/\t=l.take t.length)\/(t=[]/\lJ l=none)
theorem aBr.of{l:List Nat}{kind n:Nat}(h:lJ l=some (kind,n))(h0:0<n)(hn:n<=l.length):aBr l kind (l.take n):=by
 have e:(l.take n).length=n:=by rw[bI9];omega
 exact .inl ⟨fun x=>by rw[x] at e;simp at e;omega,by rw[e];exact h,by rw[e]⟩
end Go.Dig
namespace Go.Proofs.Y
open Go Go.Vc Go.Dig
theorem Rw.nil(h:aA)(size:Nat):Rw h ⟨none,0,0⟩ size []:=⟨by simp,bJf _,fun x=>(x rfl).elim⟩
theorem aZq(h:aA)(l:List Nat)(hb:∀y∈l,y<256)(hl:l.length<=1000000):Fn0 T F.q81 [.string (txt l),.bool false] h fun v h'=>∃s:Sl,v=.tuple #[s.val,.int .i64 (dD l.length l 0 []).2]/\Rw h' s 3 (tkc (dD l.length l 0 []).1):=by
 have hz:=bW l;obtain⟨R,hR⟩:=AH (dD l.length l 0 []);rw[<-hR];refine f0C ok D.q81 rfl ?_
 repeat' ((first|(apply bJ.go)|((first|apply oI.z|apply cI.z))|intro (_:Nat))<;>conv=>whnf)
 refine LpN.keep0 fun hS hleS hbS=>?_
 have sg:aIy hS ⟨some ⟨_,0,none⟩,8,8⟩ iF:=⟨rfl,_,_,_,_,rfl,hbS,fun i hi=>by
   match i,hi with
   | 0,_=>rfl
   | 1,_=>rfl
   | 2,_=>rfl
   | 3,_=>rfl
   | 4,_=>rfl
   | 5,_=>rfl
   | 6,_=>rfl
   | 7,_=>rfl⟩
 refine LpN.of (fun r ρ h' L=>∃(k n:Nat) (v:Value) (acc:List Tk),r=l.length-k/\hS.le h'/\rd ρ 8=.int .i64 k/\rd ρ 7=v/\k<=l.length/\aF Ty.syntax_Token 3 v acc.length (tkc acc) L/\acc.length<=k/\l.length-k<=n/\Hq (R=dD n (l.drop k) k acc)) l.length
  ⟨0,l.length,_,[],rfl,aA.lr _,rfl,rfl,Aa,aF.nil _ _ _,bJf _,bJf _,⟨hR⟩⟩ ?_
 conv=>whnf
 repeat intro _
 rename_i r h1 L1 hI;obtain⟨k,n,v,acc,rfl,hle,e8,e7,hk,g,hac,hn,hq⟩:=hI;conv at e7=>lhs;whnf
 subst e7;conv at e8=>lhs;whnf
 subst e8;replace sg:=sg.mono hle;by_cases hke:k=l.length
 .subst hke;have hq:=hq.out;rw[bMc,show dD n [] l.length acc=(acc,-1) by cases n<;>rfl] at hq
  conv=>whnf
  repeat' ((first|((first|apply oI.z|apply cI.z))|(apply aB<;>intro _<;>try (exfalso;omega)))<;>conv=>whnf)
  rw[hq];exact RN.growR (size:=3) Ae g fun h' s hl e w=>⟨s,by rw[e],w⟩
 .have hkl:k<l.length:=Aa;obtain⟨c,hc⟩:=AH (l.getD k 0);obtain⟨m,hm⟩:=AH (l.drop (k+1));have hdr:l.drop k=c::m:=by rw[bJo hkl,hc,hm];simp[bIp,hkl]
  have hck:l[k]?=some c:=by rw[hc];simp[bIp,hkl]
  have hq:=hq.out;rw[hdr] at hq;obtain⟨n',rfl⟩:∃n',n=n'+1:=⟨n-1,Aa⟩
  rw[dD] at hq;by_cases h32:c=32
  .subst h32;rw[if_pos rfl,hm] at hq;replace hq:=Hq.mk hq;conv=>whnf
   repeat' first|((first|(show fP _ _ _;refine fP.at l 32 rfl hb k Aa hck ?_)|((first|apply oI.z|apply cI.z))|refine WN.i64 Aa Aa ?_)<;>conv=>whnf)|(show cnd _ _ _;first|((first|apply aB|apply aD)<;>intro _<;>first|(exfalso;omega)|conv=>whnf))
   all_goals exact⟨rfl,l.length-(k+1),Aa,k+1,n',_,acc,rfl,hle,vi Aa,rfl,Aa,g,Aa,Aa,hq⟩
  .rw[if_neg h32] at hq;obtain⟨rest,hrest⟩:=AH (c::m);rw[<-hrest] at hq hdr;have hrl:rest.length=l.length-k:=by rw[<-hdr,bJl]
   have hr8:∀y∈rest,y<256:=fun y hy=>hb y (by rw[<-hdr] at hy;exact bKg hy)
   have cut1:(l.take l.length).drop k=rest:=by rw[bI4,hdr]
   have cut2:∀n,(l.take (k+n)).drop k=rest.take n:=fun n=>by rw[<-hdr,List.drop_take,bKf]
   have hdr2:∀n,rest.drop n=l.drop (k+n):=fun n=>by rw[<-hdr,bMr]
   clear hrest hm hdr;replace hq:=Hq.mk hq;replace hc:=Hq.mk hc
   repeat' first|((first|(show fP _ _ _;refine fP.at l c rfl hb k Aa hck ?_)|refine Sto.l 0 rfl rfl rfl ?_)<;>conv=>whnf)|(refine cI.seqN (a:=.seq (.region 10 _ _) _) ?_)|((first|apply oI.z|apply cI.z);conv=>whnf)|(intro (_:Nat);conv=>whnf)|(show cnd _ _ _;first|((first|apply aB|apply aD)<;>intro _<;>first|(exfalso;omega)|conv=>whnf))
   rename_i b9;have wl:=aGe rest;have nl:=aOh rest;have c1:=fun h=>aOg h rest hr8 Aa
   have c2:=fun h=>aQr h rest hr8 Aa
   have sgm:∀j,j<8->iF.getD j []=rest.take 1->rest.take 1∈iF:=fun j hj e=>e▸pQ hj
   have sgn:(∀j,j<8->iF.getD j []≠rest.take 1)->rest.take 1∉iF:=fun x y=>by
    obtain⟨j,hj,e⟩:=bKz y;exact x j hj (by simp[bIp,show j<iF.length from hj,e])
   refine bJ.cut (fun ρ h' L'=>∃(kind:Nat) (t:List Nat),h1.le h'/\L'=(b9,.cells [.int .i64 kind,.string (txt t),.int .i64 k].toArray Ty.syntax_Token (0,0))::L1/\t.length<=rest.length/\aBr rest kind t) ?_ ?_
   .by_cases hw:0<eB rest
    .obtain⟨w,hwd⟩:=AH (rest.take (eB rest));have w8:∀y∈w,y<256:=fun y hy=>by rw[hwd] at hy;exact hr8 y (bJv hy)
     have c3:=fun h=>aGf h w w8
     have c4:=fun h=>aBq h w w8
     have c5:=fun h=>zM h w w8
     have t1:=aZk hw;have t2:=aZl hw;have t3:=aZm hw;have t4:=aZn hw;have cw:=cut2 (eB rest);have tw:∀kd,lJ rest=some (kd,eB rest)->aBr rest kd w:=fun kd x=>by rw[hwd];exact aBr.of x hw wl
     have hwl:w.length<=rest.length:=by rw[hwd,bI9];omega
     rw[<-hwd] at t1 t2 t3 t4 cw;obtain⟨W,hW⟩:=AH (eB rest);rw[<-hW] at c1 t1 t2 t3 tw cw wl hw;clear hwd hW;conv=>whnf
     repeat' first|((first|(show Cut _ _ _ _;first|(refine Cut.txt l k l.length Aa Aa rfl Aa Aa ?_;rw[gI,cut1])|(refine Cut.txt l k (k+W) Aa Aa rfl Aa Aa ?_;rw[gI,cw]))|(show CN _ _ _ _ _ _;first|refine CN.quiet rfl (c1 _) ?_|(refine CN.f rfl (c3 _) (fun v h' hl hr=>?_);obtain rfl:=hr)|(refine CN.f rfl (c4 _) (fun v h' hl hr=>?_);obtain rfl:=hr)|(refine CN.f rfl (c5 _) (fun v h' hl hr=>?_);obtain rfl:=hr))|((first|apply oI.z|apply cI.z))|refine WN.i64 Aa Aa ?_|refine Ld.o 0 rfl rfl ?_|refine Sto.l 0 rfl rfl rfl ?_)<;>conv=>whnf)|(show cnd _ _ _;first|(apply aB<;>intro _<;>first|(exfalso;omega)|conv=>whnf)|(refine aI ?_)|(apply aU<;>intro _<;>first|(exfalso;omega)|conv=>whnf))
     all_goals first
      | exact⟨rfl,3,w,Ac,rfl,hwl,tw 3 (t1 Ab)⟩
      | exact⟨rfl,2,w,Ac,rfl,hwl,tw 2 (t2 Ab Ab)⟩
      | exact⟨rfl,0,w,Ac,rfl,hwl,tw 0 (t3 Ab Ab Ab)⟩
      | (have e:=hq.out
         rw[t4 Ab Ab Ab] at e;rw[e];exact RN.a ⟨⟨none,0,0⟩,rfl,Rw.nil _ _⟩)
    .have hw0:eB rest=0:=Aa;rw[hw0] at c1;by_cases hn0:0<mJ rest
     .have t1:=aBr.of (aTx hw hn0) hn0 nl;have cw:=cut2 (mJ rest);have hwl:(rest.take (mJ rest)).length<=rest.length:=by rw[bI9];omega
      obtain⟨w,hwd⟩:=AH (rest.take (mJ rest));rw[<-hwd] at t1 cw hwl;obtain⟨W,hW⟩:=AH (mJ rest);rw[<-hW] at c2 cw nl hn0;clear hwd hW;conv=>whnf
      repeat' ((first|(show Cut _ _ _ _;first|(refine Cut.txt l k l.length Aa Aa rfl Aa Aa ?_;rw[gI,cut1])|(refine Cut.txt l k (k+W) Aa Aa rfl Aa Aa ?_;rw[gI,cw]))|(show CN _ _ _ _ _ _;first|refine CN.quiet rfl (c1 _) ?_|refine CN.quiet rfl (c2 _) ?_)|((first|apply oI.z|apply cI.z))|refine WN.i64 Aa Aa ?_|refine Sto.l 0 rfl rfl rfl ?_|(apply aB<;>intro _<;>try (exfalso;omega)))<;>conv=>whnf)
      all_goals exact⟨rfl,1,w,Ad,rfl,hwl,t1⟩
     .have hn1:mJ rest=0:=Aa;rw[hn1] at c2;have t1:=fun y=>aBr.of (aZo hw hn0 y) Nat.one_pos (show 1<=rest.length by omega)
      have t2:=aZp hw hn0;have hwl:(rest.take 1).length<=rest.length:=by rw[bI9];omega
      conv=>whnf
      repeat' ((first|(show Cut _ _ _ _;(refine Cut.txt l k l.length Aa Aa rfl Aa Aa ?_;rw[gI,cut1]))|(show CN _ _ _ _ _ _;first|refine CN.quiet rfl (c1 _) ?_|refine CN.quiet rfl (c2 _) ?_)|((first|apply oI.z|apply cI.z))|(apply aB<;>intro _<;>try (exfalso;omega)))<;>conv=>whnf)
      refine LpN.of (fun r ρ h' L=>∃j:Nat,r=8-j/\h1.le h'/\rd ρ 82=.int .i64 j/\j<=8/\L=(b9,.cells [.int .i64 0,.string (txt []),.int .i64 k].toArray Ty.syntax_Token (0,0))::L1/\Hq (∀i,i<j->iF.getD i []≠rest.take 1)) 8
       ⟨0,rfl,aA.lr _,vi Aa,Aa,rfl,⟨fun i hi=>by omega⟩⟩ ?_
      conv=>whnf
      repeat intro _
      rename_i r2 h2 L2 hJ;obtain⟨j,rfl,hle2,e82,hj,rfl,hd⟩:=hJ;conv at e82=>lhs;whnf
      subst e82;have sg2:=sg.mono hle2;have s1:=aQs j;have s2:j<8->∀y∈iF.getD j [],y<256:=fun x=>aTw _ (pQ x)
      have s3:j=8->lJ rest=none:=fun e=>t2 (sgn (by subst e;exact hd.out))
      have s4:=sgm j;have s5:iF.getD j []≠rest.take 1->∀i,i<j+1->iF.getD i []≠rest.take 1:=fun y i hi=>by
       by_cases e:i=j
       .subst e;exact y
       .exact hd.out i Aa
      obtain⟨X,hX⟩:=AH (iF.getD j []);rw[<-hX] at s1 s2 s4 s5;have c6:=fun (x:j<8) h=>aGi h rest X hr8 (s2 x) Aa
      have s6:j<8->rest.take X.length=rest.take 1:=fun x=>by rw[s1 x]
      replace s3:=Hq.mk s3;conv=>whnf
      repeat' first|((first|(show Idx _ _ _ _ _;refine Idx.strs sg2 j Aa (by exact (show j<8 by omega)) (fun ad hv=>?_))|(show Ld _ _ _ _;(refine Ld.of (by first|exact hv _|(rename_i hv;exact hv _)) ?_;rw[<-hX]))|(show Cut _ _ _ _;(refine Cut.txt l k l.length Aa Aa rfl Aa Aa ?_;rw[gI,cut1]))|(show CN _ _ _ _ _ _;refine CN.quiet rfl (c6 Aa _) ?_)|((first|apply oI.z|apply cI.z))|refine WN.i64 Aa Aa ?_|refine Sto.l 0 rfl rfl rfl ?_)<;>conv=>whnf)|(show cnd _ _ _;first|((first|apply aB|apply aU)<;>intro _<;>first|(exfalso;omega)|conv=>whnf))
      all_goals first
       | exact⟨rfl,0,X,Ab,rfl,by rw[s1 Aa];omega,by
           have e:=s6 Aa;have x:rest.take X.length=X:=Ab;rw[x] at e;have t:=t1 (s4 Aa e);rw[<-e] at t;exact t⟩
       | exact⟨rfl,8-(j+1),Aa,j+1,rfl,Ab,vi Aa,Aa,rfl,⟨s5 fun y=>absurd (show rest.take X.length=X by rw[s6 Aa,<-y]) Ab⟩⟩
       | exact⟨rfl,0,[],Ab,rfl,bJe _,.inr ⟨rfl,s3.out Aa⟩⟩
   .clear c1 c2 sgm sgn cut1 cut2 wl nl;conv=>whnf
    repeat intro _
    rename_i h2 L2 hJ;obtain⟨kind,t,hle2,rfl,htl,hT⟩:=hJ;have hT1:t=[]->R=([],(k:Int)):=fun e=>by
     rcases hT with ⟨x,-⟩|⟨-,y⟩
     .exact absurd e x
     .have:=hq.out;rw[y] at this;exact this
    have hT2:t≠[]->R=dD n' (l.drop (k+t.length)) (k+t.length) (acc++[⟨kind,t,k⟩]):=fun e=>by
     rcases hT with ⟨-,x,y⟩|⟨x,-⟩
     .have:=hq.out;rw[x] at this;simp only[<-y,hdr2] at this;exact this
     .exact absurd x e
    have hT3:t≠[]->0<t.length:=List.length_pos_iff.2;have zt:=bW t;clear hT hq;replace hT2:=Hq.mk hT2;conv=>whnf
    repeat' first|((first|(show App _ _ _ _ _ _ _ _ _;refine App.growB (A:=[_,_]) (F:=L1) (size:=3) (bytes:=32) (z:=[.int .i64 0,.string ByteArray.empty,.int .i64 0]) rfl rfl g ⟨_,0,none⟩ 1 1 [_,_,_] rfl (Has.three _) rfl Ae Aa Aa Ae (fun v' L' g' hA=>?_))|((first|apply oI.z|apply cI.z))|intro (_:Nat)|refine LdN.o 0 rfl rfl ?_|refine Ld.o 0 rfl rfl ?_)<;>conv=>whnf)|(show cnd _ _ _;first|(refine kA t rfl rfl (fun _=>?_) (fun _=>?_)<;>(conv=>whnf)))
    .rw[hT1 Ab];exact RN.a ⟨⟨none,0,0⟩,rfl,Rw.nil _ _⟩
    .have hb9:=hA _ (.tail _ (.head _));have ht0:t≠[]:=Ab;have ht1:=hT3 ht0;refine Ld.mem hb9 rfl ?_;conv=>whnf
     repeat' ((first|((first|apply oI.z|apply cI.z))|refine WN.i64 Aa Aa ?_)<;>conv=>whnf)
     all_goals exact⟨rfl,l.length-(k+t.length),Aa,k+t.length,n',v',acc++[⟨kind,t,k⟩],rfl,Ac,vi Aa,rfl,Aa,by rw[bIo,aTv];exact g',by rw[bIo];simp;omega,Aa,⟨hT2.out ht0⟩⟩
end Go.Proofs.Y