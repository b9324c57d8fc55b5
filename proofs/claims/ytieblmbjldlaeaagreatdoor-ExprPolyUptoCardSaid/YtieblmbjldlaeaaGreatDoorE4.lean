/- Tokens: the program's scanner. -/
import Derived.Test.YtieblmbjldlaeaaGreatDoorE2
set_option linter.all false
set_option maxHeartbeats 4000000
set_option maxRecDepth 20000
namespace Go.Dig
def jQ (l:List Nat):Nat:=(l.takeWhile dgt).length
theorem sL (l:List Nat):jQ l≤l.length:=(List.takeWhile_sublist (p:=dgt) (l:=l)).length_le
def lU (l:List Nat):Nat:=
 if 0<jQ l∧jQ l<l.length∧(l.getD (jQ l) 0=46∨l.getD (jQ l) 0=47)∧0<jQ (l.drop (jQ l+1)) then jQ l+1+jQ (l.drop (jQ l+1)) else jQ l
theorem aEo (l:List Nat):lU l≤l.length:=by
 have h1:=sL l
 have h2:=sL (l.drop (jQ l+1))
 rw [List.length_drop] at h2
 unfold lU
 split <;> omega
def fL:List (List Nat):=[[43],[45],[42],[47],[94],[40],[41],[44]]
structure Tk where
 kind:Nat
 text:List Nat
 pos:Nat
def jR (l:List Nat):Option (Nat × Nat):=
 if 0<dD l then
  if l.take (dD l)∈bA then some (3,dD l) else if gH (l.take (dD l)) then some (2,dD l) else if pQ (l.take (dD l)) then some (0,dD l) else none
 else if 0<lU l then some (1,lU l)
 else if l.take 1∈fL then some (0,1) else none
def cD:Nat→List Nat→Nat→List Tk→List Tk × Int
 | _,[],_,acc=>(acc,-1)
 | 0,_::_,i,_=>([],i)
 | n+1,c::l,i,acc=>
  if c=32 then cD n l (i+1) acc
  else match jR (c::l) with
   | none=>([],i)
   | some (k,m)=>cD n ((c::l).drop m) (i+m) (acc++[⟨k,(c::l).take m,i⟩])
end Go.Dig
namespace Go.Vc
open Go Go.Dig
theorem aI4 {a b:ByteArray} (h:a≠b):seq a b=false:=by
 unfold seq
 cases hx:a.toList == b.toList with
 | false=>rfl
 | true=>exact (h (toList_inj (eq_of_beq hx))).elim
structure Rw (h:aA) (s:Sl) (size:Nat) (cs:List Value):Prop where
 len:s.l*size=cs.length
 cap:s.l≤s.c
 mem:cs≠[]→∃b off c T fz,s.a=some ⟨b,off,none⟩∧h b=some (.cells c T fz)∧∀i,i<cs.length→c[off+i]?=cs[i]?
theorem Rw.mono {h h':aA} {s:Sl} {size:Nat} {cs:List Value} (w:Rw h s size cs) (hl:h.le h'):Rw h' s size cs:=
 ⟨w.len,w.cap,fun hn=>let ⟨b,off,c,T,fz,h1,h2,h3⟩:=w.mem hn;⟨b,off,c,T,fz,h1,hl _ _ h2,h3⟩⟩
theorem RN.growR {e:TypeId} {size:Nat} {v w:Value} {n:Nat} {xs:List Value} {h:aA} {L:Own} {R:Value→aA→Prop} (hs:0<size) (g:aD e size v n xs L)
  (hk:∀h' (s:Sl),h.le h'→v=s.val→Rw h' s size xs→R w h'):RN w h L fun v h' L'=>L'=[]∧R v h':=by
 obtain ⟨g1,⟨rfl,rfl⟩|⟨i,b,cap,zs,rfl,h2,h3,h4⟩⟩:=g
 ·obtain rfl:xs=[]:=by simpa using g1
  exact RN.a (hk h ⟨none,0,0⟩ (aA.lr _) rfl ⟨by simp,aWf _,fun x=>(x rfl).elim⟩)
 ·exact RN.keep i h2 fun hle=>RN.a (hk _ ⟨some ⟨b,0,none⟩,n,cap⟩ hle rfl ⟨g1.symm,h3,fun _=>⟨b,0,(xs++zs).toArray,e,(0,0),rfl,by simp [aA.put],fun j hj=>by
    rw [aWc,List.getElem?_toArray,aV0 hj]⟩⟩)
def tkv (t:Tk):List Value:=[.int .i64 t.kind,.string (txt t.text),.int .i64 t.pos]
def tkc (ts:List Tk):List Value:=ts.flatMap tkv
theorem aI5 (ts:List Tk) (t:Tk):tkc (ts++[t])=tkc ts++tkv t:=by unfold tkc;simp
theorem yH:∀ts:List Tk,(tkc ts).length=ts.length*3
 | []=>rfl
 | t::ts=>by unfold tkc;rw [List.flatMap_cons,aVo];have:=yH ts;unfold tkc at this;rw [this];simp [tkv];omega
end Go.Vc
namespace Go.Proofs.Y
open Go Go.Vc Go.Dig
theorem rA (h:aA) (l:List Nat) (hb:∀y∈l,y<256) (hl:l.length≤9223372036854775807):Fn0 T F.q137 [.string (txt l)] h fun v h'=>h'=h∧v=.int .i64 (jQ l:Nat):=by
 have hz:=bB l
 refine f0C ok D.q137 rfl ?_
 conv=>whnf
 repeat ((first|apply oI.z|apply cI.z);conv=>whnf)
 skip
 refine LpN.of (fun r ρ h' L=>∃k:Nat,r=l.length-k∧h'=h∧rd ρ 3=.int .i64 k∧k≤l.length∧Hq (∀i,i<k→dgt (l.getD i 0)=true)) l.length ⟨0,rfl,rfl,vi (by omega),by omega,⟨fun i hi=>by omega⟩⟩ ?_
 conv=>whnf
 repeat intro _
 rename_i r h1 L1 hI
 obtain ⟨k,rfl,rfl,e3,hk,hd⟩:=hI
 conv at e3=>lhs;whnf
 subst e3
 have hs:=fun (x:k<l.length) (y:dgt (l.getD k 0)=true) i (hi:i<k+1)=>(by
   by_cases e:i=k
   ·subst e;exact y
   ·exact hd.out i (by omega):dgt (l.getD i 0)=true)
 have hw:=wC l k hk hd.out
 obtain ⟨X,hX⟩:∃X,X=l.getD k 0:=⟨_,rfl⟩
 rw [← hX] at hs hw
 replace hs:=Hq.mk hs
 replace hw:=Hq.mk hw
 conv=>whnf
 repeat' first|((first|(show dE _ _ _;(refine dE.txt l rfl hb k (by omega) (by omega) ?_;rw [← hX]))|(show CN _ _ _ _ _ _;refine CN.quiet rfl (wF _ X) ?_)|((first|apply oI.z|apply cI.z))|refine WN.i64 (by omega) (by omega) ?_) <;> (conv=>whnf))|(show cnd _ _ _;first|(apply aB<;>intro _<;>first|(exfalso;omega)|conv=>whnf)|(apply bJ<;>intro _<;>first|(exfalso;omega)|conv=>whnf))
 all_goals first
  | exact ⟨rfl,l.length-(k+1),by omega,k+1,rfl,rfl,vi (by omega),by omega,⟨hs.out (by omega) (by assumption)⟩⟩
  | (refine RN.a ⟨rfl,?_⟩;unfold jQ;rw [hw.out (by first|(left;omega)|(right;assumption))])
theorem aGg (h:aA) (l:List Nat) (hb:∀y∈l,y<256) (hl:l.length≤9223372036854775807):Fn0 T F.q88 [.string (txt l)] h fun v h'=>h'=h∧v=.int .i64 (lU l:Nat):=by
 have hz:=bB l
 have hd1:=sL l
 obtain ⟨k,hk⟩:∃k,k=jQ l:=⟨_,rfl⟩
 have c1:=fun h=>rA h l hb hl
 have c2:=fun h=>rA h (l.drop (k+1)) (fun y hy=>hb y (List.mem_of_mem_drop hy)) (by rw [List.length_drop];omega)
 have n1:0<k→k<l.length→(l.getD k 0=46∨l.getD k 0=47)→0<jQ (l.drop (k+1))→lU l=k+1+jQ (l.drop (k+1)):=fun a b c d=>by unfold lU;rw [← hk,if_pos ⟨a,b,c,d⟩]
 have n2:¬(0<k∧k<l.length∧(l.getD k 0=46∨l.getD k 0=47)∧0<jQ (l.drop (k+1)))→lU l=k:=fun a=>by unfold lU;rw [← hk,if_neg a]
 have hm:=sL (l.drop (k+1))
 rw [List.length_drop] at hm
 obtain ⟨X,hX⟩:∃X,X=l.getD k 0:=⟨_,rfl⟩
 obtain ⟨M,hM⟩:∃X,X=jQ (l.drop (k+1)):=⟨_,rfl⟩
 have hd3:(l.take l.length).drop (k+1)=l.drop (k+1):=by rw [aV4]
 simp only [← hX,← hM] at n1 n2 hm c2
 rw [← hk] at hd1
 simp only [← hk] at c1
 refine f0C ok D.q88 rfl ?_
 conv=>whnf
 repeat' first|((first|(apply aX.go)|(show CN _ _ _ _ _ _;first|refine CN.quiet rfl (c1 _) ?_|refine CN.quiet rfl (c2 _) ?_)|(show dE _ _ _;(refine dE.txt l rfl hb k (by omega) (by omega) ?_;rw [← hX]))|(show Cut _ _ _ _;(refine Cut.txt l (k+1) l.length (by omega) (by omega) rfl (by omega) (by omega) ?_;rw [dQ,hd3]))|((first|apply oI.z|apply cI.z))|refine WN.i64 (by omega) (by omega) ?_) <;> (conv=>whnf))|(show cnd _ _ _;first|(apply aB<;>intro _<;>first|(exfalso;omega)|conv=>whnf)|(apply aE<;>intro _<;>first|(exfalso;omega)|conv=>whnf))
 all_goals first
  | (refine RN.a ⟨rfl,?_⟩;rw [n1 (by omega) (by omega) (by omega) (by omega)];exact vi (by omega))
  | (refine RN.a ⟨rfl,?_⟩;rw [n2 (by omega)])
theorem yI (h:aA) (a b:List Nat) (ha:∀y∈a,y<256) (hb:∀y∈b,y<256) (hl:a.length≤9223372036854775807):Fn0 T F.q89 [.string (txt a),.string (txt b)] h fun v h'=>h'=h∧v=.bool (dec (a.take b.length=b)):=by
 have hz:=bB a
 have hy:=bB b
 have f1:a.take b.length=b→dec (a.take b.length=b)=true:=cF
 have f2:a.take b.length≠b→dec (a.take b.length=b)=false:=aK
 have f3:a.length<b.length→a.take b.length≠b:=fun x e=>by have:=congrArg List.length e;rw [aV9] at this;omega
 have c1:∀h,Fn0 T F.q138 [.string (txt a),.string (txt b)] h fun v h'=>h'=h∧v=.bool (dec (a.take b.length=b)):=fun h=>by
  refine f0C ok D.q138 rfl ?_
  conv=>whnf
  repeat' first|((first|(show Cut _ _ _ _;(refine Cut.txt a 0 b.length (by omega) (by omega) rfl (by omega) (by omega) ?_;rw [dQ,List.drop_zero]))|((first|apply oI.z|apply cI.z))) <;> (conv=>whnf))|(apply bI<;>intro _<;>first|(exfalso;omega)|conv=>whnf)
  ·refine RN.a ⟨rfl,?_⟩
   congr 1
   by_cases e:a.take b.length=b
   ·rw [f1 e,e];unfold Vc.seq;simp
   ·rw [f2 e]
    exact aI4 fun x=>e (yD (fun y hy=>ha y (List.mem_of_mem_take hy)) hb x)
  ·refine RN.a ⟨rfl,?_⟩
   rw [f2 (f3 (by omega))]
 refine f0C ok D.q89 rfl ?_
 conv=>whnf
 repeat' first|((first|(show CN _ _ _ _ _ _;refine CN.quiet rfl (c1 _) ?_)|((first|apply oI.z|apply cI.z))) <;> (conv=>whnf))
 all_goals exact RN.a ⟨rfl,rfl⟩
end Go.Proofs.Y
/- Tokens: the program's scanner, walked. -/
namespace Go.Dig
theorem aGh:∀j,j<8→(fL.getD j []).length=1:=by decide
theorem aI6:∀l∈fL,∀y∈l,y<256:=by decide
theorem aM6 {l:List Nat} (h:0<dD l) (x:l.take (dD l)∈bA):jR l=some (3,dD l):=by unfold jR;rw [if_pos h,if_pos x]
theorem aM7 {l:List Nat} (h:0<dD l) (x:l.take (dD l)∉bA) (y:gH (l.take (dD l))):jR l=some (2,dD l):=by unfold jR;rw [if_pos h,if_neg x,if_pos y]
theorem aM8 {l:List Nat} (h:0<dD l) (x:l.take (dD l)∉bA) (y:¬gH (l.take (dD l))) (z:pQ (l.take (dD l))):jR l=some (0,dD l):=by unfold jR;rw [if_pos h,if_neg x,if_neg y,if_pos z]
theorem aM9 {l:List Nat} (h:0<dD l) (x:l.take (dD l)∉bA) (y:¬gH (l.take (dD l))) (z:¬pQ (l.take (dD l))):jR l=none:=by unfold jR;rw [if_pos h,if_neg x,if_neg y,if_neg z]
theorem aI7 {l:List Nat} (h:¬0<dD l) (x:0<lU l):jR l=some (1,lU l):=by unfold jR;rw [if_neg h,if_pos x]
theorem aNa {l:List Nat} (h:¬0<dD l) (x:¬0<lU l) (y:l.take 1∈fL):jR l=some (0,1):=by unfold jR;rw [if_neg h,if_neg x,if_pos y]
theorem aNb {l:List Nat} (h:¬0<dD l) (x:¬0<lU l) (y:l.take 1∉fL):jR l=none:=by unfold jR;rw [if_neg h,if_neg x,if_neg y]
def tS (l:List Nat) (kind:Nat) (t:List Nat):Prop:=(t≠[]∧jR l=some (kind,t.length)∧t=l.take t.length)∨(t=[]∧jR l=none)
theorem tS.of {l:List Nat} {kind n:Nat} (h:jR l=some (kind,n)) (h0:0<n) (hn:n≤l.length):tS l kind (l.take n):=by
 have e:(l.take n).length=n:=by rw [aV9];omega
 exact .inl ⟨fun x=>by rw [x] at e;simp at e;omega,by rw [e];exact h,by rw [e]⟩
end Go.Dig
namespace Go.Proofs.Y
open Go Go.Vc Go.Dig
theorem Rw.nil (h:aA) (size:Nat):Rw h ⟨none,0,0⟩ size []:=⟨by simp,aWf _,fun x=>(x rfl).elim⟩
theorem aNc (h:aA) (l:List Nat) (hb:∀y∈l,y<256) (hl:l.length≤1000000):Fn0 T F.q49 [.string (txt l),.bool false] h fun v h'=>∃s:Sl,v=.tuple #[s.val,.int .i64 (cD l.length l 0 []).2]∧Rw h' s 3 (tkc (cD l.length l 0 []).1):=by
 have hz:=bB l
 obtain ⟨R,hR⟩:∃R,R=cD l.length l 0 []:=⟨_,rfl⟩
 rw [← hR]
 refine f0C ok D.q49 rfl ?_
 repeat' first|((first|(apply aX.go)|((first|apply oI.z|apply cI.z))|intro (_:Nat)) <;> (conv=>whnf))
 refine LpN.keep0 fun hS hleS hbS=>?_
 have sg:aA3 hS ⟨some ⟨_,0,none⟩,8,8⟩ fL:=⟨rfl,_,_,_,_,rfl,hbS,fun i hi=>by
   match i,hi with
   | 0,_=>rfl
   | 1,_=>rfl
   | 2,_=>rfl
   | 3,_=>rfl
   | 4,_=>rfl
   | 5,_=>rfl
   | 6,_=>rfl
   | 7,_=>rfl⟩
 refine LpN.of (fun r ρ h' L=>∃(k n:Nat) (v:Value) (acc:List Tk),r=l.length-k∧hS.le h'∧rd ρ 8=.int .i64 k∧rd ρ 7=v∧k≤l.length∧aD Ty.syntax_Token 3 v acc.length (tkc acc) L∧acc.length≤k∧l.length-k≤n∧Hq (R=cD n (l.drop k) k acc)) l.length
  ⟨0,l.length,_,[],rfl,aA.lr _,rfl,rfl,by omega,aD.nil _ _ _,aWf _,aWf _,⟨hR⟩⟩ ?_
 conv=>whnf
 repeat intro _
 rename_i r h1 L1 hI
 obtain ⟨k,n,v,acc,rfl,hle,e8,e7,hk,g,hac,hn,hq⟩:=hI
 conv at e7=>lhs;whnf
 subst e7
 conv at e8=>lhs;whnf
 subst e8
 replace sg:=sg.mono hle
 by_cases hke:k=l.length
 ·subst hke
  have hq:=hq.out
  rw [List.drop_length,show cD n [] l.length acc=(acc,-1) by cases n <;> rfl] at hq
  conv=>whnf
  repeat' first|((first|((first|apply oI.z|apply cI.z))) <;> (conv=>whnf))|(apply aB<;>intro _<;>first|(exfalso;omega)|conv=>whnf)
  rw [hq]
  exact RN.growR (size:=3) (by decide) g fun h' s hl e w=>⟨s,by rw [e],w⟩
 ·have hkl:k<l.length:=by omega
  obtain ⟨c,hc⟩:∃c,c=l.getD k 0:=⟨_,rfl⟩
  obtain ⟨m,hm⟩:∃m,m=l.drop (k+1):=⟨_,rfl⟩
  have hdr:l.drop k=c::m:=by rw [List.drop_eq_getElem_cons hkl,hc,hm];simp [aVp,hkl]
  have hck:l[k]?=some c:=by rw [hc];simp [aVp,hkl]
  have hq:=hq.out
  rw [hdr] at hq
  obtain ⟨n',rfl⟩:∃n',n=n'+1:=⟨n-1,by omega⟩
  rw [cD] at hq
  by_cases h32:c=32
  ·subst h32
   rw [if_pos rfl,hm] at hq
   replace hq:=Hq.mk hq
   conv=>whnf
   repeat' first|((first|(show dE _ _ _;refine dE.at l 32 rfl hb k (by omega) hck ?_)|((first|apply oI.z|apply cI.z))|refine WN.i64 (by omega) (by omega) ?_) <;> (conv=>whnf))|(show cnd _ _ _;first|(apply aB<;>intro _<;>first|(exfalso;omega)|conv=>whnf)|(apply aE<;>intro _<;>first|(exfalso;omega)|conv=>whnf))
   all_goals exact ⟨rfl,l.length-(k+1),by omega,k+1,n',_,acc,rfl,hle,vi (by omega),rfl,by omega,g,by omega,by omega,hq⟩
  ·rw [if_neg h32] at hq
   obtain ⟨rest,hrest⟩:∃r,r=c::m:=⟨_,rfl⟩
   rw [← hrest] at hq hdr
   have hrl:rest.length=l.length-k:=by rw [← hdr,List.length_drop]
   have hr8:∀y∈rest,y<256:=fun y hy=>hb y (by rw [← hdr] at hy;exact List.mem_of_mem_drop hy)
   have cut1:(l.take l.length).drop k=rest:=by rw [aV4,hdr]
   have cut2:∀n,(l.take (k+n)).drop k=rest.take n:=fun n=>by rw [← hdr,List.drop_take,Nat.add_sub_cancel_left]
   have hdr2:∀n,rest.drop n=l.drop (k+n):=fun n=>by rw [← hdr,List.drop_drop]
   clear hrest hm hdr
   replace hq:=Hq.mk hq
   replace hc:=Hq.mk hc
   repeat' first|((first|(show dE _ _ _;refine dE.at l c rfl hb k (by omega) hck ?_)|refine Sto.l 0 rfl rfl rfl ?_) <;> (conv=>whnf))|(refine cI.seqN (a:=.seq (.region 10 _ _) _) ?_)|((first|apply oI.z|apply cI.z);conv=>whnf)|(intro (_:Nat);conv=>whnf)|(show cnd _ _ _;first|(apply aB<;>intro _<;>first|(exfalso;omega)|conv=>whnf)|(apply aE<;>intro _<;>first|(exfalso;omega)|conv=>whnf))
   rename_i b9
   have wl:=yF rest
   have nl:=aEo rest
   have c1:=fun h=>aEn h rest hr8 (by omega)
   have c2:=fun h=>aGg h rest hr8 (by omega)
   have sgm:∀j,j<8→fL.getD j []=rest.take 1→rest.take 1∈fL:=fun j hj e=>e▸kV hj
   have sgn:(∀j,j<8→fL.getD j []≠rest.take 1)→rest.take 1∉fL:=fun x y=>by
    obtain ⟨j,hj,e⟩:=List.getElem_of_mem y
    exact x j hj (by simp [aVp,show j<fL.length from hj,e])
   refine aX.cut (fun ρ h' L'=>∃(kind:Nat) (t:List Nat),h1.le h'∧L'=(b9,.cells [.int .i64 kind,.string (txt t),.int .i64 k].toArray Ty.syntax_Token (0,0))::L1∧t.length≤rest.length∧tS rest kind t) ?_ ?_
   ·by_cases hw:0<dD rest
    ·obtain ⟨w,hwd⟩:∃w,w=rest.take (dD rest):=⟨_,rfl⟩
     have w8:∀y∈w,y<256:=fun y hy=>by rw [hwd] at hy;exact hr8 y (List.mem_of_mem_take hy)
     have c3:=fun h=>yG h w w8
     have c4:=fun h=>tQ h w w8
     have c5:=fun h=>rQ h w w8
     have t1:=aM6 hw
     have t2:=aM7 hw
     have t3:=aM8 hw
     have t4:=aM9 hw
     have cw:=cut2 (dD rest)
     have tw:∀kd,jR rest=some (kd,dD rest)→tS rest kd w:=fun kd x=>by rw [hwd];exact tS.of x hw wl
     have hwl:w.length≤rest.length:=by rw [hwd,aV9];omega
     rw [← hwd] at t1 t2 t3 t4 cw
     obtain ⟨W,hW⟩:∃W,W=dD rest:=⟨_,rfl⟩
     rw [← hW] at c1 t1 t2 t3 tw cw wl hw
     clear hwd hW
     conv=>whnf
     repeat' first|((first|(show Cut _ _ _ _;first|(refine Cut.txt l k l.length (by omega) (by omega) rfl (by omega) (by omega) ?_;rw [dQ,cut1])|(refine Cut.txt l k (k+W) (by omega) (by omega) rfl (by omega) (by omega) ?_;rw [dQ,cw]))|(show CN _ _ _ _ _ _;first|refine CN.quiet rfl (c1 _) ?_|(refine CN.f rfl (c3 _) (fun v h' hl hr=>?_);obtain rfl:=hr)|(refine CN.f rfl (c4 _) (fun v h' hl hr=>?_);obtain rfl:=hr)|(refine CN.f rfl (c5 _) (fun v h' hl hr=>?_);obtain rfl:=hr))|((first|apply oI.z|apply cI.z))|refine WN.i64 (by omega) (by omega) ?_|refine Ld.o 0 rfl rfl ?_|refine Sto.l 0 rfl rfl rfl ?_) <;> (conv=>whnf))|(show cnd _ _ _;first|(apply aB<;>intro _<;>first|(exfalso;omega)|conv=>whnf)|(refine aI ?_)|(apply bJ<;>intro _<;>first|(exfalso;omega)|conv=>whnf))
     all_goals first
      | exact ⟨rfl,3,w,(by (iterate 30 try first|assumption|refine aA.lt ?_ (by assumption));first|done|assumption),rfl,hwl,tw 3 (t1 (by assumption))⟩
      | exact ⟨rfl,2,w,(by (iterate 30 try first|assumption|refine aA.lt ?_ (by assumption));first|done|assumption),rfl,hwl,tw 2 (t2 (by assumption) (by assumption))⟩
      | exact ⟨rfl,0,w,(by (iterate 30 try first|assumption|refine aA.lt ?_ (by assumption));first|done|assumption),rfl,hwl,tw 0 (t3 (by assumption) (by assumption) (by assumption))⟩
      | (have e:=hq.out
         rw [t4 (by assumption) (by assumption) (by assumption)] at e
         rw [e]
         exact RN.a ⟨⟨none,0,0⟩,rfl,Rw.nil _ _⟩)
    ·have hw0:dD rest=0:=by omega
     rw [hw0] at c1
     by_cases hn0:0<lU rest
     ·have t1:=tS.of (aI7 hw hn0) hn0 nl
      have cw:=cut2 (lU rest)
      have hwl:(rest.take (lU rest)).length≤rest.length:=by rw [aV9];omega
      obtain ⟨w,hwd⟩:∃w,w=rest.take (lU rest):=⟨_,rfl⟩
      rw [← hwd] at t1 cw hwl
      obtain ⟨W,hW⟩:∃W,W=lU rest:=⟨_,rfl⟩
      rw [← hW] at c2 cw nl hn0
      clear hwd hW
      conv=>whnf
      repeat' first|((first|(show Cut _ _ _ _;first|(refine Cut.txt l k l.length (by omega) (by omega) rfl (by omega) (by omega) ?_;rw [dQ,cut1])|(refine Cut.txt l k (k+W) (by omega) (by omega) rfl (by omega) (by omega) ?_;rw [dQ,cw]))|(show CN _ _ _ _ _ _;first|refine CN.quiet rfl (c1 _) ?_|refine CN.quiet rfl (c2 _) ?_)|((first|apply oI.z|apply cI.z))|refine WN.i64 (by omega) (by omega) ?_|refine Sto.l 0 rfl rfl rfl ?_) <;> (conv=>whnf))|(apply aB<;>intro _<;>first|(exfalso;omega)|conv=>whnf)
      all_goals exact ⟨rfl,1,w,(by first|assumption|exact aA.lr _),rfl,hwl,t1⟩
     ·have hn1:lU rest=0:=by omega
      rw [hn1] at c2
      have t1:=fun y=>tS.of (aNa hw hn0 y) Nat.one_pos (show 1≤rest.length by omega)
      have t2:=aNb hw hn0
      have hwl:(rest.take 1).length≤rest.length:=by rw [aV9];omega
      conv=>whnf
      repeat' first|((first|(show Cut _ _ _ _;(refine Cut.txt l k l.length (by omega) (by omega) rfl (by omega) (by omega) ?_;rw [dQ,cut1]))|(show CN _ _ _ _ _ _;first|refine CN.quiet rfl (c1 _) ?_|refine CN.quiet rfl (c2 _) ?_)|((first|apply oI.z|apply cI.z))) <;> (conv=>whnf))|(apply aB<;>intro _<;>first|(exfalso;omega)|conv=>whnf)
      refine LpN.of (fun r ρ h' L=>∃j:Nat,r=8-j∧h1.le h'∧rd ρ 82=.int .i64 j∧j≤8∧L=(b9,.cells [.int .i64 0,.string (txt []),.int .i64 k].toArray Ty.syntax_Token (0,0))::L1∧Hq (∀i,i<j→fL.getD i []≠rest.take 1)) 8
       ⟨0,rfl,aA.lr _,vi (by omega),by omega,rfl,⟨fun i hi=>by omega⟩⟩ ?_
      conv=>whnf
      repeat intro _
      rename_i r2 h2 L2 hJ
      obtain ⟨j,rfl,hle2,e82,hj,rfl,hd⟩:=hJ
      conv at e82=>lhs;whnf
      subst e82
      have sg2:=sg.mono hle2
      have s1:=aGh j
      have s2:j<8→∀y∈fL.getD j [],y<256:=fun x=>aI6 _ (kV x)
      have s3:j=8→jR rest=none:=fun e=>t2 (sgn (by subst e;exact hd.out))
      have s4:=sgm j
      have s5:fL.getD j []≠rest.take 1→∀i,i<j+1→fL.getD i []≠rest.take 1:=fun y i hi=>by
       by_cases e:i=j
       ·subst e;exact y
       ·exact hd.out i (by omega)
      obtain ⟨X,hX⟩:∃X,X=fL.getD j []:=⟨_,rfl⟩
      rw [← hX] at s1 s2 s4 s5
      have c6:=fun (x:j<8) h=>yI h rest X hr8 (s2 x) (by omega)
      have s6:j<8→rest.take X.length=rest.take 1:=fun x=>by rw [s1 x]
      replace s3:=Hq.mk s3
      conv=>whnf
      repeat' first|((first|(show Idx _ _ _ _ _;refine Idx.strs sg2 j (by omega) (by exact (show j<8 by omega)) (fun ad hv=>?_))|(show Ld _ _ _ _;(refine Ld.of (by first|exact hv _|(rename_i hv;exact hv _)) ?_;rw [← hX]))|(show Cut _ _ _ _;(refine Cut.txt l k l.length (by omega) (by omega) rfl (by omega) (by omega) ?_;rw [dQ,cut1]))|(show CN _ _ _ _ _ _;refine CN.quiet rfl (c6 (by omega) _) ?_)|((first|apply oI.z|apply cI.z))|refine WN.i64 (by omega) (by omega) ?_|refine Sto.l 0 rfl rfl rfl ?_) <;> (conv=>whnf))|(show cnd _ _ _;first|(apply aB<;>intro _<;>first|(exfalso;omega)|conv=>whnf)|(apply bJ<;>intro _<;>first|(exfalso;omega)|conv=>whnf))
      all_goals first
       | exact ⟨rfl,0,X,(by assumption),rfl,by rw [s1 (by omega)];omega,by
           have e:=s6 (by omega)
           have x:rest.take X.length=X:=by assumption
           rw [x] at e
           have t:=t1 (s4 (by omega) e)
           rw [← e] at t;exact t⟩
       | exact ⟨rfl,8-(j+1),by omega,j+1,rfl,(by assumption),vi (by omega),by omega,rfl,⟨s5 fun y=>absurd (show rest.take X.length=X by rw [s6 (by omega),← y]) (by assumption)⟩⟩
       | exact ⟨rfl,0,[],(by assumption),rfl,aWe _,.inr ⟨rfl,s3.out (by omega)⟩⟩
   ·clear c1 c2 sgm sgn cut1 cut2 wl nl
    conv=>whnf
    repeat intro _
    rename_i h2 L2 hJ
    obtain ⟨kind,t,hle2,rfl,htl,hT⟩:=hJ
    have hT1:t=[]→R=([],(k:Int)):=fun e=>by
     rcases hT with ⟨x,-⟩|⟨-,y⟩
     ·exact absurd e x
     ·have:=hq.out;rw [y] at this;exact this
    have hT2:t≠[]→R=cD n' (l.drop (k+t.length)) (k+t.length) (acc++[⟨kind,t,k⟩]):=fun e=>by
     rcases hT with ⟨-,x,y⟩|⟨x,-⟩
     ·have:=hq.out;rw [x] at this;simp only [← y,hdr2] at this;exact this
     ·exact absurd x e
    have hT3:t≠[]→0<t.length:=List.length_pos_iff.2
    have zt:=bB t
    clear hT hq
    replace hT2:=Hq.mk hT2
    conv=>whnf
    repeat' first|((first|(show App _ _ _ _ _ _ _ _ _;refine App.growB (A:=[_,_]) (F:=L1) (size:=3) (bytes:=32) (z:=[.int .i64 0,.string ByteArray.empty,.int .i64 0]) rfl rfl g ⟨_,0,none⟩ 1 1 [_,_,_] rfl (Has.three _) rfl (by decide) (by omega) (by omega) (by decide) (fun v' L' g' hA=>?_))|((first|apply oI.z|apply cI.z))|intro (_:Nat)|refine LdN.o 0 rfl rfl ?_|refine Ld.o 0 rfl rfl ?_) <;> (conv=>whnf))|(show cnd _ _ _;first|(refine fY t rfl rfl (fun _=>?_) (fun _=>?_) <;> (conv=>whnf)))
    ·rw [hT1 (by assumption)]
     exact RN.a ⟨⟨none,0,0⟩,rfl,Rw.nil _ _⟩
    ·have hb9:=hA _ (.tail _ (.head _))
     have ht0:t≠[]:=by assumption
     have ht1:=hT3 ht0
     refine Ld.mem hb9 rfl ?_
     conv=>whnf
     repeat' first|((first|((first|apply oI.z|apply cI.z))|refine WN.i64 (by omega) (by omega) ?_) <;> (conv=>whnf))
     all_goals exact ⟨rfl,l.length-(k+t.length),by omega,k+t.length,n',v',acc++[⟨kind,t,k⟩],rfl,(by (iterate 30 try first|assumption|refine aA.lt ?_ (by assumption));first|done|assumption),vi (by omega),rfl,by omega,by rw [aVo,aI5];exact g',by rw [aVo];simp;omega,by omega,⟨hT2.out ht0⟩⟩
end Go.Proofs.Y