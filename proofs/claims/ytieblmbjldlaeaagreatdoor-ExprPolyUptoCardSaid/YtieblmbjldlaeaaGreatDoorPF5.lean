/- Rows of terms in memory that is never written: read term by term. -/
import Derived.Test.YtieblmbjldlaeaaGreatDoorPG1
set_option linter.all false
set_option maxHeartbeats 4000000
set_option maxRecDepth 20000
namespace Go.Vc
open Go Go.Dig
def eJ (K:aA→El→Prop) (h:aA) (s:Sl) (p:List (Mon × Rat)):Prop:=∃l:List El,l.map pq=p∧Rw h s 4 (fl l)∧∀x∈l,K h x
class UpE (K:aA→El→Prop):Prop where
 up:∀{h h':aA} {x:El},h.le h'→K h x→K h' x
theorem eJ.mono {K:aA→El→Prop} [UpE K] {h h':aA} {s:Sl} {p:List (Mon × Rat)} (w:eJ K h s p) (hl:h.le h'):eJ K h' s p:=by
 obtain ⟨l,h1,h2,h3⟩:=w
 exact ⟨l,h1,h2.mono hl,fun x hx=>UpE.up hl (h3 x hx)⟩
def aLg (h:aA) (b off:Nat) (x:El):Prop:=∀h' L k v,h.le h'→k<4→x.cells[k]?=some v→Has h' L ⟨b,off+k,none⟩ v
theorem Idx.el {h:aA} {s:Sl} {l:List El} (w:Rw h s 4 (fl l)) {i:Int} {k:Addr→Prop} (j:Nat) (x:El) (hi:i=j) (hx:l[j]?=some x) (hk:∀b off,aLg h b off x→k ⟨b,off,none⟩):Idx s.a i s.l 4 k:=by
 have hj:=(aVr.1 hx).1
 have hl:=aV l
 have hne:fl l≠[]:=fun e=>by rw [e] at hl;simp at hl;omega
 obtain ⟨b,off,c,T,fz,h1,h2,h3⟩:=w.mem hne
 have hlen:=w.len
 refine Idx.of j h1 hi (by omega) (hk _ _ fun h' L k v hle hk4 hv=>Has.imm (hle _ _ h2) ?_)
 rw [Nat.add_assoc,h3 _ (by omega),yY hx k hk4,hv]
theorem LdN.el4 {h h':aA} {L:Vc.Own} {b off:Nat} {x:El} {k:Value→Prop} (w:aLg h b off x) (hl:h.le h') (hk:k (.agg x.cells.toArray)):LdN h' L ⟨b,off,none⟩ 4 k:=
 ⟨x.cells,rfl,fun i hi=>by
   rw [bD]
   exact w h' L i _ hl hi (by match i,hi with
     | 0,_=>rfl
     | 1,_=>rfl
     | 2,_=>rfl
     | 3,_=>rfl),hk⟩
theorem LdN.elq {h h':aA} {L:Vc.Own} {b off:Nat} {x:El} {k:Value→Prop} (w:aLg h b off x) (hl:h.le h') (hk:k (.agg #[.bool x.neg,x.n.val,x.d.val])):LdN h' L ⟨b,off+0,none⟩ 3 k:=
 ⟨[.bool x.neg,x.n.val,x.d.val],rfl,fun i hi=>by
   rw [bD,Nat.add_zero]
   exact w h' L i _ hl (by omega) (by match i,hi with
     | 0,_=>rfl
     | 1,_=>rfl
     | 2,_=>rfl),hk⟩
theorem Ld.elf {h h':aA} {L:Vc.Own} {b off:Nat} {x:El} {k:Value→Prop} (w:aLg h b off x) (hl:h.le h') (hk:k x.f.val):Ld h' L ⟨b,off+3,none⟩ k:=Ld.of (w h' L 3 _ hl (by decide) rfl) hk
theorem aD.el {e:TypeId} {v:Value} {n:Nat} {out:List El} {L:Vc.Own} {x:El} (g:aD e 4 v (n+1) (fl out++x.cells) L):aD e 4 v (n+1) (fl (out++[x])) L:=by
 rw [yX]
 have:fl [x]=x.cells:=by show x.cells++[]=_;rw [aVy]
 rw [this];exact g
theorem RN.growE {K:aA→El→Prop} [UpE K] {e:TypeId} {v w:Value} {n:Nat} {out:List El} {h:aA} {L:Vc.Own} {R:Value→aA→Prop} (g:aD e 4 v n (fl out) L) (hw:∀x∈out,K h x)
  (hk:∀h' (s:Sl),h.le h'→v=s.val→eJ K h' s (out.map pq)→R w h'):RN w h L fun v h' L'=>L'=[]∧R v h':=
 RN.growR (by decide) g fun h' s hl e r=>hk h' s hl e ⟨out,rfl,r,fun x hx=>UpE.up hl (hw x hx)⟩
end Go.Vc
namespace Go.Proofs.Y
open Go Go.Vc Go.Dig
instance:UpE TmW:=⟨fun hl w=>w.mono hl⟩
structure QmW (h:aA) (x:El):Prop where
 q:IsQ h x.n x.d x.q
 sg:x.neg=sg x.q
 fac:iC h x
instance:UpE QmW:=⟨fun hl w=>⟨w.q.mono hl,w.sg,w.fac.mono hl⟩⟩
structure RmW (h:aA) (x:El):Prop where
 q:jI h x.n x.d x.q
 sg:x.neg=sg x.q
 fac:iC h x
instance:UpE RmW:=⟨fun hl w=>⟨w.q.mono hl,w.sg,w.fac.mono hl⟩⟩
end Go.Proofs.Y
/- The document's order of products; its sorting. -/
namespace Go.Vc
open Go Go.Dig Go.Proofs.Y
structure MgI (A B M:List El) (i k:Nat):Prop where
 p:M.Perm (A.take i++B.take k)
 o:bX M
 s:∀x∈M,∀y∈A.drop i++B.drop k,leE x y
theorem MgI.nil (A B:List El):MgI A B [] 0 0:=⟨.refl _,List.Pairwise.nil,fun x hx=>by cases hx⟩
theorem qM {A:List El} {i:Nat} {x:El} (h:A[i]?=some x):A.drop i=x::A.drop (i+1):=by
 obtain ⟨h1,h2⟩:=aVr.1 h
 rw [List.drop_eq_getElem_cons h1,h2]
theorem aBw {A:List El} (oA:bX A) {i:Nat} {x:El} (h:A[i]?=some x):∀y∈A.drop (i+1),leE x y:=fun y hy=>by
 have:=oA.sublist (List.drop_sublist i A)
 rw [qM h] at this
 exact (List.pairwise_cons.1 this).1 y hy
theorem MgI.left {A B M:List El} {i k:Nat} {x:El} (w:MgI A B M i k) (oA:bX A) (oB:bX B) (hx:A[i]?=some x) (hl:∀y,B[k]?=some y→leE x y):MgI A B (M++[x]) (i+1) k:=by
 have hxB:∀y∈B.drop k,leE x y:=fun y hy=>by
  cases hk:B[k]? with
  | none=>
   have:B.length≤k:=by simpa using hk
   rw [List.drop_of_length_le this] at hy;cases hy
  | some z=>
   rw [qM hk] at hy
   rcases aV7.1 hy with rfl|hy
   ·exact hl _ hk
   ·exact qD (hl z hk) (aBw oB hk y hy)
 refine ⟨?_,List.pairwise_append.2 ⟨w.o,by simp,fun a ha b hb=>?_⟩,fun a ha y hy=>?_⟩
 ·rw [aZ hx]
  refine (w.p.append_right [x]).trans ?_
  rw [aVt,aVt]
  exact List.Perm.append_left _ List.perm_append_comm
 ·rw [aV2] at hb
  subst hb
  exact w.s a ha b (by rw [qM hx];simp)
 ·rcases aVx.1 ha with ha|ha
  ·refine w.s a ha y ?_
   rw [qM hx]
   rcases aVx.1 hy with hy|hy
   ·exact List.mem_append_left _ (aVz _ hy)
   ·exact List.mem_append_right _ hy
  ·rw [aV2] at ha
   subst ha
   rcases aVx.1 hy with hy|hy
   ·exact aBw oA hx y hy
   ·exact hxB y hy
theorem MgI.swap {A B M:List El} {i k:Nat} (w:MgI A B M i k):MgI B A M k i:=
 ⟨w.p.trans List.perm_append_comm,w.o,fun x hx y hy=>w.s x hx y ((aVx.1 hy).elim (fun z=>List.mem_append_right _ z) fun z=>List.mem_append_left _ z)⟩
theorem aQ3 {a b:El} (h:fO a.m b.m≤0):leE a b:=fun hlt=>by
 rcases (Int.le_iff_lt_or_eq.1 h) with e|e
 ·exact cL.irr _ (cL.tra (fV.1 e) hlt)
 ·rw [iB.1 e] at hlt;exact cL.irr _ hlt
theorem aQ4 {a b:El} (h:0<fO a.m b.m):leE b a:=fun hlt=>by
 have:=fV.2 hlt
 omega
theorem aFg (l:List El) (n:Nat) (hn:n≤l.length):(fl l).take (n*4)=fl (l.take n):=by
 conv=>lhs;rw [← aV6 n l,yX]
 rw [List.take_left' (by rw [aV,aV9];omega)]
theorem Rw.frontE {h:aA} {s:Sl} {l:List El} (w:Rw h s 4 (fl l)) (n:Nat) (hn:n≤l.length):Rw h ⟨s.a,n,s.c⟩ 4 (fl (l.take n)):=by
 have hl:=w.len
 rw [aV] at hl
 refine ⟨by rw [aV,aV9];show n*4=_;omega,by have:=w.cap;show n≤s.c;omega,fun hne=>?_⟩
 have hne':fl l≠[]:=fun e=>hne (by rw [← aFg l n hn,e];simp)
 obtain ⟨b,off,c,T,fz,h1,h2,h3⟩:=w.mem hne'
 refine ⟨b,off,c,T,fz,h1,h2,fun i hi=>?_⟩
 rw [aV,aV9] at hi
 rw [h3 i (by rw [aV];omega),← aFg l n hn,List.getElem?_take,if_pos (by omega)]
theorem gM.backE {h:aA} {s:Sl} {l:List El} {x y:Int} {k:Option Addr→Nat→Nat→Prop} (w:Rw h s 4 (fl l)) (n:Nat) (hx:x=n) (hy:y=s.l) (hn:n<l.length) (hk:∀s':Sl,Rw h s' 4 (fl (l.drop n))→k s'.a s'.l s'.c):gM s.a x y s.c 4 k:=by
 have hl:=w.len
 rw [aV] at hl
 have hc:=w.cap
 obtain ⟨b,off,c,T,fz,h1,h2,h3⟩:=w.mem fun e=>by have:=aV l;rw [e] at this;simp at this;omega
 refine ⟨n,s.l,some ⟨b,off+n*4,Option.none⟩,s.l-n,s.c-n,hx,hy,by omega,hc,by rw [if_neg (by omega),h1];simp [bD],rfl,rfl,hk ⟨some ⟨b,off+n*4,Option.none⟩,s.l-n,s.c-n⟩ ⟨by rw [aV,List.length_drop];show (s.l-n)*4=_;omega,by show s.l-n≤s.c-n;omega,fun _=>⟨b,off+n*4,c,T,fz,rfl,h2,fun i hi=>?_⟩⟩⟩
 rw [aV,List.length_drop] at hi
 rw [Nat.add_assoc,h3 (n*4+i) (by rw [aV];omega)]
 have e:fl l=fl (l.take n)++fl (l.drop n):=by rw [← yX,aV6]
 rw [e,aWa (by rw [aV,aV9];omega),aV,aV9,show n*4+i-min n l.length*4=i by omega]
theorem aD.room {e:TypeId} {size b m:Nat} {z:List Value} {L:Vc.Own} (hz:z.length=size):aD e size (.slice (some ⟨b,0,Option.none⟩) 0 m) 0 [] ((b,.cells ((List.replicate m z).flatten).toArray e (0,0))::L):=
 ⟨by simp,.inr ⟨0,b,m,(List.replicate m z).flatten,rfl,rfl,aWe _,by simp [hz]⟩⟩
end Go.Vc
namespace Go.Proofs.Y
open Go Go.Vc Go.Dig
attribute [local irreducible] Vc.Fn FnP
theorem rI (h:aA) (s1 s2:Sl) (a b:Mon) (w1:Rw h s1 2 (fcs a)) (w2:Rw h s2 2 (fcs b)) (hb:a.length≤1099511627776) (hb2:b.length≤1099511627776):Fn0 T F.q24 [s1.val,s2.val] h fun v h'=>h'=h∧v=.int .i64 (fO a b):=by
 have hl1:s1.l=a.length:=by have:=w1.len;rw [bT] at this;omega
 have hl2:s2.l=b.length:=by have:=w2.len;rw [bT] at this;omega
 obtain ⟨R,hR⟩:∃R,R=fO a b:=⟨_,rfl⟩
 rw [← hR]
 refine f0C ok D.q24 rfl ?_
 conv=>whnf
 repeat ((first|apply oI.z|apply cI.z);conv=>whnf)
 skip
 refine LpN.of (fun r ρ hx L=>∃j:Nat,r=a.length-j∧hx=h∧j≤a.length∧j≤b.length∧rd ρ 5=.int .i64 j∧R=fO (a.drop j) (b.drop j)) a.length
  ⟨0,rfl,rfl,aWe _,aWe _,rfl,hR⟩ ?_
 conv=>whnf
 repeat intro _
 rename_i r hx L2 hI
 obtain ⟨j,rfl,rfl,hj1,hj2,e5,hq⟩:=hI
 conv at e5=>lhs;whnf
 subst e5
 by_cases hja:j=a.length
 ·rw [List.drop_of_length_le (by omega:a.length≤j)] at hq
  by_cases hjb:j=b.length
  ·rw [List.drop_of_length_le (by omega:b.length≤j)] at hq
   conv=>whnf
   repeat' first|((first|((first|apply oI.z|apply cI.z))) <;> (conv=>whnf))|(apply aB<;>intro _<;>first|(exfalso;omega)|conv=>whnf)
   all_goals exact RN.a ⟨rfl,by rw [hq,aBi]⟩
  ·rw [List.drop_eq_getElem_cons (by omega:j<b.length)] at hq
   conv=>whnf
   repeat' first|((first|((first|apply oI.z|apply cI.z))) <;> (conv=>whnf))|(apply aB<;>intro _<;>first|(exfalso;omega)|conv=>whnf)
   all_goals exact RN.a ⟨rfl,by rw [hq,aKm]⟩
 ·obtain ⟨t,ht⟩:∃t,a[j]?=some t:=⟨_,aVq (by omega)⟩
  have ht':=aVr.1 ht
  rw [List.drop_eq_getElem_cons (by omega:j<a.length),ht'.2] at hq
  by_cases hjb:j=b.length
  ·rw [List.drop_of_length_le (by omega:b.length≤j)] at hq
   conv=>whnf
   repeat' first|((first|((first|apply oI.z|apply cI.z))) <;> (conv=>whnf))|(apply aB<;>intro _<;>first|(exfalso;omega)|conv=>whnf)
   all_goals exact RN.a ⟨rfl,by rw [hq,aKn]⟩
  ·obtain ⟨u,hu⟩:∃t,b[j]?=some t:=⟨_,aVq (by omega)⟩
   have hu':=aVr.1 hu
   obtain ⟨x,i⟩:=t
   obtain ⟨y,k⟩:=u
   rw [List.drop_eq_getElem_cons (by omega:j<b.length),hu'.2,wN] at hq
   conv=>whnf
   repeat' first|((first|(show Idx _ _ _ _ _;first|refine Idx.fac w1 j _ (by omega) ht (fun bk off k0 k1=>?_)|refine Idx.fac w2 j _ (by omega) hu (fun bk2 off2 k2 k3=>?_))|(show Ld _ _ _ _;first|refine Ld.of (k0 _) ?_|refine Ld.of (k2 _) ?_|refine Ld.of (k1 _) ?_|refine Ld.of (k3 _) ?_)|((first|apply oI.z|apply cI.z))|refine WN.i64 (by omega) (by omega) ?_|refine DrN.run (by decide +kernel) ?_) <;> (conv=>whnf))|(show cnd _ _ _;first|(refine yS (fun hlt=>?_) (fun hlt=>?_) <;> (conv=>whnf))|(refine aE8 (fun hgt=>?_) (fun hgt=>?_) <;> (conv=>whnf))|(apply aB<;>intro _<;>first|(exfalso;omega)|conv=>whnf))
   all_goals first
    | exact ⟨rfl,a.length-(j+1),by omega,j+1,rfl,rfl,by omega,by omega,vi (by omega),by rw [hq,if_neg (by assumption),if_neg (by assumption),if_neg (by omega),if_neg (by omega)]⟩
    | exact RN.a ⟨rfl,by rw [hq,if_pos (by assumption)]⟩
    | exact RN.a ⟨rfl,by rw [hq,if_neg (by assumption),if_pos (by assumption)]⟩
    | exact RN.a ⟨rfl,by rw [hq,if_neg (by assumption),if_neg (by assumption),if_pos (by omega)]⟩
    | exact RN.a ⟨rfl,by rw [hq,if_neg (by assumption),if_neg (by assumption),if_neg (by omega),if_pos (by omega)]⟩
theorem aDs:∀(n:Nat) (h:aA) (s:Sl) (l:List El),l.length≤n→l.length≤100000→Rw h s 4 (fl l)→(∀x∈l,iC h x)→
  Fn0 T F.q129 [s.val] h fun v h'=>∃(s':Sl) (l':List El),v=s'.val∧Rw h' s' 4 (fl l')∧l'.Perm l∧bX l':=by
 intro n
 induction n with
 | zero=>
  intro h s l hn hb w fw
  have e:l=[]:=List.length_eq_zero_iff.1 (by omega)
  subst e
  have hl:=w.len
  have hl0:s.l=0:=by rw [aV] at hl;simp at hl;omega
  refine f0C ok D.q129 rfl ?_
  conv=>whnf
  repeat' first|((first|((first|apply oI.z|apply cI.z))) <;> (conv=>whnf))|(apply aB<;>intro _<;>first|(exfalso;omega)|conv=>whnf)
  all_goals exact RN.a ⟨s,[],rfl,w,.refl _,List.Pairwise.nil⟩
 | succ n ih=>
  intro h s l hn hb w fw
  have hl:=w.len
  rw [aV] at hl
  by_cases h2:l.length<2
  ·refine f0C ok D.q129 rfl ?_
   conv=>whnf
   repeat' first|((first|((first|apply oI.z|apply cI.z))) <;> (conv=>whnf))|(apply aB<;>intro _<;>first|(exfalso;omega)|conv=>whnf)
   all_goals exact RN.a ⟨s,l,rfl,w,.refl _,by
     match l,h2 with
     | [],_=>exact List.Pairwise.nil
     | [x],_=>simp
     | _::_::_,h2=>simp at h2;omega⟩
  ·obtain ⟨m,hm⟩:∃m,m=l.length / 2:=⟨_,rfl⟩
   have hm1:(l.take m).length=m:=by rw [aV9];omega
   have hm2:(l.drop m).length=l.length-m:=List.length_drop
   have c1:=fun h w fw=>ih h ⟨s.a,m,s.c⟩ (l.take m) (by omega) (by omega) w fw
   have wf1:=w.frontE m (by omega)
   have c2:=fun h s' w fw=>ih h s' (l.drop m) (by omega) (by omega) w fw
   have f1:∀x∈l.take m,iC h x:=fun x hx=>fw x (List.mem_of_mem_take hx)
   have f2:∀x∈l.drop m,iC h x:=fun x hx=>fw x (List.mem_of_mem_drop hx)
   have cap:=w.cap
   refine f0C ok D.q129 rfl ?_
   conv=>whnf
   repeat' first|((first|(show dN _ _ _ _;refine dN.i64 (by omega) (by omega) (by omega) ?_)|(show gM _ _ _ _ _ _;first|refine gM.front (s:=s) m (by omega) (by omega) ?_|refine gM.backE (w.mono (by assumption)) m (by omega) (by omega) (by omega) (fun s' w'=>?_))|(show CN _ _ _ _ _ _;first|(refine CN.f rfl (c1 _ wf1 f1) (fun v h' hl1 hr=>?_);obtain ⟨sA,A,rfl,wA,pA,oA⟩:=hr)|(refine CN.f rfl (c2 _ _ (w'.mono (by first|assumption|exact aA.lr _)) (fun x hx=>(f2 x hx).mono (by assumption))) (fun v h2' hl2 hr=>?_);obtain ⟨sB,B,rfl,wB,pB,oB⟩:=hr))|(show Mk _ _ _;first|refine Mk.of 0 rfl (by decide) (by decide) ?_|refine Mk.of s.l rfl (by omega) (by omega) ?_)|refine ⟨aWe _,fun _=>?_⟩|((first|apply oI.z|apply cI.z))) <;> (conv=>whnf))|(apply aB<;>intro _<;>first|(exfalso;omega)|conv=>whnf)
   refine LpN.of (fun r ρ hx L=>∃(i k:Nat) (M:List El) (v:Value),r=l.length-(i+k)∧h2'.le hx∧i≤A.length∧k≤B.length∧rd ρ 6=.int .i64 i∧rd ρ 7=.int .i64 k∧rd ρ 5=v∧aD Ty.ref04_term 4 v M.length (fl M) L∧Hq (MgI A B M i k)∧M.length=i+k) l.length
    ⟨0,0,[],_,rfl,aA.lr _,aWe _,aWe _,rfl,rfl,rfl,aD.room rfl,⟨MgI.nil A B⟩,rfl⟩ ?_
   have lA:A.length=m:=by rw [pA.length_eq,hm1]
   have lB:B.length=l.length-m:=by rw [pB.length_eq,hm2]
   have lsA:sA.l=A.length:=by have:=wA.len;rw [aV] at this;omega
   have lsB:sB.l=B.length:=by have:=wB.len;rw [aV] at this;omega
   have fA:∀x∈A,iC h' x:=fun x hx=>(f1 x (pA.mem_iff.1 hx)).mono hl1
   have fB:∀x∈B,iC h' x:=fun x hx=>(f2 x (pB.mem_iff.1 hx)).mono hl1
   have pL:(A++B).Perm l:=(pA.append pB).trans (by rw [aV6])
   clear c1 c2 wf1 f1 f2 w
   conv=>whnf
   repeat intro _
   rename_i r h3 L3 hI
   obtain ⟨i,k,M,v,rfl,hle,hi,hk,e6,e7,e5,g,⟨hM⟩,hMl⟩:=hI
   conv at e5=>lhs;whnf
   subst e5
   conv at e6=>lhs;whnf
   subst e6
   conv at e7=>lhs;whnf
   subst e7
   have wA3:=wA.mono (aA.lt hl2 hle)
   have wB3:=wB.mono hle
   by_cases hend:i=A.length∧k=B.length
   ·have hp:=hM.p
    rw [hend.1,hend.2,aV4,aV4] at hp
    conv=>whnf
    repeat' first|((first|((first|apply oI.z|apply cI.z))) <;> (conv=>whnf))|(apply aB<;>intro _<;>first|(exfalso;omega)|conv=>whnf)
    all_goals exact RN.growR (size:=4) (by decide) g fun h' s hl e w=>⟨s,M,e,w,hp.trans pL,hM.o⟩
   by_cases hkB:k=B.length
   ·obtain ⟨x,hx⟩:∃x,A[i]?=some x:=⟨_,aVq (by omega)⟩
    have hst:=hM.left oA oB hx (fun y hy=>by rw [hkB,List.getElem?_eq_none (aWf _)] at hy;cases hy)
    conv=>whnf
    repeat' first|((first|(show Idx _ _ _ _ _;refine Idx.el wA3 i x (by omega) hx (fun ab ao aw=>?_))|(show LdN _ _ _ _ _;(refine LdN.el4 aw (by first|assumption|exact aA.lr _) ?_))|(show App _ _ _ _ _ _ _ _ _;refine App.growK0 (A:=[_]) (F:=L3) (size:=4) (bytes:=80) (z:=[.bool false,.slice none 0 0,.slice none 0 0,.slice none 0 0]) rfl rfl g ⟨_,0,none⟩ 1 1 [_,_,_,_] rfl (Has.four _) rfl (by decide) (by omega) (by omega) (by decide) (fun v' F' g'=>?_))|((first|apply oI.z|apply cI.z))|intro (_:Nat)|refine WN.i64 (by omega) (by omega) ?_|refine DrN.run (by decide +kernel) ?_) <;> (conv=>whnf))|(show cnd _ _ _;first|(apply aB<;>intro _<;>first|(exfalso;omega)|conv=>whnf)|(apply aE<;>intro _<;>first|(exfalso;omega)|conv=>whnf))
    all_goals exact ⟨rfl,l.length-(i+1+k),by omega,i+1,k,M++[x],_,rfl,hle,by omega,hk,vi (by omega),rfl,rfl,by rw [aVo];exact (aD.el g').cons _,⟨hst⟩,by rw [aVo,List.length_singleton];omega⟩
   ·obtain ⟨y,hy⟩:∃x,B[k]?=some x:=⟨_,aVq (by omega)⟩
    by_cases hiA:i=A.length
    ·have hst:=(hM.swap.left oB oA hy (fun y hy=>by rw [hiA,List.getElem?_eq_none (aWf _)] at hy;cases hy)).swap
     conv=>whnf
     repeat' first|((first|(show Idx _ _ _ _ _;refine Idx.el wB3 k y (by omega) hy (fun ab ao aw=>?_))|(show LdN _ _ _ _ _;(refine LdN.el4 aw (by first|assumption|exact aA.lr _) ?_))|(show App _ _ _ _ _ _ _ _ _;refine App.growK0 (A:=[_]) (F:=L3) (size:=4) (bytes:=80) (z:=[.bool false,.slice none 0 0,.slice none 0 0,.slice none 0 0]) rfl rfl g ⟨_,0,none⟩ 1 1 [_,_,_,_] rfl (Has.four _) rfl (by decide) (by omega) (by omega) (by decide) (fun v' F' g'=>?_))|((first|apply oI.z|apply cI.z))|intro (_:Nat)|refine WN.i64 (by omega) (by omega) ?_|refine DrN.run (by decide +kernel) ?_) <;> (conv=>whnf))|(show cnd _ _ _;first|(apply aB<;>intro _<;>first|(exfalso;omega)|conv=>whnf)|(apply aE<;>intro _<;>first|(exfalso;omega)|conv=>whnf))
     all_goals exact ⟨rfl,l.length-(i+(k+1)),by omega,i,k+1,M++[y],_,rfl,hle,hi,by omega,rfl,vi (by omega),rfl,by rw [aVo];exact (aD.el g').cons _,⟨hst⟩,by rw [aVo,List.length_singleton];omega⟩
    ·obtain ⟨x,hx⟩:∃x,A[i]?=some x:=⟨_,aVq (by omega)⟩
     have fx:=fA x (aVu hx)
     have fy:=fB y (aVu hy)
     have c3:=fun h w1 w2=>rI h x.f y.f x.m y.m w1 w2 fx.len fy.len
     have q1:fO x.m y.m≤0→MgI A B (M++[x]) (i+1) k:=fun e=>hM.left oA oB hx (fun z hz=>by rw [hy] at hz;cases hz;exact aQ3 e)
     have q2:0<fO x.m y.m→MgI A B (M++[y]) i (k+1):=fun e=>(hM.swap.left oB oA hy (fun z hz=>by rw [hx] at hz;cases hz;exact aQ4 e)).swap
     have rx:=fx.rw.mono (aA.lt hl2 hle)
     have ry:=fy.rw.mono (aA.lt hl2 hle)
     obtain ⟨C,hC⟩:∃C,C=fO x.m y.m:=⟨_,rfl⟩
     rw [← hC] at q1 q2 c3
     conv=>whnf
     repeat' first|((first|(show Idx _ _ _ _ _;first|refine Idx.el wA3 i x (by omega) hx (fun ab ao aw=>?_)|refine Idx.el wB3 k y (by omega) hy (fun bb bo bw=>?_))|(show Ld _ _ _ _;first|(refine Ld.elf aw (by first|assumption|exact aA.lr _) ?_)|(refine Ld.elf bw (by first|assumption|exact aA.lr _) ?_))|(show CN _ _ _ _ _ _;refine CN.quiet rfl (c3 _ rx ry) ?_)|(show LdN _ _ _ _ _;first|(refine LdN.el4 aw (by first|assumption|exact aA.lr _) ?_)|(refine LdN.el4 bw (by first|assumption|exact aA.lr _) ?_))|(show App _ _ _ _ _ _ _ _ _;refine App.growK0 (A:=[_]) (F:=L3) (size:=4) (bytes:=80) (z:=[.bool false,.slice none 0 0,.slice none 0 0,.slice none 0 0]) rfl rfl g ⟨_,0,none⟩ 1 1 [_,_,_,_] rfl (Has.four _) rfl (by decide) (by omega) (by omega) (by decide) (fun v' F' g'=>?_))|((first|apply oI.z|apply cI.z))|refine ⟨fun _=>aH.o (aA.lr _),?_⟩|intro (_:Nat)|refine WN.i64 (by omega) (by omega) ?_|refine DrN.run (by decide +kernel) ?_) <;> (conv=>whnf))|(show cnd _ _ _;first|(apply aB<;>intro _<;>first|(exfalso;omega)|conv=>whnf)|(apply bI<;>intro _<;>first|(exfalso;omega)|conv=>whnf)|(apply aE<;>intro _<;>first|(exfalso;omega)|conv=>whnf))
     all_goals first
      | exact ⟨rfl,l.length-(i+1+k),by omega,i+1,k,M++[x],_,rfl,hle,by omega,hk,vi (by omega),rfl,rfl,by rw [aVo];exact (aD.el g').cons _,⟨q1 (by omega)⟩,by rw [aVo,List.length_singleton];omega⟩
      | exact ⟨rfl,l.length-(i+(k+1)),by omega,i,k+1,M++[y],_,rfl,hle,hi,by omega,rfl,vi (by omega),rfl,by rw [aVo];exact (aD.el g').cons _,⟨q2 (by omega)⟩,by rw [aVo,List.length_singleton];omega⟩
end Go.Proofs.Y
/- The program's forms: terms put in order, like ones added, limits. -/
namespace Go.Vc
open Go Go.Dig
theorem aQ5 (t:Mon × Rat):grS [] t=[t]:=rfl
theorem zL (o:List (Mon × Rat)) (u t:Mon × Rat):grS (o++[u]) t=if u.1=t.1 then o++[(u.1,u.2+t.2)] else o++[u]++[t]:=by
 unfold grS
 rw [List.getLast?_concat,List.dropLast_concat]
theorem aLh (o:List El) (u:El) {n:Nat} (hn:n=o.length):(o++[u])[n]?=some u:=by rw [hn];exact kC o u []
theorem aLi (o:List El) (u v:El) {n:Nat} (hn:n=o.length):(o++[u]).set n v=o++[v]:=by rw [hn,List.set_append_right _ _ (aWf _),Nat.sub_self];rfl
theorem aLj {l:List El} (h:bX l):aBj (l.map pq):=List.pairwise_map.2 h
end Go.Vc
namespace Go.Proofs.Y
open Go Go.Vc Go.Dig
abbrev iS (h:aA) (s:Sl) (p:Pol):Prop:=eJ TmW h s p
def flr (n:Nat):List PanicEntry:=[{ v:=.iface Ty.expr_failure (.agg #[.int .i64 (n:Nat)]),recovered:=false }]
abbrev kJ (r:Except Nat Pol) (v:Value) (h':aA):Prop:=∃p s,r=.ok p∧v=Sl.val s∧iS h' s p
def rX (l:List El):Bool:=l.any fun x=>!dec (cK x.q)
def oV (m:Mon):Bool:=m.any fun f=>decide (64<f.2)
def qN (l:List El):Bool:=l.any fun x=>oV x.m
theorem uN {m:Mon}:oV m=true↔∃f∈m,64<f.2:=by unfold oV;simp
theorem aFh {l:List El} {p:Pol} (hp:l.map pq=p):zG p↔200<l.length∨qN l=true:=by
 subst hp
 unfold zG qN
 rw [aWb]
 refine or_congr Iff.rfl ?_
 rw [List.any_eq_true]
 constructor
 ·rintro ⟨t,ht,g⟩
  obtain ⟨x,hx,rfl⟩:=List.mem_map.1 ht
  exact ⟨x,hx,uN.2 g⟩
 ·rintro ⟨x,hx,g⟩
  exact ⟨pq x,List.mem_map_of_mem hx,uN.1 g⟩
theorem aFi {l:List El} {p:Pol} (hp:l.map pq=p):zH p↔rX l=true:=by
 subst hp
 unfold zH rX
 rw [List.any_eq_true]
 constructor
 ·rintro ⟨t,ht,g⟩
  obtain ⟨x,hx,rfl⟩:=List.mem_map.1 ht
  exact ⟨x,hx,by rw [show dec (cK x.q)=false from aK g];rfl⟩
 ·rintro ⟨x,hx,g⟩
  refine ⟨pq x,List.mem_map_of_mem hx,fun hf=>?_⟩
  rw [show dec (cK x.q)=true from cF hf] at g;cases g
theorem wS {l:List El} {i:Nat} {x:El} (h:l[i]?=some x):rX (l.take (i+1))=(rX (l.take i) || !dec (cK x.q)):=by
 rw [aZ h];unfold rX;rw [List.any_append];simp
theorem wT {l:List El} {i:Nat} {x:El} (h:l[i]?=some x):qN (l.take (i+1))=(qN (l.take i) || oV x.m):=by
 rw [aZ h];unfold qN;rw [List.any_append];simp
theorem rJ {m:Mon} {i:Nat} {f:Fac} (h:m[i]?=some f):oV (m.take (i+1))=(oV (m.take i) || decide (64<f.2)):=by
 rw [aZ h];unfold oV;rw [List.any_append];simp
theorem aHh (l:List El):(l.filter nz).map pq=(l.map pq).filter fun t=>!decide (t.2=0):=by
 rw [List.filter_map];rfl
attribute [local irreducible] Vc.Fn FnP
theorem aOz (h:aA) (tb:Tb h) (bp cap N:Nat) (zs:List Value) (l:List El) (hN:l.length=N) (hb:N≤40400) (hc:N≤cap) (w:∀x∈l,TmW h x∧Sz 130 x.q) (r:Except Nat Pol) (hr:bH (l.map pq)=r):
  FnP T F.q118 [.slice (some ⟨bp,0,none⟩) N cap] h [cA bp zs l] (fun v h' L'=>L'=[]∧∃p s,r=.ok p∧v=Sl.val s∧iS h' s p) (fun c _ _=>∃n,r=.error n∧c=flr n):=by
 have c1:=vE h bp cap N zs l hN (by omega) fun x hx=>(w x hx).1.fac
 refine fPC ok _ D.q118 rfl ?_
 conv=>whnf
 repeat' first|((first|(show CN _ _ _ _ _ _;(refine CN.own 0 rfl rfl (Fn.wP c1) (fun v h' La hl hr=>?_);obtain ⟨l',o1,p1,rfl⟩:=hr;refine ⟨_,rfl,?_⟩))|((first|apply oI.z|apply cI.z))) <;> (conv=>whnf))
 have hr1:(((l'.map pq).foldl grS []).filter fun t=>!decide (t.2=0))=bU (l.map pq):=aE5 (p1.map pq) (aLj o1)
 have hl':l'.length=N:=p1.length_eq.trans hN
 have w':∀x∈l',TmW h' x∧Sz 130 x.q:=fun x hx=>⟨(w x (p1.mem_iff.1 hx)).1.mono hl,(w x (p1.mem_iff.1 hx)).2⟩
 replace tb:=tb.mono hl
 refine LpN.keepOnly 0 rfl fun h1 hl1 hb1=>?_
 replace w':∀x∈l',TmW h1 x∧Sz 130 x.q:=fun x hx=>⟨(w' x hx).1.mono hl1,(w' x hx).2⟩
 replace tb:=tb.mono hl1
 clear c1 o1 p1 w hl hl1
 refine LpN.of (fun r ρ hx L=>∃(i:Nat) (out:List El) (v:Value),r=N-i∧h1.le hx∧i≤N∧rd ρ 17=.int .i64 i∧rd ρ 3=v∧aD Ty.expr_term 4 v out.length (fl out) L∧out.length≤i∧Hq (out.map pq=((l'.take i).map pq).foldl grS [])∧Hq (∀x∈out,TmW hx x∧Sz (132*i) x.q)) N
  ⟨0,[],_,rfl,aA.lr _,aWe _,rfl,rfl,aD.nil _ _ _,aWf _,⟨rfl⟩,⟨fun x hx=>by cases hx⟩⟩ ?_
 conv=>whnf
 repeat intro _
 rename_i r2 h2 L2 hI
 obtain ⟨i,out,v,rfl,hle,hi,e17,e3,g,ho,⟨hq⟩,⟨hw⟩⟩:=hI
 have hb2:=hle _ _ hb1
 replace tb:=tb.mono hle
 by_cases hiN:i=N
 ·have hfin:(out.filter nz).map pq=bU (l.map pq):=by
   rw [aHh,hq,← hr1]
   congr 2
   rw [hiN,← hl',aV4]
  have wf:∀x∈out.filter nz,TmW h2 x∧Sz 1073741824 x.q:=fun x hx=>by
   have hx':=hw x (List.mem_filter.1 hx).1
   exact ⟨hx'.1,hx'.2.mono (by omega)⟩
  have wq:∀x∈out,TmW h2 x∧Sz 1099511627776 x.q:=fun x hx=>⟨(hw x hx).1,(hw x hx).2.mono (by omega)⟩
  have hrr:(if zG (bU (l.map pq)) then Except.error 4 else if zH (bU (l.map pq)) then Except.error 1 else Except.ok (bU (l.map pq)))=r:=hr
  have hl1:=aFh hfin
  have hl2:=aFi hfin
  have hlen:(out.filter nz).length≤40400:=aWd (List.length_filter_le ..) (by omega)
  obtain ⟨P,hP⟩:∃P,P=out.filter nz:=⟨_,rfl⟩
  rw [← hP] at hfin wf hl1 hl2 hlen
  have key:∀(hb:Bool) (lim:Bool),lim=(decide (200<P.length) || qN P)→hb=rX P→(lim=true→r=.error 4)∧(lim=false→hb=true→r=.error 1)∧(lim=false→hb=false→r=.ok (bU (l.map pq))):=fun hb lim e1 e2=>by
   have e3:zG (bU (l.map pq))↔lim=true:=by rw [hl1,e1];simp
   have e4:zH (bU (l.map pq))↔hb=true:=by rw [hl2,e2]
   refine ⟨fun x=>?_,fun x y=>?_,fun x y=>?_⟩
   ·rw [← hrr,if_pos (e3.2 x)]
   ·rw [← hrr,if_neg (fun z=>by rw [e3.1 z] at x;cases x),if_pos (e4.2 y)]
   ·rw [← hrr,if_neg (fun z=>by rw [e3.1 z] at x;cases x),if_neg (fun z=>by rw [e4.1 z] at y;cases y)]
  clear hrr hl1 hl2 hr hr1 w'
  obtain ⟨gl,⟨rfl,h0⟩|⟨j,b,cap',zs',rfl,hG,hcap,hzl⟩⟩:=g
  ·skip
   conv at e3=>lhs;whnf
   subst e3
   conv at e17=>lhs;whnf
   subst e17
   have e0:out=[]:=List.length_eq_zero_iff.1 h0
   have eP:P=[]:=by rw [hP,e0];rfl
   have c2:=mZ
   have hk:=(key false false (by rw [eP];rfl) (by rw [eP];rfl)).2.2 rfl rfl
   rw [← hfin,eP] at hk
   conv=>whnf
   repeat' first|((first|(show CN _ _ _ _ _ _;refine CN.quiet rfl (Fn0.wP (c2 _)) ?_)|((first|apply oI.z|apply cI.z))) <;> (conv=>whnf))|(apply aB<;>intro _<;>first|(exfalso;omega)|conv=>whnf)
   refine LpN.of (fun r ρ hx L=>hx=h2∧rd ρ 63=.int .i64 0∧rd ρ 7=.bool false∧rd ρ 8=.bool false) 0 ⟨rfl,rfl,congrArg Value.bool (iX (by decide)),rfl⟩ ?_
   conv=>whnf
   repeat intro _
   rename_i r3 h3 L3 hI
   obtain ⟨rfl,e63,e7,e8⟩:=hI
   conv at e63=>lhs;whnf
   subst e63
   conv at e7=>lhs;whnf
   subst e7
   conv at e8=>lhs;whnf
   subst e8
   conv=>whnf
   repeat' first|((first|(apply aX.go)|((first|apply oI.z|apply cI.z))) <;> (conv=>whnf))|(apply aB<;>intro _<;>first|(exfalso;omega)|conv=>whnf)
   exact RN.a (R:=kJ r) ⟨[],⟨none,0,0⟩,hk,rfl,[],rfl,Rw.nil _ _,fun x hx=>by cases hx⟩
  ·skip
   conv at e3=>lhs;whnf
   subst e3
   conv at e17=>lhs;whnf
   subst e17
   have c2:=vF h2 b cap' zs' out (by omega) hcap wq
   rw [← hP] at c2
   conv=>whnf
   repeat' first|((first|(show CN _ _ _ _ _ _;(refine CN.own j hG rfl (Fn.wP c2) (fun v h' La hl hr=>?_);obtain ⟨zs2,rfl,rfl⟩:=hr;refine ⟨_,rfl,?_⟩))|((first|apply oI.z|apply cI.z))) <;> (conv=>whnf))|(apply aB<;>intro _<;>first|(exfalso;omega)|conv=>whnf)
   have hjl:=(aVr.1 hG).1
   refine LpN.keepOnly j (List.getElem?_set_self hjl) fun h3 hl3 hb3=>?_
   have wf3:∀x∈P,TmW h3 x:=fun x hx=>(wf x hx).1.mono (aA.lt hl hl3)
   have wz3:∀x∈P,Sz 1073741824 x.q:=fun x hx=>(wf x hx).2
   have hPc:P.length≤cap':=by rw [hP];exact aWd (List.length_filter_le ..) hcap
   clear wf wq c2 hl hl3 hG hb2 hb1 hle hP
   refine LpN.of (fun r ρ hx L=>∃(i:Nat) (B C:Bool),r=P.length-i∧h3.le hx∧i≤P.length∧rd ρ 63=.int .i64 i∧rd ρ 7=.bool B∧rd ρ 8=.bool C∧Hq (B=(decide (200<P.length) || qN (P.take i)))∧Hq (C=rX (P.take i))) P.length
    ⟨0,_,_,rfl,aA.lr _,aWe _,rfl,rfl,rfl,⟨by
      rw [List.take_zero]
      show Vc.lt 200 _=(decide (200<P.length) || false)
      rw [Bool.or_false]
      unfold Vc.lt
      exact decide_eq_decide.2 (by omega)⟩,⟨rfl⟩⟩ ?_
   conv=>whnf
   repeat intro _
   rename_i r4 h4 L4 hI
   obtain ⟨i2,B,C,rfl,hle4,hi2,e63,e7,e8,⟨hB⟩,⟨hC⟩⟩:=hI
   conv at e63=>lhs;whnf
   subst e63
   conv at e7=>lhs;whnf
   subst e7
   conv at e8=>lhs;whnf
   subst e8
   have hb4:=hle4 _ _ hb3
   by_cases hiP:i2=P.length
   ·rw [hiP,aV4] at hB hC
    obtain ⟨k1,k2,k3⟩:=key C B hB hC
    obtain ⟨M,hM⟩:∃M,M=P.length:=⟨_,rfl⟩
    have hPW:iS h4 ⟨some ⟨b,0,none⟩,M,cap'⟩ (bU (l.map pq)):=⟨P,hfin,⟨by rw [aV,hM],by rw [hM];exact hPc,fun _=>⟨b,0,_,_,_,rfl,hb4,fun i hi=>by
      rw [aWc,List.getElem?_toArray,aV0 hi]⟩⟩,fun x hx=>(wf3 x hx).mono hle4⟩
    rw [← hM] at hiP ⊢
    clear hB hC key hfin
    conv=>whnf
    repeat' first|((first|(apply aX.go)|(show Ext _ _ _ _ _ _ _;refine Ext.iface rfl (fun m x=>by cases x) ?_)|((first|apply oI.z|apply cI.z))) <;> (conv=>whnf))|(show cnd _ _ _;first|(apply aB<;>intro _<;>first|(exfalso;omega)|conv=>whnf)|(refine fC (fun hb=>?_) (fun hb=>?_) <;> (first|cases hb|subst hb) <;> (conv=>whnf)))
    all_goals first
     | exact RN.a (R:=kJ r) ⟨_,_,k3 rfl rfl,rfl,hPW⟩
     | exact Ext.panic ⟨4,k1 rfl,rfl⟩
     | exact Ext.panic ⟨1,k2 rfl rfl,rfl⟩
   ·obtain ⟨x,hx⟩:∃x,P[i2]?=some x:=⟨_,aVq (by omega)⟩
    have wx:=(wf3 x (aVu hx)).mono hle4
    have zx:=wz3 x (aVu hx)
    have hB1:=wT hx
    have hC1:=wS hx
    rw [← hC] at hC1
    obtain ⟨xn,xa,xd,xf,xm,xq⟩:=x
    obtain rfl:xn=sg xq:=wx.sg
    have c2:=yA h4 xa xd xq wx.fr (zx.mono (by decide))
    have hxf:xf.l=xm.length:=by have:=wx.fac.rw.len;rw [bT] at this;dsimp only at this;omega
    have hxf2:(⟨sg xq,xa,xd,xf,xm,xq⟩:El).f.l=xm.length:=hxf
    have hxm:xm.length≤1099511627776:=wx.fac.len
    have fw:=wx.fac.rw
    dsimp only at hB1 hC1 fw
    obtain ⟨M,hM⟩:∃M,M=P.length:=⟨_,rfl⟩
    have hB2:∀B2:Bool,B2=(B || oV xm)→B2=(decide (200<M) || qN (P.take (i2+1))):=fun B2 e=>by rw [e,hB,hB1,hM,Bool.or_assoc]
    clear key hfin hB hB1 hC
    rw [← hM] at hiP hi2 ⊢
    obtain ⟨FB,hFB⟩:∃FB,FB=dec (cK xq):=⟨_,rfl⟩
    rw [← hFB] at c2 hC1
    conv=>whnf
    repeat' first|((first|(show Idx _ _ _ _ _;refine Idx.of i2 rfl (by omega) (by omega) ?_)|(show LdN _ _ _ _ _;first|refine LdN.elI hb4 hx ?_|refine LdN.oA 0 rfl rfl ?_)|(show CN _ _ _ _ _ _;refine CN.quiet rfl (Fn0.wP c2) ?_)|((first|apply oI.z|apply cI.z))|intro (_:Nat)|refine Ld.o 0 rfl rfl ?_|refine Sto.l 0 rfl rfl rfl ?_) <;> (conv=>whnf))|(show cnd _ _ _;first|(apply aB<;>intro _<;>first|(exfalso;omega)|conv=>whnf)|(refine fC (fun hb=>?_) (fun hb=>?_) <;> (first|cases hb|subst hb) <;> (conv=>whnf)))
    ·refine LpN.of (fun r ρ hx L=>∃(j:Nat) (B2:Bool),r=xm.length-j∧h4.le hx∧j≤xm.length∧rd ρ 77=.int .i64 j∧rd ρ 7=.bool B2∧Hq (B2=(B || oV (xm.take j)))) xm.length
      ⟨0,B,rfl,aA.lr _,aWe _,rfl,rfl,⟨by rw [List.take_zero];exact (Bool.or_false B).symm⟩⟩ ?_
     conv=>whnf
     repeat intro _
     rename_i r5 h5 L5 hI
     obtain ⟨j2,B2,rfl,hle5,hj2,e77,e7,⟨hB3⟩⟩:=hI
     conv at e77=>lhs;whnf
     subst e77
     conv at e7=>lhs;whnf
     subst e7
     have fw5:=fw.mono hle5
     by_cases hjm:j2=xm.length
     ·rw [hjm,aV4] at hB3
      obtain ⟨M2,hM2⟩:∃M2,M2=xm.length:=⟨_,rfl⟩
      rw [← hM2] at hjm hj2 hxf2 ⊢
      conv=>whnf
      repeat' first|((first|((first|apply oI.z|apply cI.z))|refine WN.i64 (by omega) (by omega) ?_) <;> (conv=>whnf))|(apply aB<;>intro _<;>first|(exfalso;omega)|conv=>whnf)
      exact ⟨rfl,M-(i2+1),by omega,i2+1,B2,_,rfl,(by (iterate 30 try first|assumption|refine aA.lt ?_ (by assumption));first|done|assumption),by omega,vi (by omega),rfl,rfl,⟨hB2 B2 hB3⟩,⟨by rw [hC1];rfl⟩⟩
     ·obtain ⟨f,hf⟩:∃f,xm[j2]?=some f:=⟨_,aVq (by omega)⟩
      have hs5:=rJ hf
      obtain ⟨fx,fe⟩:=f
      have hB5:∀z:Bool,z=decide (64<fe)→(B2 || z)=(B || oV (xm.take (j2+1))):=fun z e=>by rw [hB3,hs5,e,Bool.or_assoc]
      have hz5:Vc.lt 64 (fe:Int)=decide (64<fe):=by unfold Vc.lt;exact decide_eq_decide.2 (by omega)
      clear hB3 hs5
      conv=>whnf
      repeat' first|((first|(show Idx _ _ _ _ _;refine Idx.fac fw5 j2 _ (by omega) hf (fun bk off k0 k1=>?_))|(show LdN _ _ _ _ _;refine LdN.two (k0 _) (k1 _) ?_)|((first|apply oI.z|apply cI.z))|intro (_:Nat)|refine WN.i64 (by omega) (by omega) ?_|refine Ld.o 0 rfl rfl ?_|refine Sto.l 0 rfl rfl rfl ?_) <;> (conv=>whnf))|(show cnd _ _ _;first|(apply aB<;>intro _<;>first|(exfalso;omega)|conv=>whnf)|(refine fC (fun hb=>?_) (fun hb=>?_) <;> (first|cases hb|subst hb) <;> (conv=>whnf)))
      all_goals exact ⟨rfl,xm.length-(j2+1),by omega,j2+1,_,rfl,(by assumption),by omega,vi (by omega),rfl,⟨hB5 _ hz5⟩⟩
    ·refine LpN.of (fun r ρ hx L=>∃(j:Nat) (B2:Bool),r=xm.length-j∧h4.le hx∧j≤xm.length∧rd ρ 77=.int .i64 j∧rd ρ 7=.bool B2∧Hq (B2=(B || oV (xm.take j)))) xm.length
      ⟨0,B,rfl,aA.lr _,aWe _,rfl,rfl,⟨by rw [List.take_zero];exact (Bool.or_false B).symm⟩⟩ ?_
     conv=>whnf
     repeat intro _
     rename_i r5 h5 L5 hI
     obtain ⟨j2,B2,rfl,hle5,hj2,e77,e7,⟨hB3⟩⟩:=hI
     conv at e77=>lhs;whnf
     subst e77
     conv at e7=>lhs;whnf
     subst e7
     have fw5:=fw.mono hle5
     by_cases hjm:j2=xm.length
     ·rw [hjm,aV4] at hB3
      obtain ⟨M2,hM2⟩:∃M2,M2=xm.length:=⟨_,rfl⟩
      rw [← hM2] at hjm hj2 hxf2 ⊢
      conv=>whnf
      repeat' first|((first|((first|apply oI.z|apply cI.z))|refine WN.i64 (by omega) (by omega) ?_) <;> (conv=>whnf))|(apply aB<;>intro _<;>first|(exfalso;omega)|conv=>whnf)
      exact ⟨rfl,M-(i2+1),by omega,i2+1,B2,_,rfl,(by (iterate 30 try first|assumption|refine aA.lt ?_ (by assumption));first|done|assumption),by omega,vi (by omega),rfl,rfl,⟨hB2 B2 hB3⟩,⟨by rw [hC1];rfl⟩⟩
     ·obtain ⟨f,hf⟩:∃f,xm[j2]?=some f:=⟨_,aVq (by omega)⟩
      have hs5:=rJ hf
      obtain ⟨fx,fe⟩:=f
      have hB5:∀z:Bool,z=decide (64<fe)→(B2 || z)=(B || oV (xm.take (j2+1))):=fun z e=>by rw [hB3,hs5,e,Bool.or_assoc]
      have hz5:Vc.lt 64 (fe:Int)=decide (64<fe):=by unfold Vc.lt;exact decide_eq_decide.2 (by omega)
      clear hB3 hs5
      conv=>whnf
      repeat' first|((first|(show Idx _ _ _ _ _;refine Idx.fac fw5 j2 _ (by omega) hf (fun bk off k0 k1=>?_))|(show LdN _ _ _ _ _;refine LdN.two (k0 _) (k1 _) ?_)|((first|apply oI.z|apply cI.z))|intro (_:Nat)|refine WN.i64 (by omega) (by omega) ?_|refine Ld.o 0 rfl rfl ?_|refine Sto.l 0 rfl rfl rfl ?_) <;> (conv=>whnf))|(show cnd _ _ _;first|(apply aB<;>intro _<;>first|(exfalso;omega)|conv=>whnf)|(refine fC (fun hb=>?_) (fun hb=>?_) <;> (first|cases hb|subst hb) <;> (conv=>whnf)))
      all_goals exact ⟨rfl,xm.length-(j2+1),by omega,j2+1,_,rfl,(by assumption),by omega,vi (by omega),rfl,⟨hB5 _ hz5⟩⟩
 ·obtain ⟨t,ht⟩:∃t,l'[i]?=some t:=⟨_,aVq (by omega)⟩
  have hwt:=w' t (aVu ht)
  have wt:=hwt.1.mono hle
  have wz:=hwt.2
  have hs:=aZ ht
  have hfold:((l'.take (i+1)).map pq).foldl grS []=grS (out.map pq) (pq t):=by rw [hs,aV3,List.foldl_append,← hq];rfl
  obtain ⟨tn,ta,td,tf,tm,tq⟩:=t
  obtain rfl:tn=sg tq:=wt.sg
  rcases List.eq_nil_or_concat out with rfl|⟨o,u,rfl⟩
  ·obtain ⟨va,vz,vc,rfl,hvz⟩:∃a z c,v=.slice a z c∧z=0:=by
    obtain ⟨-,⟨e,-⟩|⟨j,b,cap',zs',e,-⟩⟩:=g
    ·exact ⟨_,_,_,e,rfl⟩
    ·exact ⟨_,_,_,e,rfl⟩
   obtain ⟨n0,hn0⟩:∃n0,n0=([]:List El).length:=⟨_,rfl⟩
   have hn1:n0=0:=hn0
   have hn2:([(⟨sg tq,ta,td,tf,tm,tq⟩:El)]).length=n0+1:=by rw [hn1];rfl
   rw [← hn0] at g ho
   obtain ⟨xs0,hx0⟩:∃xs0,xs0=fl []:=⟨_,rfl⟩
   rw [← hx0] at g
   clear hn0
   conv at e3=>lhs;whnf
   subst e3
   conv at e17=>lhs;whnf
   subst e17
   conv=>whnf
   repeat' first|((first|(apply aX.go)|(show Idx _ _ _ _ _;refine Idx.of i rfl (by omega) (by omega) ?_)|(show LdN _ _ _ _ _;first|refine LdN.elI hb2 ht ?_|refine LdN.o 0 rfl rfl ?_)|(show App _ _ _ _ _ _ _ _ _;refine App.growK0 (A:=[_,_]) (F:=L2) (size:=4) (bytes:=80) (z:=[.bool false,.slice none 0 0,.slice none 0 0,.slice none 0 0]) rfl rfl g ⟨_,0,none⟩ 1 1 [_,_,_,_] rfl (Has.four _) rfl (by decide) (by omega) (by omega) (by decide) (fun v' F' g'=>?_))|((first|apply oI.z|apply cI.z))|intro (_:Nat)|refine WN.i64 (by omega) (by omega) ?_|refine Sto.l 0 rfl rfl rfl ?_|refine DrN.run (by decide +kernel) ?_) <;> (conv=>whnf))|(apply aB<;>intro _<;>first|(exfalso;omega)|conv=>whnf)
   exact ⟨rfl,N-(i+1),by omega,i+1,[⟨sg tq,ta,td,tf,tm,tq⟩],_,rfl,hle,by omega,vi (by omega),rfl,by rw [hn2];rw [hx0] at g';exact ((aD.el (out:=[]) g').cons _).cons _,by rw [hn2];omega,⟨by rw [hfold];exact (aQ5 _).symm⟩,⟨fun x hx=>by
     rw [aV2] at hx;subst hx
     exact ⟨wt,wz.mono (by omega)⟩⟩⟩
  ·rw [List.concat_eq_append] at *
   rw [aVo,List.length_singleton] at g ho
   have g0:=g
   obtain ⟨gl,⟨-,h0⟩|⟨j,b,cap',zs',rfl,hG,hcap,hzl⟩⟩:=g
   ·omega
   conv at e3=>lhs;whnf
   subst e3
   conv at e17=>lhs;whnf
   subst e17
   have wu:=hw u (List.mem_append_right _ (aV2.2 rfl))
   obtain ⟨un,ua,ud,uf,um,uq⟩:=u
   obtain rfl:un=sg uq:=wu.1.sg
   obtain ⟨n,hn⟩:∃n,n=o.length:=⟨_,rfl⟩
   have hu:(o++[(⟨sg uq,ua,ud,uf,um,uq⟩:El)])[n]?=some ⟨sg uq,ua,ud,uf,um,uq⟩:=aLh o _ hn
   rw [aV3,List.map_cons,List.map_nil,zL] at hfold
   rw [← hn] at ho hcap gl g0 ⊢
   have c2:=fun h w1 w2=>uG h uf tf um tm w1 w2 wu.1.fac.len
   obtain ⟨C,hC⟩:∃C,C=fO um tm:=⟨_,rfl⟩
   rw [← hC] at c2
   by_cases hm:um=tm
   ·have hC0:C=0:=by rw [hC];exact iB.2 hm
    have hset:=fun y=>aLi o (⟨sg uq,ua,ud,uf,um,uq⟩:El) y hn
    have c3:=fun h tb w1 w2=>aMw h tb ua ud ta td uq tq w1 w2 (wu.2.mono (by omega)) (wz.mono (by omega))
    have wu1:=wu.1
    conv=>whnf
    repeat' first|((first|(apply aX.go)|(show Idx _ _ _ _ _;first|refine Idx.of i rfl (by omega) (by omega) ?_|refine Idx.of n rfl (by omega) (by omega) ?_)|(show LdN _ _ _ _ _;first|refine LdN.elI hb2 ht ?_|refine LdN.el3 (j+1) hG hu ?_|refine LdN.oA 0 rfl rfl ?_)|(show Ld _ _ _ _;first|refine Ld.of (Has.elF (j+1) hG hu (by decide) rfl) ?_|refine Ld.o 0 rfl rfl ?_)|(show CN _ _ _ _ _ _;first|(refine CN.f rfl (Fn0.wP (c2 _ (wu1.fac.rw.mono (by first|assumption|exact aA.lr _)) (wt.fac.rw.mono (by first|assumption|exact aA.lr _)))) (fun v h' hl hr=>?_);subst hr)|(refine CN.f rfl (Fn0.wP (c3 _ (by (iterate 30 try first|assumption|refine Tb.mono ?_ (by assumption));first|done|assumption) (wu1.fr.mono (by assumption)) (wt.fr.mono (by assumption)))) (fun v h' hl hr=>?_);obtain ⟨s',t',rfl,hq'⟩:=hr))|(show Sto _ _ _ _;first|(refine Sto.el3 (y:=⟨sg (uq+tq),s',t',uf,um,uq+tq⟩) (j+1) hG hu rfl ?_;rw [hset])|refine Sto.l 0 rfl rfl rfl ?_)|((first|apply oI.z|apply cI.z))|refine ⟨fun _=>aH.o (by assumption),?_⟩|refine ⟨fun hst=>(by cases (show true=false from hst)),?_⟩|intro (_:Nat)|refine WN.i64 (by omega) (by omega) ?_|refine DrN.run (by decide +kernel) ?_) <;> (conv=>whnf))|(show cnd _ _ _;first|(apply aB<;>intro _<;>first|(exfalso;omega)|conv=>whnf)|(apply aE<;>intro _<;>first|(exfalso;omega)|conv=>whnf))
    have hjl:=(aVr.1 hG).1
    have hny:(o++[(⟨sg (uq+tq),s',t',uf,um,uq+tq⟩:El)]).length=n+1:=by rw [aVo,hn];rfl
    refine ⟨rfl,N-(i+1),by omega,i+1,o++[⟨sg (uq+tq),s',t',uf,um,uq+tq⟩],_,rfl,(by (iterate 30 try first|assumption|refine aA.lt ?_ (by assumption));first|done|assumption),by omega,vi (by omega),rfl,?_,by omega,⟨Eq.symm (hfold.trans ((if_pos hm).trans (by rw [aV3];rfl)))⟩,⟨fun x hx=>?_⟩⟩
    ·rw [hny]
     refine ⟨by rw [aV,hny],.inr ⟨j+1,b,cap',zs',rfl,List.getElem?_set_self (by rw [aVs];omega),hcap,?_⟩⟩
     rw [aVo,aV] at hzl ⊢
     rw [hny]
     rw [aVo,← hn] at hzl
     exact hzl
    ·rcases aVx.1 hx with hx|hx
     ·have:=hw x (List.mem_append_left _ hx)
      exact ⟨this.1.mono (by (iterate 30 try first|assumption|refine aA.lt ?_ (by assumption));first|done|assumption),this.2.mono (by omega)⟩
     ·rw [aV2] at hx
      subst hx
      exact ⟨⟨hq',rfl,⟨wu1.fac.rw.mono (by (iterate 30 try first|assumption|refine aA.lt ?_ (by assumption));first|done|assumption),wu1.fac.len⟩⟩,(Sz.add wu.2 wz).mono (by omega)⟩
   ·have hC0:C≠0:=by rw [hC];exact fun e=>hm (iB.1 e)
    have wu1:=wu.1
    conv=>whnf
    repeat' first|((first|(apply aX.go)|(show Idx _ _ _ _ _;first|refine Idx.of i rfl (by omega) (by omega) ?_|refine Idx.of n rfl (by omega) (by omega) ?_)|(show LdN _ _ _ _ _;first|refine LdN.elI hb2 ht ?_|refine LdN.o 0 rfl rfl ?_)|(show Ld _ _ _ _;first|refine Ld.of (Has.elF (j+1) hG hu (by decide) rfl) ?_|refine Ld.o 0 rfl rfl ?_)|(show CN _ _ _ _ _ _;(refine CN.f rfl (Fn0.wP (c2 _ (wu1.fac.rw.mono (by first|assumption|exact aA.lr _)) (wt.fac.rw.mono (by first|assumption|exact aA.lr _)))) (fun v h' hl hr=>?_);subst hr))|(show App _ _ _ _ _ _ _ _ _;refine App.growK0 (A:=[_,_]) (F:=L2) (size:=4) (bytes:=80) (z:=[.bool false,.slice none 0 0,.slice none 0 0,.slice none 0 0]) rfl rfl g0 ⟨_,0,none⟩ 1 1 [_,_,_,_] rfl (Has.four _) rfl (by decide) (by omega) (by omega) (by decide) (fun v' F' g'=>?_))|((first|apply oI.z|apply cI.z))|refine ⟨fun _=>aH.o (by assumption),?_⟩|intro (_:Nat)|refine WN.i64 (by omega) (by omega) ?_|refine Sto.l 0 rfl rfl rfl ?_|refine DrN.run (by decide +kernel) ?_) <;> (conv=>whnf))|(show cnd _ _ _;first|(apply aB<;>intro _<;>first|(exfalso;omega)|conv=>whnf)|(apply aE<;>intro _<;>first|(exfalso;omega)|conv=>whnf))
    have hny:(o++[(⟨sg uq,ua,ud,uf,um,uq⟩:El)]++[(⟨sg tq,ta,td,tf,tm,tq⟩:El)]).length=n+1+1:=by rw [aVo,aVo,hn];rfl
    refine ⟨rfl,N-(i+1),by omega,i+1,o++[⟨sg uq,ua,ud,uf,um,uq⟩]++[⟨sg tq,ta,td,tf,tm,tq⟩],_,rfl,(by (iterate 30 try first|assumption|refine aA.lt ?_ (by assumption));first|done|assumption),by omega,vi (by omega),rfl,?_,by omega,⟨Eq.symm (hfold.trans ((if_neg hm).trans (by rw [aV3,aV3];rfl)))⟩,⟨fun x hx=>?_⟩⟩
    ·rw [hny]
     exact ((aD.el g').cons _).cons _
    ·rcases aVx.1 hx with hx|hx
     ·have:=hw x hx
      exact ⟨this.1.mono (by assumption),this.2.mono (by omega)⟩
     ·rw [aV2] at hx
      subst hx
      exact ⟨wt.mono (by assumption),wz.mono (by omega)⟩
end Go.Proofs.Y
/- Sums and scaled sums of forms; constants; single atoms: the program. -/
namespace Go.Vc
open Go Go.Dig
theorem App.clone {T:Tab} {e:TypeId} {size bytes b:Nat} {h:aA} {L:Vc.Own} {k:Value→aA→Vc.Own→Prop} {z cs:List Value} {t:Sl} (hi:T.inf e=some (z,bytes)) (hz:z.length=size) (hsz:0<size) (w:Rw h t size cs) (hn:t.a≠none) (hl:t.l≤1048576) (hby:bytes≤256) (hone:cs.all eK=true)
  (hk:∀v' L',aD e size v' t.l cs L'→k v' h L'):App T e size bytes (.slice (some ⟨b,0,none⟩) 0 0) t.val h ((b,.cells #[] e (0,0))::L) k:=by
 obtain ⟨ta,tl,tc⟩:=t
 cases ta with
 | none=>exact absurd rfl hn
 | some ad=>
  have g:aD e size (.slice (some ⟨b,0,none⟩) 0 0) 0 [] ((b,.cells #[] e (0,0))::L):=⟨by simp,.inr ⟨0,b,0,[],rfl,rfl,aWf _,by simp⟩⟩
  refine App.grow (n:=0) hi hz g ad tl tc cs w.len.symm (fun j hj=>?_) hone ?_ ?_ hsz fun v' L' g' _=>hk v' L' ?_
  ·obtain ⟨b',off,c,T',fz,h1,h2,h3⟩:=w.mem (fun x=>by rw [x] at hj;simp at hj)
   cases h1
   rw [bD]
   refine Has.imm h2 ?_
   rw [h3 j hj,aVp,aVq hj];rfl
  ·have:tl≤1048576:=hl
   omega
  ·have:tl≤1048576:=hl
   calc (0+tl)*bytes≤1048576*256:=Nat.mul_le_mul (by omega) hby
    _≤_:=by decide
  ·rw [aWc,List.nil_append] at g';exact g'
theorem aLk (l:List El):(fl l).all eK=true:=by
 refine List.all_eq_true.2 fun v hv=>?_
 obtain ⟨x,_,hv⟩:=List.mem_flatMap.1 hv
 simp only [El.cells,aV7,List.not_mem_nil,or_false] at hv
 rcases hv with rfl|rfl|rfl|rfl <;> rfl
theorem aO0 (l:Mon):(fcs l).all eK=true:=by
 refine List.all_eq_true.2 fun v hv=>?_
 obtain ⟨x,_,hv⟩:=List.mem_flatMap.1 hv
 simp only [fcv,aV7,List.not_mem_nil,or_false] at hv
 rcases hv with rfl|rfl <;> rfl
end Go.Vc
namespace Go.Proofs.Y
open Go Go.Vc Go.Dig
def SP (r:Except Nat Pol):List PanicEntry→aA→Vc.Own→Prop:=fun c _ _=>∃n,r=.error n∧c=flr n
def FP (f:FuncId) (args:List Value) (h:aA) (r:Except Nat Pol):Prop:=FnP T f args h [] (fun v h' L'=>L'=[]∧∃p s,r=.ok p∧v=Sl.val s∧iS h' s p) (SP r)
theorem CN.poly {f:FuncId} {args:List Value} {h:aA} {L:Vc.Own} {k:Value→aA→Vc.Own→Prop} {r r0:Except Nat Pol} (hf:T.fn f=true) (hc:FP f args h r) (hk:∀p s h',h.le h'→r=.ok p→iS h' s p→k (Sl.val s) h' L) (hs:∀n,r=.error n→r0=.error n):CN (T.withPan (SP r0)) f args h L k:=
 ⟨hf,.done ⟨[],L,_,_,by simp,FnP.withPan hc,fun v h' La hl ⟨e,p,s,e1,e2,w⟩=>⟨L,by rw [e];simp,by rw [e2];exact hk p s h' hl e1 w⟩,fun c h' La hl ⟨n,e1,e2⟩=>⟨La++L,.refl _,n,hs n e1,e2⟩⟩⟩
theorem aLl (h:aA):FP F.q118 [.slice none 0 0] h (.ok []):=by
 have c1:=uJ
 have c2:=mZ
 refine fPC ok _ D.q118 rfl ?_
 conv=>whnf
 repeat' first|((first|(show CN _ _ _ _ _ _;(refine CN.f rfl (Fn0.wP (c1 _)) (fun v h' hl hr=>?_);subst hr;clear hl))|((first|apply oI.z|apply cI.z))) <;> (conv=>whnf))
 refine LpN.of (fun r ρ hx L=>hx=h'∧rd ρ 17=.int .i64 0∧rd ρ 3=.slice none 0 0) 0 ⟨rfl,rfl,rfl⟩ ?_
 conv=>whnf
 repeat intro _
 rename_i r2 h2 L2 hI
 obtain ⟨rfl,e17,e3⟩:=hI
 conv at e3=>lhs;whnf
 subst e3
 conv at e17=>lhs;whnf
 subst e17
 conv=>whnf
 repeat' first|((first|(show CN _ _ _ _ _ _;refine CN.quiet rfl (Fn0.wP (c2 _)) ?_)|((first|apply oI.z|apply cI.z))) <;> (conv=>whnf))|(apply aB<;>intro _<;>first|(exfalso;omega)|conv=>whnf)
 refine LpN.of (fun r ρ hx L=>hx=h2∧rd ρ 63=.int .i64 0∧rd ρ 7=.bool false∧rd ρ 8=.bool false) 0 ⟨rfl,rfl,congrArg Value.bool (iX (by decide)),rfl⟩ ?_
 conv=>whnf
 repeat intro _
 rename_i r3 h3 L3 hI
 obtain ⟨rfl,e63,e7,e8⟩:=hI
 conv at e63=>lhs;whnf
 subst e63
 conv at e7=>lhs;whnf
 subst e7
 conv at e8=>lhs;whnf
 subst e8
 conv=>whnf
 repeat' first|((first|(apply aX.go)|((first|apply oI.z|apply cI.z))) <;> (conv=>whnf))|(apply aB<;>intro _<;>first|(exfalso;omega)|conv=>whnf)
 exact RN.a (R:=kJ (.ok [])) ⟨[],⟨none,0,0⟩,rfl,rfl,[],rfl,Rw.nil _ _,fun x hx=>by cases hx⟩
theorem qO {h:aA} (tb:Tb h) {l:List El} {v:Value} {L:Vc.Own} {k:Value→aA→Vc.Own→Prop} {n:Nat} (g:aD Ty.expr_term 4 v n (fl l) L) (hn:n=l.length) (hb:n≤40400) (w:∀x∈l,TmW h x∧Sz 130 x.q) {r r0:Except Nat Pol} (hr:bH (l.map pq)=r)
  (hk:∀p s h' L',h.le h'→r=.ok p→iS h' s p→k (Sl.val s) h' L') (hs:∀n,r=.error n→r0=.error n):CN (T.withPan (SP r0)) F.q118 [v] h L k:=by
 obtain ⟨gl,⟨rfl,rfl⟩|⟨i,b,cap,zs,rfl,hi,hc,hlen⟩⟩:=g
 ·have e:l=[]:=List.length_eq_zero_iff.1 hn.symm
  subst e
  have e2:r=.ok []:=hr.symm
  subst e2
  exact CN.poly rfl (aLl h) (fun p s h' hl e w=>hk p s h' L hl e w) hs
 ·have hc1:=aOz h tb b cap n zs l hn.symm hb hc w r hr
  obtain ⟨hlt,hget⟩:=aVr.1 hi
  have perm:∀(L:Vc.Own) (n:Nat) (hn:n<L.length),L.Perm (L[n]::L.eraseIdx n):=by
   intro L
   induction L with
   | nil=>intro n hl;simp at hl
   | cons y L ih=>
    intro n hl
    match n with
    | 0=>exact .refl _
    | n+1=>
     simp only [List.eraseIdx_cons_succ,List.getElem_cons_succ]
     exact (List.Perm.cons _ (ih n (by simpa using hl))).trans (List.Perm.swap _ _ _)
  have hp:=perm L i hlt
  rw [hget] at hp
  exact ⟨rfl,.done ⟨[cA b zs l],L.eraseIdx i,_,_,hp,FnP.withPan hc1,fun v h' La hl ⟨e,p,s,e1,e2,w⟩=>⟨L.eraseIdx i,by rw [e];simp,by rw [e2];exact hk p s h' _ hl e1 w⟩,fun c h' La hl ⟨n,e1,e2⟩=>⟨La++L.eraseIdx i,.refl _,n,hs n e1,e2⟩⟩⟩
theorem aHi (h:aA) (s:Sl) (l:List El) (w:Rw h s 4 (fl l)) (hl:l.length≤1000000):Vc.Fn T F.q119 [s.val] h [] fun v h' L'=>h'=h∧aD Ty.expr_term 4 v l.length (fl l) L':=by
 have hlen:=w.len
 rw [aV] at hlen
 obtain ⟨sa,sl,sc⟩:=s
 obtain rfl:sl=l.length:=by dsimp only at hlen;omega
 cases sa with
 | none=>
  have e:l=[]:=by
   refine Classical.byContradiction fun hne=>?_
   obtain ⟨b,off,c,T',fz,h1,-⟩:=w.mem fun x=>hne (by have:=aV l;rw [x] at this;exact List.length_eq_zero_iff.1 (by simp at this;omega))
   cases h1
  subst e
  refine f1C ok D.q119 rfl ?_
  conv=>whnf
  repeat ((first|apply oI.z|apply cI.z);conv=>whnf)
  skip
  exact RN.done ⟨rfl,aD.nil _ _ _⟩
 | some ad=>
  refine f1C ok D.q119 rfl ?_
  conv=>whnf
  repeat' first|((first|(show App _ _ _ _ _ _ _ _ _;(refine App.clone (t:=⟨some ad,l.length,sc⟩) (size:=4) (bytes:=80) (z:=[.bool false,.slice none 0 0,.slice none 0 0,.slice none 0 0]) rfl rfl (by decide) w (fun x=>by cases x) (by show l.length≤_;omega) (by decide) (aLk l) (fun v' L' g=>?_)))|((first|apply oI.z|apply cI.z))|intro (_:Nat)) <;> (conv=>whnf))
  exact RN.done ⟨rfl,g⟩
theorem aHj (h:aA) (s:Sl) (m:Mon) (w:Rw h s 2 (fcs m)) (hl:m.length≤1000000):Fn0 T F.q20 [s.val] h fun v h'=>∃s':Sl,v=s'.val∧Rw h' s' 2 (fcs m):=by
 have hlen:=w.len
 rw [bT] at hlen
 obtain ⟨sa,sl,sc⟩:=s
 obtain rfl:sl=m.length:=by dsimp only at hlen;omega
 cases sa with
 | none=>
  have e:m=[]:=by
   refine Classical.byContradiction fun hne=>?_
   obtain ⟨b,off,c,T',fz,h1,-⟩:=w.mem fun x=>hne (by have:=bT m;rw [x] at this;exact List.length_eq_zero_iff.1 (by simp at this;omega))
   cases h1
  subst e
  refine f0C ok D.q20 rfl ?_
  conv=>whnf
  repeat ((first|apply oI.z|apply cI.z);conv=>whnf)
  skip
  exact RN.a ⟨⟨none,0,0⟩,rfl,Rw.nil _ _⟩
 | some ad=>
  refine f0C ok D.q20 rfl ?_
  conv=>whnf
  repeat' first|((first|(show App _ _ _ _ _ _ _ _ _;(refine App.clone (t:=⟨some ad,m.length,sc⟩) (size:=2) (bytes:=24) (z:=[.string (txt []),.int .i64 0]) rfl rfl (by decide) w (fun x=>by cases x) (by show m.length≤_;omega) (by decide) (aO0 m) (fun v' L' g=>?_)))|((first|apply oI.z|apply cI.z))|intro (_:Nat)) <;> (conv=>whnf))
  exact RN.growR (size:=2) (by decide) g fun h' s hl e w=>⟨s,e,w⟩
theorem aDt {k:Int} (hk:k=1∨k=-1):Sz 64 (k:Rat):=by
 have h1:Sz 64 (1:Rat):=⟨fE.1,fE.2⟩
 rcases hk with rfl|rfl
 ·exact h1
 ·exact Sz.neg h1
theorem oW {q:Rat} (h:cK q):Sz 64 q:=⟨h.1,h.2⟩
attribute [local irreducible] Vc.Fn FnP
theorem aBx {m:Mon} {q:Rat} (hd:∀f∈m,f.2≤64) (h0:q≠0) (hf:cK q):bH [(m,q)]=.ok [(m,q)]:=by
 have hn:bU [(m,q)]=[(m,q)]:=aKj ⟨List.pairwise_cons.2 ⟨fun _ h=>(by simp at h),List.Pairwise.nil⟩,fun t h=>by rw [aV2] at h;subst h;exact h0⟩
 unfold bH
 rw [hn,if_neg (fun h=>?_),if_neg (fun h=>?_)]
 ·obtain ⟨t,ht,g⟩:=h
  rw [aV2] at ht;subst ht
  exact g hf
 ·rcases h with h|⟨t,ht,f,hfm,g⟩
  ·simp at h
  ·rw [aV2] at ht;subst ht
   have:=hd f hfm
   omega
theorem aLm {q:Rat} (hf:cK q):bH [([],q)]=.ok (lH q):=by
 unfold lH
 by_cases h0:q=0
 ·rw [if_pos h0]
  have hn:bU [(([]:Mon),q)]=[]:=by
   rw [h0]
   unfold bU
   have:mH [(([]:Mon),(0:Rat))]=[([],0)]:=rfl
   rw [this];rfl
  unfold bH
  rw [hn]
  exact if_neg (fun h=>by
    rcases h with h|⟨t,ht,-⟩
    ·simp at h
    ·cases ht) |>.trans (if_neg fun ⟨t,ht,_⟩=>by cases ht)
 ·rw [if_neg h0]
  exact aBx (fun f hf=>by simp at hf) h0 hf
theorem aD.one4 {e:TypeId} {b:Nat} {L:Vc.Own} (x:El):aD e 4 (.slice (some ⟨b,0,none⟩) 1 1) 1 (fl [x]) ((b,.cells x.cells.toArray e (0,0))::L):=
 ⟨by rw [aV];rfl,.inr ⟨0,b,1,[],rfl,by
   have:fl [x]=x.cells:=by show x.cells++[]=_;rw [aVy]
   rw [this,aVy];rfl,aWf _,by rw [aVy,aV];rfl⟩⟩
theorem kD (h:aA) (tb:Tb h) (a b:Sl) (q:Rat) (hq:iP h a b q) (hf:cK q):FP F.q65 [.agg #[.bool (sg q),a.val,b.val]] h (.ok (lH q)):=by
 have hr:bH (([⟨sg q,a,b,⟨none,0,0⟩,[],q⟩]:List El).map pq)=.ok (lH q):=aLm hf
 have hw:∀x∈([⟨sg q,a,b,⟨none,0,0⟩,[],q⟩]:List El),TmW h x∧Sz 130 x.q:=fun x hx=>by
  rw [aV2] at hx;subst hx
  exact ⟨⟨hq,rfl,Rw.nil _ _,aWe _⟩,(oW hf).mono (by decide)⟩
 unfold FP
 refine fPC ok _ D.q65 rfl ?_
 conv=>whnf
 repeat' first|((first|refine qO tb (aD.one4 ⟨sg q,a,b,⟨none,0,0⟩,[],q⟩) rfl (by decide) hw hr (fun p s h' L' hl e w=>?_) (fun n e=>e)|((first|apply oI.z|apply cI.z))|intro (_:Nat)|refine LdN.o 0 rfl rfl ?_) <;> (conv=>whnf))
 exact RN.a (R:=kJ (.ok (lH q))) ⟨p,s,e,rfl,w⟩
theorem aHk (s:List UInt8):bH [([(s,1)],1)]=.ok [([(s,1)],1)]:=aBx (fun f hf=>by rw [aV2] at hf;subst hf;show 1≤64;omega) (by decide) fE
theorem Rw.oneF {h:aA} {b:Nat} {x:List UInt8} {e:Nat} {T0:TypeId} (hb:h b=some (.cells [.string ⟨x.toArray⟩,.int .i64 (e:Nat)].toArray T0 (0,0))):Rw h ⟨some ⟨b,0,none⟩,1,1⟩ 2 (fcs [(x,e)]):=
 ⟨rfl,aWf _,fun _=>⟨b,0,_,T0,(0,0),rfl,hb,fun i hi=>by rw [aWc,List.getElem?_toArray];rfl⟩⟩
theorem wU {s:List UInt8} (h:s.length≤4000):bY s=.ok [([(s,1)],1)]:=if_neg (by omega)
theorem wV {s:List UInt8} (h:4000<s.length):bY s=.error 4:=if_pos h
theorem rK (h:aA) (tb:Tb h) (s:List UInt8):FP F.q70 [.string ⟨s.toArray⟩] h (bY s):=by
 have hsz:(⟨s.toArray⟩:ByteArray).size=s.length:=by simp [ByteArray.size]
 obtain ⟨r,hr⟩:∃r,r=bY s:=⟨_,rfl⟩
 have r1:4000<s.length→r=.error 4:=fun a=>hr.trans (wV a)
 have r2:s.length≤4000→r=.ok [([(s,1)],1)]:=fun a=>hr.trans (wU a)
 rw [← hr]
 unfold FP
 refine fPC ok _ D.q70 rfl ?_
 conv=>whnf
 repeat' first|((first|(apply aX.go)|(show Ext _ _ _ _ _ _ _;refine Ext.iface rfl (fun m x=>by cases x) ?_)|(show CN _ _ _ _ _ _;(refine CN.f rfl (Fn0.wP (sH _ 1 (by decide) (by decide))) (fun v h' hl hr=>?_);obtain ⟨s',t',rfl,hq'⟩:=hr))|((first|apply oI.z|apply cI.z))|intro (_:Nat)) <;> (conv=>whnf))|(apply aB<;>intro _<;>first|(exfalso;omega)|conv=>whnf)
 ·exact Ext.panic ⟨4,r1 (by omega),rfl⟩
 ·rename_i b1 b2
  refine CN.keep 1 rfl rfl fun hle=>?_
  have e1:((1:Int):Rat)=1:=rfl
  have hF:Rw (h'.put b1 (.cells [.string ⟨s.toArray⟩,.int .i64 1].toArray 57 (0,0))) ⟨some ⟨b1,0,none⟩,1,1⟩ 2 (fcs [(s,1)]):=Rw.oneF (e:=1) (if_pos rfl)
  have hw:∀x∈([⟨sg ((1:Int):Rat),s',t',⟨some ⟨b1,0,none⟩,1,1⟩,[(s,1)],((1:Int):Rat)⟩]:List El),TmW (h'.put b1 (.cells [.string ⟨s.toArray⟩,.int .i64 1].toArray 57 (0,0))) x∧Sz 130 x.q:=fun x hx=>by
   rw [aV2] at hx;subst hx
   exact ⟨⟨hq'.mono hle,rfl,⟨hF,by show 1≤1099511627776;decide⟩⟩,by rw [e1];exact (oW fE).mono (by decide)⟩
  refine qO ((tb.mono hl).mono hle) (aD.one4 _) rfl (by decide) hw (r:=.ok [([(s,1)],1)]) ?_ (fun p s h' L' hl e w=>?_) (fun n e=>by cases e)
  ·exact aHk s
  ·conv=>whnf
   repeat ((first|apply oI.z|apply cI.z);conv=>whnf)
   skip
   exact RN.a (R:=kJ r) ⟨p,s,(r2 (by omega)).trans e,rfl,w⟩
end Go.Proofs.Y