/- Products of factors joined, as the document forms them. -/
import Derived.Test.YtieblmbjldlaeaaGreatDoorPD5
set_option linter.all false
set_option maxHeartbeats 4000000
set_option maxRecDepth 20000
namespace Go.Vc
open Go Go.Dig
theorem aFk (M K:Nat):∀(n:Nat) (a b:Mon),a.length+b.length≤n→(∀t∈a,t.2≤M∧t.1.length≤K)→(∀t∈b,t.2≤M∧t.1.length≤K)→∀t∈mgM a b,t.2≤M+M∧t.1.length≤K
 | n,[],b,_,_,hb=>by rw [rF];exact fun t ht=>⟨by have:=(hb t ht).1;omega,(hb t ht).2⟩
 | n,t::a,[],_,ha,_=>by rw [qA];exact fun t ht=>⟨by have:=(ha t ht).1;omega,(ha t ht).2⟩
 | 0,_::_,_::_,h,_,_=>by simp at h
 | n+1,(x,i)::a,(y,j)::b,hn,ha,hb=>by
  simp only [aVs] at hn
  have hx:=ha (x,i) (aVw ..)
  have hy:=hb (y,j) (aVw ..)
  dsimp only at hx hy
  have ha':∀t∈a,t.2≤M∧t.1.length≤K:=fun t ht=>ha t (aVz _ ht)
  have hb':∀t∈b,t.2≤M∧t.1.length≤K:=fun t ht=>hb t (aVz _ ht)
  have h1:=aFk M K n a ((y,j)::b) (by simp only [aVs];omega) ha' hb
  have h2:=aFk M K n ((x,i)::a) b (by simp only [aVs];omega) ha hb'
  have h3:=aFk M K n a b (by omega) ha' hb'
  rw [sM]
  intro t ht
  split at ht
  ·rcases aV7.1 ht with rfl|ht
   ·dsimp only;omega
   ·exact h1 t ht
  ·split at ht
   ·rcases aV7.1 ht with rfl|ht
    ·dsimp only;omega
    ·exact h2 t ht
   ·rcases aV7.1 ht with rfl|ht
    ·dsimp only;omega
    ·exact h3 t ht
end Go.Vc
namespace Go.Proofs.Y
open Go Go.Vc Go.Dig
attribute [local irreducible] Vc.Fn FnP
theorem aDu (h:aA) (s1 s2:Sl) (a b:Mon) (w1:Rw h s1 2 (fcs a)) (w2:Rw h s2 2 (fcs b)) (ha:gY a) (hb:gY b) (hl:a.length+b.length≤1000000) (ea:∀t∈a,t.2≤1000∧t.1.length≤4000) (eb:∀t∈b,t.2≤1000∧t.1.length≤4000):
  Fn0 T F.q81 [s1.val,s2.val] h fun v h'=>∃s:Sl,v=s.val∧Rw h' s 2 (fcs (jn a b)):=by
 have hl1:s1.l=a.length:=by have:=w1.len;rw [bT] at this;omega
 have hl2:s2.l=b.length:=by have:=w2.len;rw [bT] at this;omega
 have hmg:=qB _ a b (aWf _) ha hb
 have hbd:=aFk 1000 4000 _ a b (aWf _) ea eb
 have hml:=yW _ a b (aWf _)
 have c1:=fun h s w=>vH h s (mgM a b) w hmg.1 (by omega) (fun t ht=>⟨by have:=(hbd t ht).1;omega,by have:=(hbd t ht).2;omega⟩)
 rw [aSg ha hb]
 obtain ⟨G,hG⟩:∃G,G=mgM a b:=⟨_,rfl⟩
 simp only [← hG] at c1 ⊢
 refine f0C ok D.q81 rfl ?_
 conv=>whnf
 repeat' first|((first|(show Mk _ _ _;first|refine Mk.of 0 rfl (by decide) (by decide) ?_|refine Mk.of (s1.l+s2.l) (by omega) (by omega) (by omega) ?_)|refine ⟨aWe _,fun bt=>?_⟩|((first|apply oI.z|apply cI.z))|refine WN.i64 (by omega) (by omega) ?_) <;> (conv=>whnf))
 refine LpN.of (fun r ρ hx L=>∃(i k:Nat) (out:Mon) (v:Value),r=a.length+b.length-(i+k)∧h.le hx∧i≤a.length∧k≤b.length∧rd ρ 6=.int .i64 i∧rd ρ 7=.int .i64 k∧rd ρ 5=v∧aD Ty.api_Factor 2 v out.length (fcs out) L∧out.length≤i+k∧Hq (G=out++mgM (a.drop i) (b.drop k))) (a.length+b.length)
  ⟨0,0,[],_,rfl,aA.lr _,aWe _,aWe _,rfl,rfl,rfl,aD.room rfl,aWf _,⟨hG⟩⟩ ?_
 clear hmg hbd hml hG
 conv=>whnf
 repeat intro _
 rename_i r h3 L3 hI
 obtain ⟨i,k,out,v,rfl,hle,hi,hk,e6,e7,e5,g,ho,⟨hq⟩⟩:=hI
 conv at e5=>lhs;whnf
 subst e5
 conv at e6=>lhs;whnf
 subst e6
 conv at e7=>lhs;whnf
 subst e7
 have wa:=w1.mono hle
 have wb:=w2.mono hle
 by_cases hend:i=a.length∧k=b.length
 ·rw [hend.1,hend.2,List.drop_length,List.drop_length,rF,aVy] at hq
  rw [← hq] at g
  conv=>whnf
  repeat' first|((first|(show CN _ _ _ _ _ _;(refine CN.growR (by decide) g rfl (fun h' s' L' hl e w=>?_);refine CN.f rfl (c1 _ _ w) (fun v h' hl hr=>?_);obtain ⟨s3,rfl,w3⟩:=hr))|((first|apply oI.z|apply cI.z))) <;> (conv=>whnf))|(apply aB<;>intro _<;>first|(exfalso;omega)|conv=>whnf)
  exact RN.a ⟨s3,rfl,w3⟩
 by_cases hkB:k=b.length
 ·obtain ⟨t,ht⟩:∃x,a[i]?=some x:=⟨_,aVq (by omega)⟩
  have hq2:G=(out++[t])++mgM (a.drop (i+1)) (b.drop k):=by rw [hq,hkB,List.drop_length,qA,qA,lK ht,aVt];rfl
  have et:=ea t (aVu ht)
  obtain ⟨x,m⟩:=t
  conv=>whnf
  repeat' first|((first|(show Idx _ _ _ _ _;refine Idx.facM wa i _ (by omega) ht (fun bk off k0 k1=>?_))|(show LdN _ _ _ _ _;(refine LdN.two (k0 _ _ (by first|assumption|exact aA.lr _)) (k1 _ _ (by first|assumption|exact aA.lr _)) ?_))|(show App _ _ _ _ _ _ _ _ _;refine App.growM (A:=[_]) (Fx:=L3) (size:=2) (bytes:=24) (z:=[.string ByteArray.empty,.int .i64 0]) rfl rfl g ⟨_,0,none⟩ 1 1 [_,_] rfl (Has.twoC _) rfl (by decide) (by omega) (by omega) (by decide) (fun v' F' g' hA=>?_))|((first|apply oI.z|apply cI.z))|intro (_:Nat)|refine WN.i64 (by omega) (by omega) ?_|refine DrN.run (by decide +kernel) ?_) <;> (conv=>whnf))|(show cnd _ _ _;first|(apply aB<;>intro _<;>first|(exfalso;omega)|conv=>whnf)|(apply aE<;>intro _<;>first|(exfalso;omega)|conv=>whnf))
  exact ⟨rfl,a.length+b.length-(i+1+k),by omega,i+1,k,out++[(x,m)],v',rfl,(by assumption),by omega,hk,vi (by omega),rfl,rfl,by rw [aVo];exact aD.fac m g' rfl,by rw [aVo];show _+1≤_;omega,⟨hq2⟩⟩
 by_cases hiA:i=a.length
 ·obtain ⟨t,ht⟩:∃x,b[k]?=some x:=⟨_,aVq (by omega)⟩
  have hq2:G=(out++[t])++mgM (a.drop i) (b.drop (k+1)):=by rw [hq,hiA,List.drop_length,rF,rF,lK ht,aVt];rfl
  have et:=eb t (aVu ht)
  obtain ⟨x,m⟩:=t
  conv=>whnf
  repeat' first|((first|(show Idx _ _ _ _ _;refine Idx.facM wb k _ (by omega) ht (fun bk off k0 k1=>?_))|(show LdN _ _ _ _ _;(refine LdN.two (k0 _ _ (by first|assumption|exact aA.lr _)) (k1 _ _ (by first|assumption|exact aA.lr _)) ?_))|(show App _ _ _ _ _ _ _ _ _;refine App.growM (A:=[_]) (Fx:=L3) (size:=2) (bytes:=24) (z:=[.string ByteArray.empty,.int .i64 0]) rfl rfl g ⟨_,0,none⟩ 1 1 [_,_] rfl (Has.twoC _) rfl (by decide) (by omega) (by omega) (by decide) (fun v' F' g' hA=>?_))|((first|apply oI.z|apply cI.z))|intro (_:Nat)|refine WN.i64 (by omega) (by omega) ?_|refine DrN.run (by decide +kernel) ?_) <;> (conv=>whnf))|(show cnd _ _ _;first|(apply aB<;>intro _<;>first|(exfalso;omega)|conv=>whnf)|(apply aE<;>intro _<;>first|(exfalso;omega)|conv=>whnf))
  exact ⟨rfl,a.length+b.length-(i+(k+1)),by omega,i,k+1,out++[(x,m)],v',rfl,(by assumption),hi,by omega,rfl,vi (by omega),rfl,by rw [aVo];exact aD.fac m g' rfl,by rw [aVo];show _+1≤_;omega,⟨hq2⟩⟩
 ·obtain ⟨t,ht⟩:∃x,a[i]?=some x:=⟨_,aVq (by omega)⟩
  obtain ⟨u,hu⟩:∃x,b[k]?=some x:=⟨_,aVq (by omega)⟩
  have et:=ea t (aVu ht)
  have eu:=eb u (aVu hu)
  rw [lK ht,lK hu] at hq
  obtain ⟨x,m⟩:=t
  obtain ⟨y,n⟩:=u
  rw [sM] at hq
  dsimp only at et eu
  conv=>whnf
  repeat' first|((first|(show DrN _ _ _ _ _ _;refine DrN.own [] (List.nil_sublist _) (by decide +kernel) ?_)|refine ⟨fun _=>⟨aH.o (aA.lr _),List.nil_sublist _⟩,?_⟩|((first|apply oI.z|apply cI.z))|intro (_:Nat)|(show Idx _ _ _ _ _;first|refine Idx.facM wa i _ (by omega) ht (fun bk off k0 k1=>?_)|refine Idx.facM wb k _ (by omega) hu (fun bk2 off2 m0 m1=>?_))|(show LdN _ _ _ _ _;first|(refine LdN.two (k0 _ _ (by first|assumption|exact aA.lr _)) (k1 _ _ (by first|assumption|exact aA.lr _)) ?_)|(refine LdN.two (m0 _ _ (by first|assumption|exact aA.lr _)) (m1 _ _ (by first|assumption|exact aA.lr _)) ?_))|(show Ld _ _ _ _;first|(refine Ld.of (k0 _ _ (by first|assumption|exact aA.lr _)) ?_)|(refine Ld.of (m0 _ _ (by first|assumption|exact aA.lr _)) ?_)|(refine Ld.of (k1 _ _ (by first|assumption|exact aA.lr _)) ?_)|(refine Ld.of (m1 _ _ (by first|assumption|exact aA.lr _)) ?_))|(show App _ _ _ _ _ _ _ _ _;refine App.growM (A:=[_]) (Fx:=L3) (size:=2) (bytes:=24) (z:=[.string ByteArray.empty,.int .i64 0]) rfl rfl g ⟨_,0,none⟩ 1 1 [_,_] rfl (Has.twoC _) rfl (by decide) (by omega) (by omega) (by decide) (fun v' F' g' hA=>?_))|refine WN.i64 (by omega) (by omega) ?_) <;> (conv=>whnf))|(show cnd _ _ _;first|(refine yS (fun hlt=>?_) (fun hlt=>?_) <;> (conv=>whnf))|(apply aB<;>intro _<;>first|(exfalso;omega)|conv=>whnf)|(apply aE<;>intro _<;>first|(exfalso;omega)|conv=>whnf))
  ·have hq2:G=(out++[(x,m)])++mgM (a.drop (i+1)) (b.drop k):=by rw [hq,if_pos (show x<y from hlt),lK hu,aVt];rfl
   exact ⟨rfl,a.length+b.length-(i+1+k),by omega,i+1,k,out++[(x,m)],v',rfl,(by assumption),by omega,hk,vi (by omega),rfl,rfl,by rw [aVo];exact aD.fac m g' rfl,by rw [aVo];show _+1≤_;omega,⟨hq2⟩⟩
  ·have hq2:G=(out++[(y,n)])++mgM (a.drop i) (b.drop (k+1)):=by rw [hq,if_neg (show ¬x<y by assumption),if_pos (show y<x by assumption),lK ht,aVt];rfl
   exact ⟨rfl,a.length+b.length-(i+(k+1)),by omega,i,k+1,out++[(y,n)],v',rfl,(by assumption),hi,by omega,rfl,vi (by omega),rfl,by rw [aVo];exact aD.fac n g' rfl,by rw [aVo];show _+1≤_;omega,⟨hq2⟩⟩
  ·have hq2:G=(out++[(x,m+n)])++mgM (a.drop (i+1)) (b.drop (k+1)):=by rw [hq,if_neg (show ¬x<y by assumption),if_neg (show ¬y<x by assumption),aVt];rfl
   exact ⟨rfl,a.length+b.length-(i+1+(k+1)),by omega,i+1,k+1,out++[(x,m+n)],v',rfl,(by assumption),by omega,by omega,vi (by omega),vi (by omega),rfl,by rw [aVo];exact aD.fac (m+n) g' (by show (m:Int)+(n:Int)=_;omega),by rw [aVo];show _+1≤_;omega,⟨hq2⟩⟩
end Go.Proofs.Y
/- The document's limits; constants, atoms. -/
namespace Go.Vc
open Go Go.Dig
theorem eJ.len {K:aA→El→Prop} {h:aA} {s:Sl} {p:List (Mon × Rat)} (w:eJ K h s p):s.l=p.length:=by
 obtain ⟨l,rfl,h2,-⟩:=w
 have:=h2.len
 rw [aV] at this
 rw [aWb];omega
end Go.Vc
namespace Go.Proofs.Y
open Go Go.Vc Go.Dig
def wiN (p:Pol):Nat:=if zG p then 4 else if zH p then 1 else 0
attribute [local irreducible] Vc.Fn FnP
theorem uR (h:aA) (s:Sl) (p:Pol) (w:eJ QmS h s p) (hb:p.length≤40400):Fn0 T F.q79 [s.val] h fun v h'=>v=.int .i64 (wiN p:Nat):=by
 have hl:=w.len
 obtain ⟨l,hp,rw,qw⟩:=w
 have hpl:p.length=l.length:=by rw [← hp,aWb]
 have k1:=aFh hp
 have k2:=aFi hp
 obtain ⟨W,hW⟩:∃W,W=wiN p:=⟨_,rfl⟩
 have j1:200<l.length→W=4:=fun x=>hW.trans (if_pos (k1.2 (.inl x)))
 have j2:qN l=true→W=4:=fun x=>hW.trans (if_pos (k1.2 (.inr x)))
 have j3:¬200<l.length→qN l=false→rX l=true→W=1:=fun x y z=>hW.trans ((if_neg fun c=>(k1.1 c).elim x fun c=>by rw [y] at c;cases c).trans (if_pos (k2.2 z)))
 have j4:¬200<l.length→qN l=false→rX l=false→W=0:=fun x y z=>hW.trans ((if_neg fun c=>(k1.1 c).elim x fun c=>by rw [y] at c;cases c).trans (if_neg fun c=>by rw [k2.1 c] at z;cases z))
 rw [← hW]
 clear k1 k2 hW hp
 by_cases h200:200<l.length
 ·have j:=j1 h200
  refine f0C ok D.q79 rfl ?_
  conv=>whnf
  repeat' first|((first|((first|apply oI.z|apply cI.z))) <;> (conv=>whnf))|(apply aB<;>intro _<;>first|(exfalso;omega)|conv=>whnf)
  exact RN.a (by rw [j];rfl)
 refine f0C ok D.q79 rfl ?_
 conv=>whnf
 repeat' first|((first|((first|apply oI.z|apply cI.z))) <;> (conv=>whnf))|(apply aB<;>intro _<;>first|(exfalso;omega)|conv=>whnf)
 refine LpN.of (fun r ρ hx L=>∃(i:Nat),r=l.length-i∧h.le hx∧L=[]∧i≤l.length∧rd ρ 3=.int .i64 i∧Hq (qN (l.take i)=false)) l.length
  ⟨0,rfl,aA.lr _,rfl,aWe _,rfl,⟨rfl⟩⟩ ?_
 conv=>whnf
 repeat intro _
 rename_i q2 h2 L2 hI
 obtain ⟨i,rfl,hle,rfl,hi,e3,⟨hB⟩⟩:=hI
 conv at e3=>lhs;whnf
 subst e3
 have rw2:=rw.mono hle
 by_cases hil:i=l.length
 ·rw [hil,aV4] at hB
  conv=>whnf
  repeat' first|((first|((first|apply oI.z|apply cI.z))) <;> (conv=>whnf))|(apply aB<;>intro _<;>first|(exfalso;omega)|conv=>whnf)
  refine LpN.of (fun r ρ hx L=>∃(i:Nat),r=l.length-i∧h2.le hx∧L=[]∧i≤l.length∧rd ρ 5=.int .i64 i∧Hq (rX (l.take i)=false)) l.length
   ⟨0,rfl,aA.lr _,rfl,aWe _,rfl,⟨rfl⟩⟩ ?_
  conv=>whnf
  repeat intro _
  rename_i q3 h3 L3 hI
  obtain ⟨k,rfl,hle3,rfl,hk,e5,⟨hC⟩⟩:=hI
  conv at e5=>lhs;whnf
  subst e5
  have rw3:=rw2.mono hle3
  by_cases hkl:k=l.length
  ·rw [hkl,aV4] at hC
   have j:=j4 h200 hB hC
   conv=>whnf
   repeat' first|((first|((first|apply oI.z|apply cI.z))) <;> (conv=>whnf))|(apply aB<;>intro _<;>first|(exfalso;omega)|conv=>whnf)
   exact RN.a (by rw [j];rfl)
  ·obtain ⟨x,hx⟩:∃t,l[k]?=some t:=⟨_,aVq (by omega)⟩
   have hxm:=aVu hx
   have hxw:=qw x hxm
   have hsn:=wS hx
   have hbig:¬cK x.q→rX l=true:=fun c=>by
    unfold rX
    rw [List.any_eq_true]
    exact ⟨x,hxm,by rw [show dec (cK x.q)=false from aK c];rfl⟩
   obtain ⟨xn,xa,xd,xf,xm,xq⟩:=x
   obtain rfl:xn=sg xq:=hxw.m.sg
   dsimp only at hsn hbig
   have c1:=fun h w=>aIq h xa xd xq w (hxw.z.mono (by decide))
   have wq:=(hxw.m.q.mono hle).mono hle3
   rw [hC,Bool.false_or] at hsn
   conv=>whnf
   repeat' first|((first|(show Idx _ _ _ _ _;refine Idx.el rw3 k _ (by omega) hx (fun ab ao aw=>?_))|(show LdN _ _ _ _ _;(refine LdN.elq aw (by first|assumption|exact aA.lr _) ?_))|(show CN _ _ _ _ _ _;(refine CN.quiet rfl (c1 _ (wq.mono (by first|assumption|exact aA.lr _))) ?_))|((first|apply oI.z|apply cI.z))|refine WN.i64 (by omega) (by omega) ?_) <;> (conv=>whnf))|(show cnd _ _ _;first|(apply aB<;>intro _<;>first|(exfalso;omega)|conv=>whnf)|(refine aI ?_)|(apply bJ<;>intro _<;>first|(exfalso;omega)|conv=>whnf))
   all_goals first
    | exact ⟨rfl,l.length-(k+1),by omega,k+1,rfl,(by assumption),rfl,by omega,vi (by omega),⟨by rw [hsn,show dec (cK xq)=true from cF (by assumption)];rfl⟩⟩
    | (have j:=j3 h200 hB (hbig (by assumption))
       exact RN.a (by rw [j];rfl))
 ·obtain ⟨x,hx⟩:∃t,l[i]?=some t:=⟨_,aVq (by omega)⟩
  have hxm:=aVu hx
  have hxw:=qw x hxm
  have hsn:=wT hx
  have hlim:oV x.m=true→qN l=true:=fun c=>by
   unfold qN
   rw [List.any_eq_true]
   exact ⟨x,hxm,c⟩
  have xfw:=hxw.m.fac.rw.mono hle
  have xfl:=hxw.m.fac.len
  have hxf:x.f.l=x.m.length:=by have:=xfw.len;rw [bT] at this;omega
  rw [hB,Bool.false_or] at hsn
  conv=>whnf
  repeat' first|((first|((first|apply oI.z|apply cI.z))) <;> (conv=>whnf))|(apply aB<;>intro _<;>first|(exfalso;omega)|conv=>whnf)
  refine LpN.of (fun r ρ hx L=>∃(k:Nat),r=x.m.length-k∧h2.le hx∧L=[]∧k≤x.m.length∧rd ρ 4=.int .i64 k∧Hq (oV (x.m.take k)=false)) x.m.length
   ⟨0,rfl,aA.lr _,rfl,aWe _,rfl,⟨rfl⟩⟩ ?_
  conv=>whnf
  repeat intro _
  rename_i q3 h3 L3 hI
  obtain ⟨k,rfl,hle3,rfl,hk,e4,⟨hC⟩⟩:=hI
  conv at e4=>lhs;whnf
  subst e4
  have rw3:=rw2.mono hle3
  have xf3:=xfw.mono hle3
  by_cases hkl:k=x.m.length
  ·rw [hkl,aV4] at hC
   rw [hC] at hsn
   conv=>whnf
   repeat' first|((first|(show Idx _ _ _ _ _;refine Idx.el rw3 i _ (by omega) hx (fun ab ao aw=>?_))|(show Ld _ _ _ _;(refine Ld.elf aw (by first|assumption|exact aA.lr _) ?_))|((first|apply oI.z|apply cI.z))|refine WN.i64 (by omega) (by omega) ?_) <;> (conv=>whnf))|(apply aB<;>intro _<;>first|(exfalso;omega)|conv=>whnf)
   all_goals trace_state
   all_goals exact ⟨rfl,l.length-(i+1),by omega,i+1,rfl,(by (iterate 30 try first|assumption|refine aA.lt ?_ (by assumption));first|done|assumption),rfl,by omega,vi (by omega),⟨hsn⟩⟩
  ·obtain ⟨t,ht⟩:∃t,x.m[k]?=some t:=⟨_,aVq (by omega)⟩
   have hsm:=rJ ht
   rw [hC,Bool.false_or] at hsm
   have h64:64<t.2→oV x.m=true:=fun c=>uN.2 ⟨t,aVu ht,c⟩
   conv=>whnf
   repeat' first|((first|(show Idx _ _ _ _ _;first|refine Idx.el rw3 i _ (by omega) hx (fun ab ao aw=>?_)|refine Idx.facM xf3 k _ (by omega) ht (fun bk off k0 k1=>?_))|(show Ld _ _ _ _;first|(refine Ld.elf aw (by first|assumption|exact aA.lr _) ?_)|(refine Ld.of (k1 _ _ (by first|assumption|exact aA.lr _)) ?_))|((first|apply oI.z|apply cI.z))|refine WN.i64 (by omega) (by omega) ?_) <;> (conv=>whnf))|(apply aB<;>intro _<;>first|(exfalso;omega)|conv=>whnf)
   all_goals trace_state
   all_goals first
    | exact ⟨rfl,x.m.length-(k+1),by omega,k+1,rfl,(by assumption),rfl,by omega,vi (by omega),⟨by rw [hsm,decide_eq_false (by omega)]⟩⟩
    | (have j:=j2 (hlim (h64 (by omega)))
       exact RN.a (by rw [j];rfl))
end Go.Proofs.Y
/- Products and sums of forms, as the document forms them. -/
namespace Go.Dig
theorem aB2 (l:List (Mon × Rat)):(bU l).length≤l.length:=by
 have h1:∀(k:Mon) (v:Rat) (q:List (Mon × Rat)),(iR k v q).length≤q.length+1:=by
  intro k v q
  induction q with
  | nil=>simp [iR]
  | cons t q ih=>
   obtain ⟨n,d⟩:=t
   unfold iR
   split
   ·simp
   ·split
    ·simp
    ·simp only [aVs];omega
 have h2:∀q:List (Mon × Rat),(mH q).length≤q.length:=by
  intro q
  induction q with
  | nil=>simp [mH]
  | cons t q ih=>
   show (iR t.1 t.2 (mH q)).length≤_
   have:=h1 t.1 t.2 (mH q)
   rw [aVs];omega
 unfold bU
 exact aWd (List.length_filter_le ..) (h2 _)
end Go.Dig
namespace Go.Proofs.Y
open Go Go.Vc Go.Dig
theorem iT {q:Rat} (h:cK q):Sr 128 q:=⟨((aCx q).1 h).1,((aCx q).1 h).2⟩
def RFo (h:aA) (v:Value) (r:Except Nat Pol):Prop:=∃(s:Sl) (e:Nat),v=.tuple #[s.val,.int .i64 e]∧((e=0∧∃p,r=.ok p∧eJ QmS h s p)∨(e≠0∧r=.error e))
theorem aLz {h:aA} {s:Sl} {l p:Pol} {r:Except Nat Pol} (hr:bH l=r) (hp:p=bU l) (w:eJ QmS h s p):RFo h (.tuple #[s.val,.int .i64 (wiN p:Nat)]) r:=by
 refine ⟨s,wiN p,rfl,?_⟩
 subst hr
 unfold bH wiN
 rw [← hp]
 by_cases h1:zG p
 ·rw [if_pos h1,if_pos h1];exact .inr ⟨by decide,rfl⟩
 ·rw [if_neg h1,if_neg h1]
  by_cases h2:zH p
  ·rw [if_pos h2,if_pos h2];exact .inr ⟨by decide,rfl⟩
  ·rw [if_neg h2,if_neg h2];exact .inl ⟨rfl,p,rfl,w⟩
theorem dW {h:aA} {r:Except Nat Pol} {n:Nat} (h0:n≠0) (e:r=.error n):RFo h (.tuple #[.slice none 0 0,.int .i64 n]) r:=⟨⟨none,0,0⟩,n,rfl,.inr ⟨h0,e⟩⟩
attribute [local irreducible] Vc.Fn FnP
theorem rL (h:aA) (S:List (List UInt8)) (hS:S.length≤100000) (hSo:Sok S) (s1 s2:Sl) (a b:Pol) (w1:eJ QmS h s1 a) (w2:eJ QmS h s2 b) (g1:PG S a) (g2:PG S b):Fn0 T F.q44 [s1.val,s2.val] h fun v h'=>RFo h' v (bH (tmL a b)):=by
 have pl1:=g1.len
 have pl2:=g2.len
 have pk1:=g1.key
 have pk2:=g2.key
 obtain ⟨l1,e1,r1,t1⟩:=w1
 obtain ⟨l2,e2,r2,t2⟩:=w2
 have hl1:l1.length≤200:=by have:=g1.good.len;rw [← e1,aWb] at this;exact this
 have hl2:l2.length≤200:=by have:=g2.good.len;rw [← e2,aWb] at this;exact this
 have mm1:∀x∈l1,pq x∈a:=fun x hx=>by rw [← e1];exact List.mem_map_of_mem hx
 have mm2:∀x∈l2,pq x∈b:=fun x hx=>by rw [← e2];exact List.mem_map_of_mem hx
 have z1:∀x∈l1,Sr 128 x.q:=fun x hx=>iT (g1.good.fit (pq x) (mm1 x hx))
 have z2:∀x∈l2,Sr 128 x.q:=fun x hx=>iT (g2.good.fit (pq x) (mm2 x hx))
 have o1:∀x∈l1,gY x.m:=fun x hx=>(g1.good.red (pq x) (mm1 x hx)).1.1
 have o2:∀x∈l2,gY x.m:=fun x hx=>(g2.good.red (pq x) (mm2 x hx)).1.1
 have hs1:s1.l=l1.length:=by have:=r1.len;rw [aV] at this;omega
 have hs2:s2.l=l2.length:=by have:=r2.len;rw [aV] at this;omega
 have hj1:∀x∈l1,x.m.length≤100000∧∀t∈x.m,t.2≤1000∧t.1.length≤4000:=fun x hx=>by
  have a1:=pl1 _ (mm1 x hx)
  dsimp only [pq] at a1
  exact ⟨by omega,fun t ht=>⟨aWd (g1.good.deg _ (mm1 x hx) t ht) (by decide),hSo _ (pk1 _ (mm1 x hx) t ht)⟩⟩
 have hj2:∀x∈l2,x.m.length≤100000∧∀t∈x.m,t.2≤1000∧t.1.length≤4000:=fun x hx=>by
  have a1:=pl2 _ (mm2 x hx)
  dsimp only [pq] at a1
  exact ⟨by omega,fun t ht=>⟨aWd (g2.good.deg _ (mm2 x hx) t ht) (by decide),hSo _ (pk2 _ (mm2 x hx) t ht)⟩⟩
 have hprod:l1.length*l2.length≤40000:=Nat.mul_le_mul hl1 hl2
 obtain ⟨r,hr⟩:∃r,r=bH (tmL a b):=⟨_,rfl⟩
 rw [← hr]
 clear pl1 pl2 pk1 pk2 mm1 mm2 g1 g2 hSo hS
 have hcap:s1.l*s2.l≤40000:=by rw [hs1,hs2];exact hprod
 obtain ⟨C,hC⟩:∃C,C=s1.l*s2.l:=⟨_,rfl⟩
 have hCi:(s1.l:Int)*(s2.l:Int)=(C:Int):=by rw [hC];push_cast;rfl
 rw [← hC] at hcap
 refine f0C ok D.q44 rfl ?_
 conv=>whnf
 repeat' first|((first|(show WN _ _ _;(show WN IntKind.i64 ((s1.l:Int)*(s2.l:Int)) _;rw [hCi];refine WN.i64 (by omega) (by omega) ?_))|(show Mk _ _ _;first|refine Mk.of 0 rfl (by decide) (by decide) ?_|refine Mk.of C rfl (by omega) (by omega) ?_)|refine ⟨aWe _,fun bt=>?_⟩|((first|apply oI.z|apply cI.z))) <;> (conv=>whnf))
 refine LpN.of (fun r ρ hx L=>∃(i:Nat) (M:List El) (v:Value),r=l1.length-i∧h.le hx∧i≤l1.length∧rd ρ 7=.int .i64 i∧rd ρ 6=v∧aD Ty.ref04_term 4 v M.length (fl M) L∧M.length=i*l2.length∧Hq (M.map pq=tmL ((l1.take i).map pq) b)∧Hq (∀x∈M,QmW hx x∧Sr 260 x.q)) l1.length
  ⟨0,[],_,rfl,aA.lr _,aWe _,rfl,rfl,aD.room rfl,(Nat.zero_mul _).symm,⟨rfl⟩,⟨fun x hx=>by cases hx⟩⟩ ?_
 conv=>whnf
 repeat intro _
 rename_i q2 h2 L2 hI
 obtain ⟨i,M,v,rfl,hle,hi,e7,e6,g,hM,⟨hq⟩,⟨hw⟩⟩:=hI
 conv at e6=>lhs;whnf
 subst e6
 conv at e7=>lhs;whnf
 subst e7
 have r1x:=r1.mono hle
 have hML:M.length≤40000:=by rw [hM];exact aWd (aV8 _ hi) hprod
 by_cases hil:i=l1.length
 ·have hr2:bH (M.map pq)=r:=by rw [hr,hq,hil,aV4,e1]
  have c5:=fun h s w fw=>uQ h s M w (by omega) fw
  have c6:=fun h s w=>uR h s (bU (M.map pq)) w
  obtain ⟨P,hP⟩:∃P,P=bU (M.map pq):=⟨_,rfl⟩
  simp only [← hP] at c5 c6
  have hPl:P.length≤40400:=by rw [hP];exact aWd (aB2 _) (by rw [aWb];omega)
  obtain ⟨N1,hN1⟩:∃N1,N1=l1.length:=⟨_,rfl⟩
  rw [← hN1] at hil hs1 ⊢
  conv=>whnf
  repeat' first|((first|(show CN _ _ _ _ _ _;first|(refine CN.growR (by decide) g rfl (fun h' s' L' hl e w=>?_);refine CN.f rfl (c5 _ _ w (fun x hx=>⟨UpE.up (by assumption) (hw x hx).1,(hw x hx).2⟩)) (fun v h' hl hr=>?_);obtain ⟨s3,rfl,w3⟩:=hr)|(refine CN.f rfl (c6 _ _ (w3.mono (by first|assumption|exact aA.lr _)) hPl) (fun v h' hl hr=>?_);subst hr))|((first|apply oI.z|apply cI.z))) <;> (conv=>whnf))|(apply aB<;>intro _<;>first|(exfalso;omega)|conv=>whnf)
  exact RN.a (R:=fun v h'=>RFo h' v r) (aLz hr2 hP (w3.mono (by assumption)))
 ·obtain ⟨x,hx⟩:∃t,l1[i]?=some t:=⟨_,aVq (by omega)⟩
  have hxm:=aVu hx
  have wx:=(t1 x hxm).m.mono hle
  have zx:=z1 x hxm
  have hjx:=hj1 x hxm
  have ox:=o1 x hxm
  have hsn:=aZ hx
  have htm:tmL ((l1.take (i+1)).map pq) b=tmL ((l1.take i).map pq) b++b.map fun y=>(jn x.m y.1,x.q*y.2):=by
   rw [hsn,aV3]
   unfold tmL
   rw [List.flatMap_append]
   congr 1
   show (b.map fun y=>(jn x.m y.1,x.q*y.2))++[]=_
   rw [aVy]
  obtain ⟨xn,xa,xd,xf,xm,xq⟩:=x
  obtain rfl:xn=sg xq:=wx.sg
  dsimp only at htm zx hjx ox
  conv=>whnf
  repeat' first|((first|((first|apply oI.z|apply cI.z))) <;> (conv=>whnf))|(apply aB<;>intro _<;>first|(exfalso;omega)|conv=>whnf)
  refine LpN.of (fun r ρ hx L=>∃(k:Nat) (M2:List El) (v:Value),r=l2.length-k∧h2.le hx∧k≤l2.length∧rd ρ 8=.int .i64 k∧rd ρ 6=v∧aD Ty.ref04_term 4 v (M.length+k) (fl (M++M2)) L∧M2.length=k∧Hq (M2.map pq=((l2.take k).map pq).map fun y=>(jn xm y.1,xq*y.2))∧Hq (∀x∈M++M2,QmW hx x∧Sr 260 x.q)) l2.length
   ⟨0,[],_,rfl,aA.lr _,aWe _,rfl,rfl,by rw [aVy];exact g,rfl,⟨rfl⟩,⟨fun x hx=>by rw [aVy] at hx;exact hw x hx⟩⟩ ?_
  clear g hw
  conv=>whnf
  repeat intro _
  rename_i q4 h4 L4 hI
  obtain ⟨k,M2,v,rfl,hle4,hk,e8,e6,g,hM2,⟨hq2⟩,⟨hw⟩⟩:=hI
  conv at e6=>lhs;whnf
  subst e6
  conv at e8=>lhs;whnf
  subst e8
  have r1y:=r1x.mono hle4
  have r2y:=(r2.mono hle).mono hle4
  by_cases hkl:k=l2.length
  ·have hq3:(M++M2).map pq=tmL ((l1.take (i+1)).map pq) b:=by rw [htm,aV3,hq,hq2,hkl,aV4,e2]
   have hM3:(M++M2).length=(i+1)*l2.length:=by rw [aVo,hM,hM2,hkl,Nat.add_mul,Nat.one_mul]
   have g3:=g
   rw [← hM2,← aVo] at g3
   obtain ⟨N2,hN2⟩:∃N2,N2=l2.length:=⟨_,rfl⟩
   obtain ⟨N1,hN1⟩:∃N1,N1=l1.length:=⟨_,rfl⟩
   rw [← hN2] at hkl hs2 hM3 ⊢
   rw [← hN1] at hi hil ⊢
   conv=>whnf
   repeat' first|((first|((first|apply oI.z|apply cI.z))|refine WN.i64 (by omega) (by omega) ?_) <;> (conv=>whnf))|(apply aB<;>intro _<;>first|(exfalso;omega)|conv=>whnf)
   exact ⟨rfl,N1-(i+1),by omega,i+1,M++M2,_,rfl,(by (iterate 30 try first|assumption|refine aA.lt ?_ (by assumption));first|done|assumption),by omega,vi (by omega),rfl,g3,hM3,⟨hq3⟩,⟨hw⟩⟩
  ·obtain ⟨y,hy⟩:∃t,l2[k]?=some t:=⟨_,aVq (by omega)⟩
   have hym:=aVu hy
   have wy:=((t2 y hym).m.mono hle).mono hle4
   have zy:=z2 y hym
   have hjy:=hj2 y hym
   have oy:=o2 y hym
   have hsn2:=aZ hy
   have hM2L:M.length+k≤40200:=by omega
   obtain ⟨yn,ya,yd,yf,ym,yq⟩:=y
   obtain rfl:yn=sg yq:=wy.sg
   dsimp only at hjy zy oy
   have c3:=fun h w1 w2=>aEg h xa xd ya yd xq yq w1 w2 (zx.mono (by decide)) (zy.mono (by decide))
   have c4:=fun h w1 w2=>aDu h xf yf xm ym w1 w2 ox oy (by omega) hjx.2 hjy.2
   have wx4:=wx.mono hle4
   have wxq:=wx4.q
   have wyq:=wy.q
   have wxf:=wx4.fac.rw
   have wyf:=wy.fac.rw
   have hjl:(jn xm ym).length≤1099511627776:=aWd (aLd _ _) (by omega)
   obtain ⟨J,hJ⟩:∃J,J=jn xm ym:=⟨_,rfl⟩
   simp only [← hJ] at c4
   rw [← hJ] at hjl
   conv=>whnf
   repeat' first|((first|(show Idx _ _ _ _ _;first|refine Idx.el r1y i _ (by omega) hx (fun ab ao aw=>?_)|refine Idx.el r2y k _ (by omega) hy (fun bb bo bw=>?_))|(show LdN _ _ _ _ _;first|(refine LdN.elq aw (by first|assumption|exact aA.lr _) ?_)|(refine LdN.elq bw (by first|assumption|exact aA.lr _) ?_)|refine LdN.oA 0 rfl rfl ?_)|(show Ld _ _ _ _;first|(refine Ld.elf aw (by first|assumption|exact aA.lr _) ?_)|(refine Ld.elf bw (by first|assumption|exact aA.lr _) ?_))|(show CN _ _ _ _ _ _;first|(refine CN.f rfl (c3 _ (wxq.mono (by first|assumption|exact aA.lr _)) (wyq.mono (by first|assumption|exact aA.lr _))) (fun v h' hl hr'=>?_);obtain ⟨m1,m2,rfl,hm'⟩:=hr')|(refine CN.f rfl (c4 _ (wxf.mono (by assumption)) (wyf.mono (by assumption))) (fun v h' hl hr'=>?_);obtain ⟨sj,rfl,hj'⟩:=hr'))|(show App _ _ _ _ _ _ _ _ _;refine App.growM (A:=[_,_]) (Fx:=L4) (size:=4) (bytes:=80) (z:=[.bool false,.slice none 0 0,.slice none 0 0,.slice none 0 0]) rfl rfl g ⟨_,0,none⟩ 1 1 [_,_,_,_] rfl (Has.four _) rfl (by decide) (by omega) (by omega) (by decide) (fun v' F' g' hA=>?_))|((first|apply oI.z|apply cI.z))|refine ⟨fun _=>aH.o (by assumption),?_⟩|refine ⟨fun _=>aH.cons _,?_⟩|refine ⟨fun hst=>(by cases (show true=false from hst)),?_⟩|intro (_:Nat)|refine WN.i64 (by omega) (by omega) ?_|refine Sto.l 0 rfl rfl rfl ?_|refine DrN.run (by decide +kernel) ?_) <;> (conv=>whnf))|(apply aB<;>intro _<;>first|(exfalso;omega)|conv=>whnf)|(refine oX.mk ?_ ?_ <;> (conv=>whnf))
   all_goals (
     have hMx:(M2++[(⟨sg (xq*yq),m1,m2,sj,J,xq*yq⟩:El)]).map pq=((l2.take (k+1)).map pq).map fun y=>(jn xm y.1,xq*y.2):=by
       rw [aV3,hq2,hsn2,aV3,aV3,hJ];rfl
     exact ⟨rfl,l2.length-(k+1),by omega,k+1,M2++[⟨sg (xq*yq),m1,m2,sj,J,xq*yq⟩],v',rfl,(by (iterate 30 try first|assumption|refine aA.lt ?_ (by assumption));first|done|assumption),by omega,vi (by omega),rfl,by rw [← aVt];exact aD.el (x:=⟨sg (xq*yq),m1,m2,sj,J,xq*yq⟩) g',by rw [aVo,hM2];rfl,⟨hMx⟩,⟨fun x hx=>by
       rw [← aVt] at hx
       rcases aVx.1 hx with hx|hx
       ·exact ⟨UpE.up (by (iterate 30 try first|assumption|refine aA.lt ?_ (by assumption));first|done|assumption) (hw x hx).1,(hw x hx).2⟩
       ·rw [aV2] at hx;subst hx;exact ⟨⟨hm'.mono (by assumption),rfl,⟨hj'.mono (by first|assumption|exact aA.lr _),hjl⟩⟩,(Sr.mulS zx zy).mono (by decide)⟩⟩⟩)
end Go.Proofs.Y
/- Sums of forms, as the document forms them; constants, atoms. -/
namespace Go.Vc
open Go Go.Dig
theorem App.rowE {T:Tab} {e:TypeId} {size bytes:Nat} {s:Value} {h:aA} {L:Vc.Own} {k:Value→aA→Vc.Own→Prop} {z xs cs:List Value} {n:Nat} {t:Sl} (hi:T.inf e=some (z,bytes)) (hz:z.length=size) (hsz:0<size) (g:aD e size s n xs L) (w:Rw h t size cs) (hone:cs.all eK=true) (hn:n+t.l≤1048576) (hby:bytes≤256)
  (hk:∀v' L',aD e size v' (n+t.l) (xs++cs) L'→k v' h L'):App T e size bytes s t.val h L k:=by
 obtain ⟨ta,tl,tc⟩:=t
 cases ta with
 | none=>
  have hc:cs=[]:=Classical.byContradiction fun hne=>by
   obtain ⟨b',off,c,T',fz,h1,h2,h3⟩:=w.mem hne
   cases h1
  subst hc
  have hl:tl*size=0:=w.len
  have h0:tl=0:=by
   rcases Nat.mul_eq_zero.1 hl with h|h
   ·exact h
   ·omega
  subst h0
  exact App.nil hi g (hk s L (by rw [aVy];exact g))
 | some ad=>
  refine App.grow hi hz g ad tl tc cs w.len.symm (fun j hj=>?_) hone ?_ ?_ hsz fun v' L' g' _=>hk v' L' g'
  ·obtain ⟨b',off,c,T',fz,h1,h2,h3⟩:=w.mem (fun x=>by rw [x] at hj;simp at hj)
   cases h1
   rw [bD]
   refine Has.imm h2 ?_
   rw [h3 j hj,aVp,aVq hj];rfl
  ·have:n+tl≤1048576:=hn
   omega
  ·have:n+tl≤1048576:=hn
   calc (n+tl)*bytes≤1048576*256:=Nat.mul_le_mul (by omega) hby
    _≤_:=by decide
end Go.Vc
namespace Go.Proofs.Y
open Go Go.Vc Go.Dig
attribute [local irreducible] Vc.Fn FnP
theorem uS (h:aA) (s1 s2:Sl) (a b:Pol) (k:Int) (hk:k=1∨k=-1) (w1:eJ QmS h s1 a) (w2:eJ QmS h s2 b) (g1:gW a) (g2:gW b):Fn0 T F.q42 [s1.val,s2.val,.int .i64 k] h fun v h'=>RFo h' v (bH (plL a b (k:Rat))):=by
 obtain ⟨l1,e1,r1,t1⟩:=w1
 obtain ⟨l2,e2,r2,t2⟩:=w2
 have hl1:l1.length≤200:=by have:=g1.len;rw [← e1,aWb] at this;exact this
 have hl2:l2.length≤200:=by have:=g2.len;rw [← e2,aWb] at this;exact this
 have z1:∀x∈l1,Sr 128 x.q:=fun x hx=>iT (g1.fit (pq x) (by rw [← e1];exact List.mem_map_of_mem hx))
 have z2:∀x∈l2,Sr 128 x.q:=fun x hx=>iT (g2.fit (pq x) (by rw [← e2];exact List.mem_map_of_mem hx))
 have hs1:s1.l=l1.length:=by have:=r1.len;rw [aV] at this;omega
 have hs2:s2.l=l2.length:=by have:=r2.len;rw [aV] at this;omega
 have zk:Sr 128 (k:Rat):=iT ⟨(aDt hk).num,(aDt hk).den⟩
 have hkb:-9223372036854775808≤k∧k≤9223372036854775807:=by omega
 obtain ⟨r,hr⟩:∃r,r=bH (plL a b (k:Rat)):=⟨_,rfl⟩
 rw [← hr]
 obtain ⟨K,hK⟩:∃K:Rat,K=(k:Rat):=⟨_,rfl⟩
 have c2:=fun h=>pJ h k hkb.1 hkb.2
 rw [← hK] at hr zk
 simp only [← hK] at c2
 refine f0C ok D.q42 rfl ?_
 conv=>whnf
 repeat' first|((first|(show Mk _ _ _;first|refine Mk.of 0 rfl (by decide) (by decide) ?_|refine Mk.of (s1.l+s2.l) (by omega) (by omega) (by omega) ?_)|refine ⟨aWe _,fun bt=>?_⟩|((first|apply oI.z|apply cI.z))|(show App _ _ _ _ _ _ _ _ _;refine App.rowE (size:=4) (bytes:=80) (z:=[.bool false,.slice none 0 0,.slice none 0 0,.slice none 0 0]) (cs:=fl l1) rfl rfl (by decide) (aD.room rfl) r1 (aLk _) (by omega) (by decide) (fun v' L' g=>?_))|refine WN.i64 (by omega) (by omega) ?_) <;> (conv=>whnf))
 rw [aWc,hs1,List.nil_append] at g
 refine LpN.of (fun r ρ hx L=>∃(i:Nat) (M:List El) (v:Value),r=l2.length-i∧h.le hx∧i≤l2.length∧rd ρ 9=.int .i64 i∧rd ρ 8=v∧aD Ty.ref04_term 4 v (l1.length+i) (fl (l1++M)) L∧M.length=i∧Hq (M.map pq=((l2.take i).map pq).map fun t=>(t.1,t.2*K))∧Hq (∀x∈l1++M,QmW hx x∧Sr 260 x.q)) l2.length
  ⟨0,[],_,rfl,aA.lr _,aWe _,rfl,rfl,by rw [aVy];exact g,rfl,⟨rfl⟩,⟨fun x hx=>by rw [aVy] at hx;exact ⟨(t1 x hx).m,(z1 x hx).mono (by decide)⟩⟩⟩ ?_
 clear g
 conv=>whnf
 repeat intro _
 rename_i q2 h2 L2 hI
 obtain ⟨i,M,v,rfl,hle,hi,e9,e8,g,hM,⟨hq⟩,⟨hw⟩⟩:=hI
 conv at e8=>lhs;whnf
 subst e8
 conv at e9=>lhs;whnf
 subst e9
 have r2x:=r2.mono hle
 by_cases hil:i=l2.length
 ·have hr2:bH ((l1++M).map pq)=r:=by
   rw [hr,aV3,hq,hil,aV4,e1,e2];rfl
  have hlen:(l1++M).length=l1.length+i:=by rw [aVo,hM]
  have c5:=fun h s w fw=>uQ h s (l1++M) w (by omega) fw
  have c6:=fun h s w=>uR h s (bU ((l1++M).map pq)) w
  obtain ⟨P,hP⟩:∃P,P=bU ((l1++M).map pq):=⟨_,rfl⟩
  simp only [← hP] at c5 c6
  have hPl:P.length≤40400:=by rw [hP];exact aWd (aB2 _) (by rw [aWb];omega)
  conv=>whnf
  repeat' first|((first|(show CN _ _ _ _ _ _;first|(refine CN.growR (by decide) g rfl (fun h' s' L' hl e w=>?_);refine CN.f rfl (c5 _ _ w (fun x hx=>⟨UpE.up (by assumption) (hw x hx).1,(hw x hx).2⟩)) (fun v h' hl hr=>?_);obtain ⟨s3,rfl,w3⟩:=hr)|(refine CN.f rfl (c6 _ _ (w3.mono (by first|assumption|exact aA.lr _)) hPl) (fun v h' hl hr=>?_);subst hr))|((first|apply oI.z|apply cI.z))) <;> (conv=>whnf))|(apply aB<;>intro _<;>first|(exfalso;omega)|conv=>whnf)
  exact RN.a (R:=fun v h'=>RFo h' v r) (aLz hr2 hP (w3.mono (by assumption)))
 ·obtain ⟨x,hx⟩:∃t,l2[i]?=some t:=⟨_,aVq (by omega)⟩
  have wx:=(t2 x (aVu hx)).m.mono hle
  have zx:=z2 x (aVu hx)
  have hsn:=aZ hx
  obtain ⟨xn,xa,xd,xf,xm,xq⟩:=x
  obtain rfl:xn=sg xq:=wx.sg
  have c3:=fun h (c d:Sl) w1 w2=>aEg h c d xa xd K xq w1 w2 (zk.mono (by decide)) (zx.mono (by decide))
  simp only [Rat.mul_comm K xq] at c3
  have wxq:=wx.q
  conv=>whnf
  repeat' first|((first|(show Idx _ _ _ _ _;refine Idx.el r2x i _ (by omega) hx (fun ab ao aw=>?_))|(show LdN _ _ _ _ _;first|(refine LdN.elq aw (by first|assumption|exact aA.lr _) ?_)|refine LdN.oA 0 rfl rfl ?_)|(show Ld _ _ _ _;(refine Ld.elf aw (by first|assumption|exact aA.lr _) ?_))|(show CN _ _ _ _ _ _;first|(refine CN.f rfl (c2 _) (fun v h' hl hr'=>?_);obtain ⟨i1,i2,rfl,hi'⟩:=hr')|(refine CN.f rfl (c3 _ _ _ (by assumption) (wxq.mono (by assumption))) (fun v h' hl hr'=>?_);obtain ⟨m1,m2,rfl,hm'⟩:=hr'))|(show App _ _ _ _ _ _ _ _ _;refine App.growM (A:=[_,_]) (Fx:=L2) (size:=4) (bytes:=80) (z:=[.bool false,.slice none 0 0,.slice none 0 0,.slice none 0 0]) rfl rfl g ⟨_,0,none⟩ 1 1 [_,_,_,_] rfl (Has.four _) rfl (by decide) (by omega) (by omega) (by decide) (fun v' F' g' hA=>?_))|((first|apply oI.z|apply cI.z))|refine ⟨fun _=>aH.o (by assumption),?_⟩|refine ⟨fun _=>aH.cons _,?_⟩|refine ⟨fun hst=>(by cases (show true=false from hst)),?_⟩|intro (_:Nat)|refine WN.i64 (by omega) (by omega) ?_|refine Sto.l 0 rfl rfl rfl ?_|refine DrN.run (by decide +kernel) ?_) <;> (conv=>whnf))|(apply aB<;>intro _<;>first|(exfalso;omega)|conv=>whnf)|(refine oX.mk ?_ ?_ <;> (conv=>whnf))
  all_goals (
    have hMx:(M++[(⟨sg (xq*K),m1,m2,xf,xm,xq*K⟩:El)]).map pq=((l2.take (i+1)).map pq).map fun t=>(t.1,t.2*K):=by
      rw [aV3,hq,hsn,aV3,aV3];rfl
    exact ⟨rfl,l2.length-(i+1),by omega,i+1,M++[⟨sg (xq*K),m1,m2,xf,xm,xq*K⟩],v',rfl,(by (iterate 30 try first|assumption|refine aA.lt ?_ (by assumption));first|done|assumption),by omega,vi (by omega),rfl,by rw [← aVt];exact aD.el (x:=⟨sg (xq*K),m1,m2,xf,xm,xq*K⟩) g',by rw [aVo,hM];rfl,⟨hMx⟩,⟨fun x hx=>by
      rw [← aVt] at hx
      rcases aVx.1 hx with hx|hx
      ·exact ⟨UpE.up (by (iterate 30 try first|assumption|refine aA.lt ?_ (by assumption));first|done|assumption) (hw x hx).1,(hw x hx).2⟩
      ·rw [aV2] at hx;subst hx;exact ⟨⟨hm'.mono (by first|assumption|exact aA.lr _),rfl,⟨wx.fac.rw.mono (by (iterate 30 try first|assumption|refine aA.lt ?_ (by assumption));first|done|assumption),wx.fac.len⟩⟩,(Sr.mulS zx zk).mono (by decide)⟩⟩⟩)
end Go.Proofs.Y