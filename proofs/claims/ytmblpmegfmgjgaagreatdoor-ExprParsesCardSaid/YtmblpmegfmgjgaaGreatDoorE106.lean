/- The document's reading of a number's text. -/
import Derived.Test.YtmblpmegfmgjgaaGreatDoorE101
import Derived.Test.YtmblpmegfmgjgaaGreatDoorVcStop
import Derived.Test.YtmblpmegfmgjgaaGreatDoorE47
import Derived.Test.YtmblpmegfmgjgaaGreatDoorE11
import Derived.Test.YtmblpmegfmgjgaaGreatDoorE37
import Derived.Test.YtmblpmegfmgjgaaGreatDoorE69
import Derived.Test.YtmblpmegfmgjgaaGreatDoorE29
import Derived.Test.YtmblpmegfmgjgaaGreatDoorE93
set_option linter.unusedVariables false
set_option linter.unusedSimpArgs false
open Go.Vc.codeI renaming step → cz
open Go.Vc.opsI renaming step → oz
set_option maxHeartbeats 4000000
set_option maxRecDepth 20000
namespace Go.Dig
theorem natL_ln16 {l:List Nat} (h:∀c∈l,dgt c=true):ln 65536 (natL l)≤l.length:=by
 rw [ln_le_iff (by decide)]
 exact Nat.lt_of_lt_of_le (natL_lt h) (Nat.pow_le_pow_left (by decide) _)
theorem ln16_pow10 (k:Nat):ln 65536 (10^k)≤k+1:=by
 rw [ln_le_iff (by decide)]
 refine Nat.lt_of_le_of_lt (Nat.pow_le_pow_left (show 10≤65536 by decide) k) ?_
 exact Nat.pow_lt_pow_right (by decide) (Nat.lt_succ_self k)
end Go.Dig
namespace Go.Proofs.YtmblpmegfmgjgaaGreatDoor
open Go Go.Vc Go.Dig
theorem mk_sr {neg:Bool} {m n k:Nat} (hn:n≠0) (h1:ln 65536 m≤k) (h2:ln 65536 n≤k):Sr k (mkQ neg m n):=
 ⟨Nat.le_trans (ln_mono two_le_b (mkQ_le neg hn).1) h1,Nat.le_trans (ln_mono two_le_b (mkQ_le neg hn).2) h2⟩
theorem natRead_ct (h:Heap) (l:List Nat) (hd:∀c∈l,dgt c=true) (hl:l.length≤65536):Fn0 T F.ref01_natRead [.string (txt l)] h fun v h'=>∃s:Sl,v=s.val∧IsRef h' s (natL l):=by
 have hz:=txt_size l
 have hb:∀y∈l,y<256:=fun y hy=>by have:=dgt_iff.1 (hd y hy);omega
 refine fn0_of_codeI ok D.ref01_natRead rfl ?_
 conv=>whnf
 repeat ((first|refine oz ?_|refine cz ?_);conv=>whnf)
 skip
 refine LoopN.of (fun r ρ h' L=>∃(k:Nat) (a:Sl),r=l.length-k∧h.le h'∧rd ρ 7=.int .i64 k∧k≤l.length∧rd ρ 3=a.val∧IsRef h' a (natL (l.take k))) l.length
  ⟨0,⟨none,0,0⟩,rfl,Heap.le_refl _,rfl,by omega,rfl,(IsRef.nil rfl:IsRef h ⟨none,0,0⟩ 0)⟩ ?_
 conv=>whnf
 repeat intro _
 rename_i r h1 L1 hI
 obtain ⟨k,a,rfl,hle,e7,hk,e3,ha⟩:=hI
 conv at e3=>lhs;whnf
 subst e3
 conv at e7=>lhs;whnf
 subst e7
 by_cases hkl:k=l.length
 ·subst hkl
  rw [List.take_length] at ha
  conv=>whnf
  repeat ((first|refine oz ?_|refine cz ?_);conv=>whnf)
  repeat' first|((first|((first|refine oz ?_|refine cz ?_))) <;> (conv=>whnf))|(refine cnd_lt (fun _=>?_) (fun _=>?_) <;> first|(exfalso;omega)|(conv=>whnf))
  all_goals exact RetN.all ⟨_,rfl,(by assumption)⟩
 ·have lk:ln 65536 (natL (l.take k))≤65536:=Nat.le_trans (natL_ln16 fun c hc=>hd c (List.mem_of_mem_take hc)) (by rw [List.length_take];omega)
  have hdk:=dgt_iff.1 (hd (l.getD k 0) (by simp [List.getD_eq_getElem?_getD,show k<l.length by omega]))
  have s1:natL (l.take k)*10+(l.getD k 0-48)=natL (l.take (k+1)):=by
   have e:=take_step (l:=l) (k:=0) (i:=k) (Nat.zero_le _) (by omega)
   rw [List.drop_zero,List.drop_zero] at e
   rw [e,natL_snoc,Nat.mul_comm]
  obtain ⟨X,hX⟩:∃X,X=l.getD k 0:=⟨_,rfl⟩
  rw [← hX] at hdk s1
  obtain ⟨N,hN⟩:∃N,N=natL (l.take k):=⟨_,rfl⟩
  rw [← hN] at ha lk s1
  have lm:=ln_mul two_le_b N 10
  have l10:ln 65536 10≤1:=by rw [ln_le_iff two_le_b];decide
  have ld:ln 65536 (X-48)≤1:=by rw [ln_le_iff two_le_b];omega
  obtain ⟨M,hM⟩:∃M,M=N*10:=⟨_,rfl⟩
  rw [← hM] at lm s1
  have c1:=fun h (a b:Sl) w w'=>NatMul_ct h a b N 10 w w' (by omega) (by omega)
  simp only [← hM] at c1
  have c2:=fun h (a b:Sl) w w'=>NatAdd_ct h a b M (X-48) w w' (by omega) (by omega)
  simp only [s1] at c2
  have c3:=fun h=>NatOf_ct h (X-48) (by omega)
  simp only [show ((X-48:Nat):Int)=(X:Int)-48 by omega] at c3
  clear hM hN s1
  conv=>whnf
  repeat ((first|refine oz ?_|refine cz ?_);conv=>whnf)
  repeat' first|((first|(show IdxS _ _ _;(refine IdxS.txt l rfl hb k (by omega) (by omega) ?_;rw [← hX]))|(show CallN _ _ _ _ _ _;first|(refine CallN.fn rfl (NatOf_ct _ 10 (by omega)) (fun v h' hl hr=>?_);obtain ⟨s',rfl,hs'⟩:=hr)|(refine CallN.fn rfl (c1 _ _ _ (by (iterate 30 try first|assumption|refine IsRef.mono ?_ (by assumption));first|done|assumption) (by assumption)) (fun v h' hl hr=>?_);obtain ⟨s',rfl,hs'⟩:=hr)|(refine CallN.fn rfl (c3 _) (fun v h' hl hr=>?_);obtain ⟨s',rfl,hs'⟩:=hr)|(refine CallN.fn rfl (c2 _ _ _ (by (iterate 30 try first|assumption|refine IsRef.mono ?_ (by assumption));first|done|assumption) (by assumption)) (fun v h' hl hr=>?_);obtain ⟨s',rfl,hs'⟩:=hr))|((first|refine oz ?_|refine cz ?_))|refine ⟨fun _=>HasLe.of_le (by assumption),?_⟩|(show WrapN _ _ _;first|refine WrapN.i64 (by omega) (by omega) ?_|refine WrapN.u64 (by omega) (by omega) ?_|refine WrapN.u8 (by omega) (by omega) ?_)|refine DrawN.run (by decide +kernel) ?_) <;> (conv=>whnf))|(refine cnd_lt (fun _=>?_) (fun _=>?_) <;> first|(exfalso;omega)|(conv=>whnf))
  all_goals exact ⟨rfl,l.length-(k+1),by omega,k+1,_,rfl,(by (iterate 30 try first|assumption|refine Heap.le_trans ?_ (by assumption));first|done|assumption),vi (by omega),by omega,rfl,(by assumption)⟩
theorem Rrun_ct (h:Heap) (l:List Nat) (hb:∀y∈l,y<256) (hl:l.length≤1000000):Fn0 T F.ref01_run [.string (txt l),.int .i64 0] h fun v h'=>h'=h∧v=.int .i64 (dlen l:Nat):=by
 have hz:=txt_size l
 refine fn0_of_codeI ok D.ref01_run rfl ?_
 conv=>whnf
 repeat ((first|refine oz ?_|refine cz ?_);conv=>whnf)
 skip
 refine LoopN.of (fun r ρ h' L=>∃k:Nat,r=l.length-k∧h'=h∧rd ρ 5=.int .i64 k∧k≤l.length∧Hq (∀i,i<k→dgt (l.getD i 0)=true)) l.length ⟨0,rfl,rfl,rfl,by omega,⟨fun i hi=>by omega⟩⟩ ?_
 conv=>whnf
 repeat intro _
 rename_i r h1 L1 hI
 obtain ⟨k,rfl,rfl,e5,hk,hd⟩:=hI
 conv at e5=>lhs;whnf
 subst e5
 have hs:=fun (x:k<l.length) (y:dgt (l.getD k 0)=true) i (hi:i<k+1)=>(by
   by_cases e:i=k
   ·subst e;exact y
   ·exact hd.out i (by omega):dgt (l.getD i 0)=true)
 have hw:(k=l.length∨¬dgt (l.getD k 0)=true)→dlen l=k:=fun x=>while_len l k hk hd.out x
 obtain ⟨X,hX⟩:∃X,X=l.getD k 0:=⟨_,rfl⟩
 rw [← hX] at hs hw
 have d1:48≤X→X≤57→dgt X=true:=fun a b=>dgt_iff.2 ⟨a,b⟩
 have d2:¬(48≤X∧X≤57)→¬dgt X=true:=fun a b=>a (dgt_iff.1 b)
 replace hs:=Hq.mk hs
 replace hw:=Hq.mk hw
 replace d1:=Hq.mk d1
 replace d2:=Hq.mk d2
 conv=>whnf
 repeat ((first|refine oz ?_|refine cz ?_);conv=>whnf)
 repeat' first|((first|(show IdxS _ _ _;(refine IdxS.txt l rfl hb k (by omega) (by omega) ?_;rw [← hX]))|((first|refine oz ?_|refine cz ?_))|refine WrapN.i64 (by omega) (by omega) ?_) <;> (conv=>whnf))|(show cnd _ _ _;first|(refine cnd_lt (fun _=>?_) (fun _=>?_) <;> first|(exfalso;omega)|(conv=>whnf))|(refine cnd_le (fun _=>?_) (fun _=>?_) <;> first|(exfalso;omega)|(conv=>whnf)))
 all_goals first
  | exact ⟨rfl,l.length-(k+1),by omega,k+1,rfl,rfl,vi (by omega),by omega,⟨hs.out (by omega) (d1.out (by omega) (by omega))⟩⟩
  | (refine RetN.all ⟨rfl,?_⟩;rw [hw.out (by first|(left;omega)|(right;exact d2.out (by omega)))])
theorem tw_all {l:List Nat} (h:∀x∈l,dgt x=true):l.takeWhile dgt=l∧l.dropWhile dgt=[]:=by
 have:=tw_app l [] h (fun c e=>by cases e)
 rwa [List.append_nil] at this
theorem RParse_ct (h:Heap) (l:List Nat) (hl:l.length≤1000000) (hn:NumTx l):Fn0 T F.ref01_Parse [.string (txt l)] h fun v h'=>Res h' v (parseL l):=by
 have hz:=txt_size l
 have e4:1240<l.length→parseL l=(0,4):=fun x=>if_pos x
 by_cases hlong:1240<l.length
 ·rw [e4 hlong]
  refine fn0_of_codeI ok D.ref01_Parse rfl ?_
  conv=>whnf
  repeat ((first|refine oz ?_|refine cz ?_);conv=>whnf)
  repeat' first|((first|((first|refine oz ?_|refine cz ?_))|intro (_:Nat)|refine LdN.own 0 rfl rfl ?_|refine Sto.lit 0 rfl rfl rfl ?_) <;> (conv=>whnf))|(refine cnd_lt (fun _=>?_) (fun _=>?_) <;> first|(exfalso;omega)|(conv=>whnf))
  all_goals exact RetN.all (Res.err _ _)
 clear e4
 obtain ⟨hd,h0,h1,hcase⟩:=hn
 have hp:=List.length_pos_iff.2 h0
 have hd8:∀y∈hd,y<256:=fun y hy=>by have:=dgt_iff.1 (h1 y hy);omega
 have h45:=dgt_iff.1 (h1 (hd.getD 0 0) (getD_mem hp))
 rcases hcase with rfl|⟨c,tl,hc,h2,h3,rfl⟩
 ·have e:parseL l=outR (mkQ false (natL l) 1):=by
   unfold parseL
   rw [if_neg hlong,if_neg,(tw_all h1).1,(tw_all h1).2,parse3,if_neg h0]
   intro x
   match l,h0,x,h45 with
   | a::r,_,x,h45=>cases x;simp at h45
  rw [e]
  clear e
  have c1:=fun h=>Rrun_ct h l hd8 hl
  have hdl:dlen l=l.length:=by unfold dlen;rw [(tw_all h1).1]
  simp only [hdl] at c1
  have c2:=fun h=>natRead_ct h l h1 (by omega)
  have l1:ln 65536 (natL l)≤65536:=Nat.le_trans (natL_ln16 h1) (by omega)
  have l2:=ln_one 65536 two_le_b
  have hs:=(mk_sr (neg:=false) (n:=1) (by decide) l1 (by omega)).mono (l:=4294967296) (by decide)
  have cutA:(l.take l.length).drop 0=l:=by rw [List.drop_zero,List.take_length]
  have cutB:(l.take l.length).drop l.length=[]:=by rw [List.take_length,List.drop_length]
  obtain ⟨N,hN⟩:∃N,N=natL l:=⟨_,rfl⟩
  obtain ⟨X,hX⟩:∃X,X=l.getD 0 0:=⟨_,rfl⟩
  rw [← hX] at h45
  rw [← hN] at l1 hs ⊢
  simp only [← hN] at c2
  have c3:=fun h (a b:Sl) w w'=>Make_ct h (eq (X:Int) 45) a b N 1 w w' (by omega) (by omega)
  simp only [show mkQ (eq (X:Int) 45) N 1=mkQ false N 1 by rw [Vc.eq_false' (by omega)]] at c3
  have c4:=fun h (a b:Sl) w=>Done_ct h a b (mkQ false N 1) w hs
  obtain ⟨Q,hQ⟩:∃Q,Q=mkQ false N 1:=⟨_,rfl⟩
  simp only [← hQ] at c3 c4 ⊢
  clear hQ hs hN
  refine fn0_of_codeI ok D.ref01_Parse rfl ?_
  conv=>whnf
  repeat ((first|refine oz ?_|refine cz ?_);conv=>whnf)
  repeat' first|((first|(show SeqN _ _ _ _ _ _ _;refine SeqN.go ?_)|(show IdxS _ _ _;(refine IdxS.txt l rfl hd8 0 (by omega) (by omega) ?_;rw [← hX]))|(show CallN _ _ _ _ _ _;first|refine CallN.quiet rfl (c1 _) ?_|(refine CallN.fn rfl (c2 _) (fun v h' hl hr=>?_);obtain ⟨s',rfl,hs'⟩:=hr)|(refine CallN.fn rfl (NatOf_ct _ 1 (by omega)) (fun v h' hl hr=>?_);obtain ⟨s',rfl,hs'⟩:=hr)|(refine CallN.fn rfl (c3 _ _ _ (by (iterate 30 try first|assumption|refine IsRef.mono ?_ (by assumption));first|done|assumption) (by assumption)) (fun v h' hl hr=>?_);obtain ⟨s',t',rfl,hs'⟩:=hr)|(refine CallN.fn rfl (c4 _ _ _ (by assumption)) (fun v h' hl hr=>?_);obtain ⟨a9,b9,rfl,hq9⟩:=hr))|(show Cut _ _ _ _;first|(refine Cut.txt l 0 l.length (by omega) (by omega) rfl (by omega) (by omega) ?_;rw [txt_sub,cutA])|(refine Cut.txt l l.length l.length (by omega) (by omega) rfl (by omega) (by omega) ?_;rw [txt_sub,cutB]))|((first|refine oz ?_|refine cz ?_))|intro (_:Nat)|refine LdN.own 0 rfl rfl ?_|refine Sto.lit 0 rfl rfl rfl ?_|refine DrawN.run (by decide +kernel) ?_) <;> (conv=>whnf))|(show cnd _ _ _;first|(refine cnd_nil [] rfl rfl (fun _=>?_) (fun hx=>absurd rfl hx);conv=>whnf)|(refine cnd_lt (fun _=>?_) (fun _=>?_) <;> first|(exfalso;omega)|(conv=>whnf))|(refine cnd_eq (fun _=>?_) (fun _=>?_) <;> first|(exfalso;omega)|(conv=>whnf)))
  all_goals exact RetN.all ⟨a9,b9,rfl,by assumption⟩
 ·have hc0:dgt c=false:=by
   rw [Bool.eq_false_iff];intro x;have:=dgt_iff.1 x;omega
  have tw:=tw_app hd (c::tl) h1 (fun d e=>by cases e;exact hc0)
  have hla:(hd++c::tl).length=hd.length+1+tl.length:=by simp;omega
  have e:parseL (hd++c::tl)=parse4 false hd c tl []:=by
   unfold parseL
   rw [if_neg hlong,if_neg,tw.1,tw.2,parse3,(tw_all h3).1,(tw_all h3).2]
   intro x
   match hd,h0,x,h45 with
   | a::r,_,x,h45=>cases x;simp at h45
  have hL8:∀y∈hd++c::tl,y<256:=fun y hy=>by
   rcases List.mem_append.1 hy with hy|hy
   ·exact hd8 y hy
   ·rcases List.mem_cons.1 hy with rfl|hy
    ·omega
    ·have:=dgt_iff.1 (h3 y hy);omega
  have ht8:∀y∈tl,y<256:=fun y hy=>hL8 y (List.mem_append_right _ (List.mem_cons_of_mem _ hy))
  have hct8:∀y∈c::tl,y<256:=fun y hy=>hL8 y (List.mem_append_right _ hy)
  have hdl:dlen (hd++c::tl)=hd.length:=by unfold dlen;rw [tw.1]
  have c1:=fun h=>Rrun_ct h (hd++c::tl) hL8 hl
  have c5:=fun h=>Rrun_ct h tl ht8 (by omega)
  have hdt:dlen tl=tl.length:=by unfold dlen;rw [(tw_all h3).1]
  simp only [hdl] at c1
  simp only [hdt] at c5
  have hgd:(hd++c::tl).getD 0 0=hd.getD 0 0:=by
   rw [List.getD_eq_getElem?_getD,List.getElem?_append_left hp,← List.getD_eq_getElem?_getD]
  rw [← hgd] at h45
  have c2:=fun h=>natRead_ct h hd h1 (by omega)
  have c6:=fun h=>natRead_ct h tl h3 (by omega)
  have h13:∀x∈hd++tl,dgt x=true:=fun x hx=>(List.mem_append.1 hx).elim (h1 x) (h3 x)
  have c7:=fun h=>natRead_ct h (hd++tl) h13 (by simp;omega)
  have l1:ln 65536 (natL hd)≤65536:=Nat.le_trans (natL_ln16 h1) (by omega)
  have l2:ln 65536 (natL tl)≤65536:=Nat.le_trans (natL_ln16 h3) (by omega)
  have l3:ln 65536 (natL (hd++tl))≤65536:=Nat.le_trans (natL_ln16 h13) (by simp;omega)
  have l4:ln 65536 (10^tl.length)≤65536:=Nat.le_trans (ln16_pow10 _) (by omega)
  have cutA:((hd++c::tl).take hd.length).drop 0=hd:=by rw [List.drop_zero,List.take_left]
  have cutB:((hd++c::tl).take (hd++c::tl).length).drop hd.length=c::tl:=by rw [List.take_length,List.drop_left]
  have cutC:((c::tl).take (c::tl).length).drop 1=tl:=by rw [List.take_length];rfl
  have hlc:(c::tl).length=tl.length+1:=rfl
  have z1:=txt_size hd
  have z2:=txt_size tl
  have z3:=txt_size (c::tl)
  have tp:=List.length_pos_iff.2 h2
  have hP0:10^tl.length≠0:=Nat.pos_iff_ne_zero.1 (Nat.pow_pos (by decide))
  have e46:c=46→parse4 false hd c tl []=outR (mkQ false (natL (hd++tl)) (10^tl.length)):=fun x=>by
   unfold parse4
   rw [if_neg (by simp [h0,h2,x]),if_pos x]
  have e47:c=47→natL tl=0→parse4 false hd c tl []=(0,10):=fun x y=>by
   unfold parse4
   rw [if_neg (by simp [h0,h2,x]),if_neg (by omega),if_pos x,if_pos y]
  have e48:c=47→natL tl≠0→parse4 false hd c tl []=outR (mkQ false (natL hd) (natL tl)):=fun x y=>by
   unfold parse4
   rw [if_neg (by simp [h0,h2,x]),if_neg (by omega),if_pos x,if_neg y]
  rw [e]
  obtain ⟨R,hR⟩:∃R,R=parse4 false hd c tl []:=⟨_,rfl⟩
  rw [← hR] at e46 e47 e48 ⊢
  obtain ⟨X,hX⟩:∃X,X=(hd++c::tl).getD 0 0:=⟨_,rfl⟩
  rw [← hX] at h45
  obtain ⟨LL,hLL⟩:∃LL,LL=hd++c::tl:=⟨_,rfl⟩
  rw [← hLL] at hla hL8 cutA cutB hX hz hlong hl
  simp only [← hLL] at c1 ⊢
  obtain ⟨A,hA⟩:∃A,A=natL hd:=⟨_,rfl⟩
  obtain ⟨B,hB⟩:∃B,B=natL tl:=⟨_,rfl⟩
  obtain ⟨C,hC⟩:∃C,C=natL (hd++tl):=⟨_,rfl⟩
  obtain ⟨PW,hD⟩:∃PW,PW=10^tl.length:=⟨_,rfl⟩
  simp only [← hA] at c2 e48 l1
  simp only [← hB] at c6 e47 e48 l2
  simp only [← hC] at c7 e46 l3
  simp only [← hD] at e46 l4 hP0
  have l10:ln 65536 10≤1:=by rw [ln_le_iff two_le_b];decide
  have cp:=fun h (a:Sl) w=>NatPow_ct h a 10 tl.length w (by have:=Nat.mul_le_mul_left tl.length l10;omega) (by omega) (by omega)
  simp only [← hD] at cp
  simp only [← z2] at cp
  have hat:=fun (h:Heap) (s:Sl) (w:IsRef h s B)=>w.len
  have hzB:=ln_eq_zero two_le_b (n:=B)
  clear hR hLL hA hB hC hD tw e hdl hdt hgd hc0
  rcases hc with rfl|rfl
  ·have hs:=(mk_sr (neg:=false) hP0 l3 l4).mono (l:=4294967296) (by decide)
   have c3:=fun h (a b:Sl) w w'=>Make_ct h (eq (X:Int) 45) a b C PW w w' (by omega) (by omega)
   simp only [show mkQ (eq (X:Int) 45) C PW=mkQ false C PW by rw [Vc.eq_false' (by omega)]] at c3
   have c4:=fun h (a b:Sl) w=>Done_ct h a b (mkQ false C PW) w hs
   rw [e46 rfl]
   obtain ⟨Q,hQ⟩:∃Q,Q=mkQ false C PW:=⟨_,rfl⟩
   simp only [← hQ] at c3 c4 ⊢
   clear hQ hs e46 e47 e48 hzB hat
   refine fn0_of_codeI ok D.ref01_Parse rfl ?_
   conv=>whnf
   repeat ((first|refine oz ?_|refine cz ?_);conv=>whnf)
   repeat' first|((first|(show SeqN _ _ _ _ _ _ _;refine SeqN.go ?_)|(show IdxS _ _ _;first|(refine IdxS.txt LL rfl hL8 0 (by omega) (by omega) ?_;rw [← hX])|refine IdxS.at (46::tl) 46 rfl hct8 0 (by omega) rfl ?_)|(show CallN _ _ _ _ _ _;first|refine CallN.quiet rfl (c1 _) ?_|refine CallN.quiet rfl (c5 _) ?_|(refine CallN.fn rfl (c7 _) (fun v h' hl hr=>?_);obtain ⟨s',rfl,hs'⟩:=hr)|(refine CallN.fn rfl (NatOf_ct _ 10 (by omega)) (fun v h' hl hr=>?_);obtain ⟨s',rfl,hs'⟩:=hr)|(refine CallN.fn rfl (cp _ _ (by assumption)) (fun v h' hl hr=>?_);obtain ⟨s',rfl,hs'⟩:=hr)|(refine CallN.fn rfl (c3 _ _ _ (by (iterate 30 try first|assumption|refine IsRef.mono ?_ (by assumption));first|done|assumption) (by assumption)) (fun v h' hl hr=>?_);obtain ⟨s',t',rfl,hs'⟩:=hr)|(refine CallN.fn rfl (c4 _ _ _ (by assumption)) (fun v h' hl hr=>?_);obtain ⟨a9,b9,rfl,hq9⟩:=hr))|(show Cut _ _ _ _;first|(refine Cut.txt LL 0 hd.length (by omega) (by omega) rfl (by omega) (by omega) ?_;rw [txt_sub,cutA])|(refine Cut.txt LL hd.length LL.length (by omega) (by omega) rfl (by omega) (by omega) ?_;rw [txt_sub,cutB])|(refine Cut.txt (46::tl) 1 (46::tl).length (by omega) (by omega) rfl (by omega) (by omega) ?_;rw [txt_sub,cutC]))|(show Cat _ _ _;refine Cat.txt (a:=hd) (b:=tl) rfl rfl (by omega) ?_)|((first|refine oz ?_|refine cz ?_))|intro (_:Nat)|refine LdN.own 0 rfl rfl ?_|refine Sto.lit 0 rfl rfl rfl ?_|refine DrawN.run (by decide +kernel) ?_) <;> (conv=>whnf))|(show cnd _ _ _;first|(refine cnd_nil (46::tl) rfl rfl (fun hx=>by cases hx) (fun _=>?_);conv=>whnf)|(refine cnd_nil tl rfl rfl (fun hx=>absurd hx h2) (fun _=>?_);conv=>whnf)|(refine cnd_lt (fun _=>?_) (fun _=>?_) <;> first|(exfalso;omega)|(conv=>whnf))|(refine cnd_eq (fun _=>?_) (fun _=>?_) <;> first|(exfalso;omega)|(conv=>whnf))|(refine cnd_not ?_))
   all_goals exact RetN.all ⟨a9,b9,rfl,by assumption⟩
  ·by_cases hB0:B=0
   ·have hB0l:=hzB.2 hB0
    rw [e47 rfl hB0]
    clear e46 e47 e48 cp c7 hzB
    refine fn0_of_codeI ok D.ref01_Parse rfl ?_
    conv=>whnf
    repeat ((first|refine oz ?_|refine cz ?_);conv=>whnf)
    repeat' first|((first|(show SeqN _ _ _ _ _ _ _;refine SeqN.go ?_)|(show IdxS _ _ _;first|(refine IdxS.txt LL rfl hL8 0 (by omega) (by omega) ?_;rw [← hX])|refine IdxS.at (47::tl) 47 rfl hct8 0 (by omega) rfl ?_)|(show CallN _ _ _ _ _ _;first|refine CallN.quiet rfl (c1 _) ?_|refine CallN.quiet rfl (c5 _) ?_|(refine CallN.fn rfl (c6 _) (fun v h' hl hr=>?_);obtain ⟨s6,rfl,hs6⟩:=hr;have hl6:=hat _ _ hs6))|(show Cut _ _ _ _;first|(refine Cut.txt LL 0 hd.length (by omega) (by omega) rfl (by omega) (by omega) ?_;rw [txt_sub,cutA])|(refine Cut.txt LL hd.length LL.length (by omega) (by omega) rfl (by omega) (by omega) ?_;rw [txt_sub,cutB])|(refine Cut.txt (47::tl) 1 (47::tl).length (by omega) (by omega) rfl (by omega) (by omega) ?_;rw [txt_sub,cutC]))|((first|refine oz ?_|refine cz ?_))|intro (_:Nat)|refine LdN.own 0 rfl rfl ?_|refine Sto.lit 0 rfl rfl rfl ?_|refine DrawN.run (by decide +kernel) ?_) <;> (conv=>whnf))|(show cnd _ _ _;first|(refine cnd_nil (47::tl) rfl rfl (fun hx=>by cases hx) (fun _=>?_);conv=>whnf)|(refine cnd_nil tl rfl rfl (fun hx=>absurd hx h2) (fun _=>?_);conv=>whnf)|(refine cnd_lt (fun _=>?_) (fun _=>?_) <;> first|(exfalso;omega)|(conv=>whnf))|(refine cnd_eq (fun _=>?_) (fun _=>?_) <;> first|(exfalso;omega)|(conv=>whnf))|(refine cnd_not ?_))
    all_goals exact RetN.all (Res.err _ _)
   ·have hB0l:ln 65536 B≠0:=fun x=>hB0 (hzB.1 x)
    have hs:=(mk_sr (neg:=false) hB0 l1 l2).mono (l:=4294967296) (by decide)
    have c3:=fun h (a b:Sl) w w'=>Make_ct h (eq (X:Int) 45) a b A B w w' (by omega) (by omega)
    simp only [show mkQ (eq (X:Int) 45) A B=mkQ false A B by rw [Vc.eq_false' (by omega)]] at c3
    have c4:=fun h (a b:Sl) w=>Done_ct h a b (mkQ false A B) w hs
    rw [e48 rfl hB0]
    obtain ⟨Q,hQ⟩:∃Q,Q=mkQ false A B:=⟨_,rfl⟩
    simp only [← hQ] at c3 c4 ⊢
    clear hQ hs e46 e47 e48 cp c7 hzB
    refine fn0_of_codeI ok D.ref01_Parse rfl ?_
    conv=>whnf
    repeat ((first|refine oz ?_|refine cz ?_);conv=>whnf)
    repeat' first|((first|(show SeqN _ _ _ _ _ _ _;refine SeqN.go ?_)|(show IdxS _ _ _;first|(refine IdxS.txt LL rfl hL8 0 (by omega) (by omega) ?_;rw [← hX])|refine IdxS.at (47::tl) 47 rfl hct8 0 (by omega) rfl ?_)|(show CallN _ _ _ _ _ _;first|refine CallN.quiet rfl (c1 _) ?_|refine CallN.quiet rfl (c5 _) ?_|(refine CallN.fn rfl (c6 _) (fun v h' hl hr=>?_);obtain ⟨s6,rfl,hs6⟩:=hr;have hl6:=hat _ _ hs6)|(refine CallN.fn rfl (c2 _) (fun v h' hl hr=>?_);obtain ⟨s',rfl,hs'⟩:=hr)|(refine CallN.fn rfl (c3 _ _ _ (by assumption) (by (iterate 30 try first|assumption|refine IsRef.mono ?_ (by assumption));first|done|assumption)) (fun v h' hl hr=>?_);obtain ⟨s',t',rfl,hs'⟩:=hr)|(refine CallN.fn rfl (c4 _ _ _ (by assumption)) (fun v h' hl hr=>?_);obtain ⟨a9,b9,rfl,hq9⟩:=hr))|(show Cut _ _ _ _;first|(refine Cut.txt LL 0 hd.length (by omega) (by omega) rfl (by omega) (by omega) ?_;rw [txt_sub,cutA])|(refine Cut.txt LL hd.length LL.length (by omega) (by omega) rfl (by omega) (by omega) ?_;rw [txt_sub,cutB])|(refine Cut.txt (47::tl) 1 (47::tl).length (by omega) (by omega) rfl (by omega) (by omega) ?_;rw [txt_sub,cutC]))|((first|refine oz ?_|refine cz ?_))|intro (_:Nat)|refine LdN.own 0 rfl rfl ?_|refine Sto.lit 0 rfl rfl rfl ?_|refine DrawN.run (by decide +kernel) ?_) <;> (conv=>whnf))|(show cnd _ _ _;first|(refine cnd_nil (47::tl) rfl rfl (fun hx=>by cases hx) (fun _=>?_);conv=>whnf)|(refine cnd_nil tl rfl rfl (fun hx=>absurd hx h2) (fun _=>?_);conv=>whnf)|(refine cnd_lt (fun _=>?_) (fun _=>?_) <;> first|(exfalso;omega)|(conv=>whnf))|(refine cnd_eq (fun _=>?_) (fun _=>?_) <;> first|(exfalso;omega)|(conv=>whnf))|(refine cnd_not ?_))
    all_goals exact RetN.all ⟨a9,b9,rfl,by assumption⟩
theorem prs_err {l:List Nat} (h:(parseL l).2≠0):prs l=(false,[],[]):=by
 have hq:(parseL l).1=0:=by
  have key:∀q:Rat,(outR q).2≠0→(outR q).1=0:=fun q x=>by
   unfold outR at x ⊢
   split at x
   ·exact absurd rfl x
   ·rename_i hf;rw [if_neg hf]
  have gen:∀p:Rat × Int,p=parseL l→p.2≠0→p.1=0:=fun p hp h=>by
   unfold parseL parse3 parse4 at hp
   repeat' split at hp
   all_goals subst hp
   all_goals first
    | rfl
    | exact absurd rfl h
    | exact key _ h
  exact gen _ rfl h
 unfold prs
 rw [hq,sg_zero,nu_zero,dg_zero,show dn 0=0 from rfl,dg_zero]
end Go.Proofs.YtmblpmegfmgjgaaGreatDoor
/- The document's reader of tokens: its small steps. -/
namespace Go.Vc
open Go Go.Dig
theorem rtc_get {ts:List Tk} {j:Nat} {t:Tk} (ht:ts[j]?=some t) (m:Nat) (hm:m<3):(rtc ts)[j*3+m]?=(rtv t)[m]?:=by
 induction ts generalizing j with
 | nil=>simp at ht
 | cons u ts ih=>
  unfold rtc
  rw [List.flatMap_cons]
  cases j with
  | zero=>
   simp at ht;subst ht
   rw [List.getElem?_append_left (by simp [rtv];omega),Nat.zero_mul,Nat.zero_add]
  | succ j=>
   rw [List.getElem?_append_right (by simp [rtv];omega)]
   have:=ih (j:=j) (by simpa using ht)
   unfold rtc at this
   rw [← this]
   congr 1
   simp [rtv];omega
theorem Idx.rtok {h:Heap} {s:Sl} {ts:List Tk} (w:Rw h s 3 (rtc ts)) {i:Int} {k:Addr→Prop} (j:Nat) (t:Tk) (hi:i=j) (ht:ts[j]?=some t)
  (hk:∀b off,(∀L,Has h L ⟨b,off,none⟩ (.int .i64 (rk t.kind)))→(∀L,Has h L ⟨b,off+1,none⟩ (.int .i64 t.pos))→(∀L,Has h L ⟨b,off+2,none⟩ (.string (txt t.text)))→k ⟨b,off,none⟩):Idx s.a i s.l 3 k:=by
 have hj:=(List.getElem?_eq_some_iff.1 ht).1
 have hl:=rtc_len ts
 have hne:rtc ts≠[]:=fun e=>by rw [e] at hl;simp at hl;omega
 obtain ⟨b,off,c,T,fz,h1,h2,h3⟩:=w.mem hne
 have hlen:=w.len
 have get:∀m,m<3→∀L,Has h L ⟨b,off+j*3+m,none⟩ ((rtv t).getD m undef):=fun m hm L=>by
  refine Has.imm h2 ?_
  rw [Nat.add_assoc,h3 _ (by omega),rtc_get ht m hm]
  match m,hm with
  | 0,_=>rfl
  | 1,_=>rfl
  | 2,_=>rfl
 exact Idx.of j h1 hi (by omega) (hk _ _ (get 0 (by decide)) (get 1 (by decide)) (get 2 (by decide)))
end Go.Vc
namespace Go.Proofs.YtmblpmegfmgjgaaGreatDoor
open Go Go.Vc Go.Dig
def Rbk (bp:Nat) (s:Sl) (y:Int) (e:Nat) (bad:Int) (v:Value):Nat × Obj:=(bp,.cells [s.val,.int .i64 y,.int .i64 e,.int .i64 bad,v].toArray Ty.ref04_Reader (0,0))
theorem Rbk_eq {bp:Nat} {s:Sl} {y z:Int} {e:Nat} {bad bad':Int} {v:Value} (h:y=z) (h':bad=bad'):Rbk bp s y e bad v=Rbk bp s z e bad' v:=by rw [h,h']
structure RTk (h:Heap) (s:Sl) (ts:List Tk):Prop where
 rw:Rw h s 3 (rtc ts)
 len:s.l=ts.length
 lt:∀t∈ts,∀y∈t.text,y<256
 sz:ts.length≤1000000
 ps:∀t∈ts,t.pos≤1000000∧t.kind≤3∧t.text.length≤1000000
 num:∀t∈ts,t.kind=1→NumTx t.text
theorem RTk.mono {h h':Heap} {s:Sl} {ts:List Tk} (w:RTk h s ts) (hl:h.le h'):RTk h' s ts:=⟨w.rw.mono hl,w.len,w.lt,w.sz,w.ps,w.num⟩
theorem rk_iff {k:Nat} (h:k≤3):(rk k=4↔k=0)∧(rk k=1↔k=1)∧(rk k=2↔k=2)∧(rk k=3↔k=3)∧rk k≠5:=by
 unfold rk
 split <;> omega
theorem RNext_s (h:Heap) (bp:Nat) (s:Sl) (ts:List Tk) (i e:Nat) (y bad:Int) (v:Value) (t:Tk) (w:RTk h s ts) (hy:y=i) (ht:ts[i]?=some t):Vc.Fn T F.pref04_Reader_Next [.pointer (some ⟨bp,0,none⟩)] h [Rbk bp s y e bad v] fun r h' L'=>L'=[Rbk bp s y e bad v]∧h'=h∧r=.agg #[.int .i64 (rk t.kind),.int .i64 t.pos,.string (txt t.text)]:=by
 have hl:=w.len
 have hw:=w.rw
 have hi:=(List.getElem?_eq_some_iff.1 ht).1
 refine fn_of_codeI ok D.pref04_Reader_Next rfl ?_
 conv=>whnf
 repeat ((first|refine oz ?_|refine cz ?_);conv=>whnf)
 repeat' first|((first|(show Idx _ _ _ _ _;refine Idx.rtok hw i t (by omega) ht (fun tb to v0 v1 v2=>?_))|(show LdN _ _ _ _ _;first|refine LdN.hs3 (v0 _) (v1 _) (v2 _) ?_|refine LdN.own 0 rfl rfl ?_)|((first|refine oz ?_|refine cz ?_))|refine ⟨fun hst=>(by cases (show true=false from hst)),?_⟩|intro (_:Nat)|refine Ld.own 1 rfl rfl ?_|refine Sto.lit 0 rfl rfl rfl ?_|refine DrawN.run (by decide +kernel) ?_) <;> (conv=>whnf))|(refine cnd_lt (fun _=>?_) (fun _=>?_) <;> first|(exfalso;omega)|(conv=>whnf))
 all_goals exact RetN.drop0 (RetN.done ⟨rfl,rfl,rfl⟩)
theorem RNext_n (h:Heap) (bp:Nat) (s:Sl) (ts:List Tk) (i e:Nat) (y bad:Int) (v:Value) (w:RTk h s ts) (hy:y=i) (ht:ts[i]?=none):Vc.Fn T F.pref04_Reader_Next [.pointer (some ⟨bp,0,none⟩)] h [Rbk bp s y e bad v] fun r h' L'=>L'=[Rbk bp s y e bad v]∧h'=h∧r=.agg #[.int .i64 5,.int .i64 e,.string (txt [])]:=by
 have hl:=w.len
 have hi:ts.length≤i:=by simpa using ht
 refine fn_of_codeI ok D.pref04_Reader_Next rfl ?_
 conv=>whnf
 repeat ((first|refine oz ?_|refine cz ?_);conv=>whnf)
 repeat' first|((first|((first|refine oz ?_|refine cz ?_))|intro (_:Nat)|refine LdN.own 0 rfl rfl ?_|refine Ld.own 1 rfl rfl ?_|refine Sto.lit 0 rfl rfl rfl ?_|refine DrawN.run (by decide +kernel) ?_) <;> (conv=>whnf))|(refine cnd_lt (fun _=>?_) (fun _=>?_) <;> first|(exfalso;omega)|(conv=>whnf))
 all_goals exact RetN.drop0 (RetN.done ⟨rfl,rfl,rfl⟩)
theorem RAt_ct (h:Heap) (bp:Nat) (s:Sl) (ts:List Tk) (i e:Nat) (y bad:Int) (us:List (Tk × Bool)) (v:Value) (x:List Nat) (b:Bool) (w:RTk h s ts) (hy:y=i) (hx:∀y∈x,y<256) (hb:atS ts x ⟨i,bad,us⟩=b):
  Vc.Fn T F.pref04_Reader_At [.pointer (some ⟨bp,0,none⟩),.string (txt x)] h [Rbk bp s y e bad v] fun r h' L'=>L'=[Rbk bp s y e bad v]∧h'=h∧r=.bool b:=by
 cases ht:ts[i]? with
 | none=>
  have hb0:b=false:=by rw [← hb];unfold atS isAt;simp only;rw [ht];simp
  subst hb0
  have c1:=fun h w=>RNext_n h bp s ts i e y bad v w hy ht
  refine fn_of_codeI ok D.pref04_Reader_At rfl ?_
  conv=>whnf
  repeat ((first|refine oz ?_|refine cz ?_);conv=>whnf)
  repeat' first|((first|(show CallN _ _ _ _ _ _;(refine CallN.own 0 rfl rfl (c1 _ w) (fun v h' La hl hr=>?_);obtain ⟨rfl,rfl,rfl⟩:=hr;clear hl;refine ⟨_,rfl,?_⟩))|((first|refine oz ?_|refine cz ?_))|intro (_:Nat)|(show Ld _ _ _ _;first|refine Ld.own 0 rfl rfl ?_|refine Ld.own 1 rfl rfl ?_)|refine Sto.lit 0 rfl rfl rfl ?_) <;> (conv=>whnf))|(show cnd _ _ _;first|(refine cnd_lt (fun _=>?_) (fun _=>?_) <;> first|(exfalso;omega)|(conv=>whnf))|(refine cnd_eq (fun _=>?_) (fun _=>?_) <;> first|(exfalso;omega)|(conv=>whnf)))
  all_goals exact RetN.drop0 (RetN.done ⟨rfl,rfl,rfl⟩)
 | some t=>
  have hm:=List.mem_of_getElem? ht
  have ht8:=w.lt t hm
  obtain ⟨k1,-,-,-,-⟩:=rk_iff (w.ps t hm).2.1
  have c1:=fun h w=>RNext_s h bp s ts i e y bad v t w hy ht
  have y1:bad<0→rk t.kind=4→t.text=x→b=true:=fun a c d=>by
   rw [← hb];unfold atS isAt;simp only;rw [ht];simp [a,k1.1 c,d]
  have n1:¬(bad<0∧rk t.kind=4∧t.text=x)→b=false:=fun a=>by
   rw [← hb];unfold atS isAt;simp only;rw [ht]
   simp only [Bool.and_eq_false_iff,decide_eq_false_iff_not]
   by_cases c:bad<0
   ·exact .inr fun d=>a ⟨c,k1.2 d.1,d.2⟩
   ·exact .inl c
  obtain ⟨K,hK⟩:∃K,K=rk t.kind:=⟨_,rfl⟩
  obtain ⟨X,hX⟩:∃X,X=t.text:=⟨_,rfl⟩
  simp only [← hK,← hX] at c1 y1 n1 ht8
  clear hK hX k1 hb
  have sq1:X=x→seq (txt X) (txt x)=true:=fun a=>by subst a;unfold seq;exact beq_self_eq_true _
  have sq2:X≠x→seq (txt X) (txt x)=false:=fun a=>by
   unfold seq;rw [beq_eq_false_iff_ne];exact fun c=>a (txt_inj ht8 hx (toList_inj c))
  refine fn_of_codeI ok D.pref04_Reader_At rfl ?_
  conv=>whnf
  repeat ((first|refine oz ?_|refine cz ?_);conv=>whnf)
  repeat' first|((first|(show CallN _ _ _ _ _ _;(refine CallN.own 0 rfl rfl (c1 _ w) (fun v h' La hl hr=>?_);obtain ⟨rfl,rfl,rfl⟩:=hr;clear hl;refine ⟨_,rfl,?_⟩))|((first|refine oz ?_|refine cz ?_))|intro (_:Nat)|(show Ld _ _ _ _;first|refine Ld.own 0 rfl rfl ?_|refine Ld.own 1 rfl rfl ?_)|refine Sto.lit 0 rfl rfl rfl ?_) <;> (conv=>whnf))|(show cnd _ _ _;first|(refine cnd_lt (fun _=>?_) (fun _=>?_) <;> first|(exfalso;omega)|(conv=>whnf))|(refine cnd_eq (fun _=>?_) (fun _=>?_) <;> first|(exfalso;omega)|(conv=>whnf)))
  all_goals first
   | (rw [y1 (by omega) (by omega) (by assumption)];exact RetN.drop0 (RetN.done ⟨rfl,rfl,rfl⟩))
   | (rw [n1 (fun a=>by first|omega|exact absurd a.2.2 (by assumption))];exact RetN.drop0 (RetN.done ⟨rfl,rfl,rfl⟩))
   | (have e9:seq (txt X) (txt x)=b:=by
        by_cases hxx:X=x
        ·rw [y1 (by omega) (by omega) hxx,sq1 hxx]
        ·rw [n1 (fun a=>hxx a.2.2),sq2 hxx]
      exact RetN.drop0 (RetN.done ⟨rfl,rfl,congrArg Value.bool e9⟩))
theorem RFail_ct (h:Heap) (bp:Nat) (s:Sl) (ts:List Tk) (i e:Nat) (y bad:Int) (us:List (Tk × Bool)) (v:Value) (w:RTk h s ts) (hy:y=i):
  Vc.Fn T F.pref04_Reader_Fail [.pointer (some ⟨bp,0,none⟩)] h [Rbk bp s y e bad v] fun r h' L'=>L'=[Rbk bp s y e (failS ts e ⟨i,bad,us⟩).bad v]∧h'=h∧r=.tuple #[]:=by
 have f0:¬bad<0→(failS ts e ⟨i,bad,us⟩).bad=bad:=fun x=>by unfold failS;rw [if_neg x]
 have f1:bad<0→(failS ts e ⟨i,bad,us⟩).bad=(plc ts e i:Nat):=fun x=>by unfold failS;rw [if_pos x]
 obtain ⟨B,hB⟩:∃B,B=(failS ts e ⟨i,bad,us⟩).bad:=⟨_,rfl⟩
 rw [← hB] at f0 f1 ⊢
 clear hB
 by_cases hbad:bad<0
 ·rw [f1 hbad]
  cases ht:ts[i]? with
  | none=>
   rw [show plc ts e i=e by unfold plc;rw [ht]]
   have c1:=fun h w=>RNext_n h bp s ts i e y bad v w hy ht
   refine fn_of_codeI ok D.pref04_Reader_Fail rfl ?_
   conv=>whnf
   repeat ((first|refine oz ?_|refine cz ?_);conv=>whnf)
   repeat' first|((first|(show CallN _ _ _ _ _ _;(refine CallN.own 0 rfl rfl (c1 _ w) (fun v h' La hl hr=>?_);obtain ⟨rfl,rfl,rfl⟩:=hr;clear hl;refine ⟨_,rfl,?_⟩))|((first|refine oz ?_|refine cz ?_))|refine Ld.own 0 rfl rfl ?_|refine Sto.lit 0 rfl rfl rfl ?_) <;> (conv=>whnf))|(refine cnd_lt (fun _=>?_) (fun _=>?_) <;> first|(exfalso;omega)|(conv=>whnf))
   all_goals exact RetN.done ⟨rfl,rfl,rfl⟩
  | some t=>
   rw [show plc ts e i=t.pos by unfold plc;rw [ht]]
   have c1:=fun h w=>RNext_s h bp s ts i e y bad v t w hy ht
   refine fn_of_codeI ok D.pref04_Reader_Fail rfl ?_
   conv=>whnf
   repeat ((first|refine oz ?_|refine cz ?_);conv=>whnf)
   repeat' first|((first|(show CallN _ _ _ _ _ _;(refine CallN.own 0 rfl rfl (c1 _ w) (fun v h' La hl hr=>?_);obtain ⟨rfl,rfl,rfl⟩:=hr;clear hl;refine ⟨_,rfl,?_⟩))|((first|refine oz ?_|refine cz ?_))|refine Ld.own 0 rfl rfl ?_|refine Sto.lit 0 rfl rfl rfl ?_) <;> (conv=>whnf))|(refine cnd_lt (fun _=>?_) (fun _=>?_) <;> first|(exfalso;omega)|(conv=>whnf))
   all_goals exact RetN.done ⟨rfl,rfl,rfl⟩
 ·rw [f0 hbad]
  refine fn_of_codeI ok D.pref04_Reader_Fail rfl ?_
  conv=>whnf
  repeat ((first|refine oz ?_|refine cz ?_);conv=>whnf)
  repeat' first|((first|((first|refine oz ?_|refine cz ?_))|refine Ld.own 0 rfl rfl ?_) <;> (conv=>whnf))|(refine cnd_lt (fun _=>?_) (fun _=>?_) <;> first|(exfalso;omega)|(conv=>whnf))
  all_goals exact RetN.done ⟨rfl,rfl,rfl⟩
theorem RTake_ct (h:Heap) (bp:Nat) (s:Sl) (ts:List Tk) (i e:Nat) (y bad:Int) (us:List (Tk × Bool)) (v:Value) (x:List Nat) (w:RTk h s ts) (hy:y=i) (hi:i≤ts.length) (hx:∀y∈x,y<256):
  Vc.Fn T F.pref04_Reader_Take [.pointer (some ⟨bp,0,none⟩),.string (txt x)] h [Rbk bp s y e bad v] fun r h' L'=>L'=[Rbk bp s (takeS ts e x ⟨i,bad,us⟩).i e (takeS ts e x ⟨i,bad,us⟩).bad v]∧h'=h∧r=.tuple #[]:=by
 have hsz:=w.sz
 have c2:=fun h w=>RFail_ct h bp s ts i e y bad us v w hy
 cases hA:atS ts x ⟨i,bad,us⟩ with
 | true=>
  have c1:=fun h w=>RAt_ct h bp s ts i e y bad us v x true w hy hx hA
  have e1:takeS ts e x ⟨i,bad,us⟩=⟨i+1,bad,us⟩:=by unfold takeS;rw [if_pos hA];rfl
  rw [e1]
  refine fn_of_codeI ok D.pref04_Reader_Take rfl ?_
  conv=>whnf
  repeat ((first|refine oz ?_|refine cz ?_);conv=>whnf)
  repeat' first|((first|(show CallN _ _ _ _ _ _;(refine CallN.own 0 rfl rfl (c1 _ w) (fun v h' La hl hr=>?_);obtain ⟨rfl,rfl,rfl⟩:=hr;clear hl;refine ⟨_,rfl,?_⟩))|((first|refine oz ?_|refine cz ?_))|refine WrapN.i64 (by omega) (by omega) ?_|refine Ld.own 0 rfl rfl ?_|refine Sto.lit 0 rfl rfl rfl ?_) <;> (conv=>whnf))
  all_goals exact RetN.done ⟨congrArg (fun z=>[z]) (Rbk_eq (by simp only [Int.natCast_add,Int.natCast_one];omega) rfl),rfl,rfl⟩
 | false=>
  have c1:=fun h w=>RAt_ct h bp s ts i e y bad us v x false w hy hx hA
  have e1:takeS ts e x ⟨i,bad,us⟩=failS ts e ⟨i,bad,us⟩:=by unfold takeS;rw [if_neg (by rw [hA];decide)]
  have e2:(failS ts e ⟨i,bad,us⟩).i=i:=by unfold failS;split <;> rfl
  rw [e1,e2]
  obtain ⟨B,hB⟩:∃B,B=(failS ts e ⟨i,bad,us⟩).bad:=⟨_,rfl⟩
  simp only [← hB] at c2 ⊢
  clear hB e1 e2
  refine fn_of_codeI ok D.pref04_Reader_Take rfl ?_
  conv=>whnf
  repeat ((first|refine oz ?_|refine cz ?_);conv=>whnf)
  repeat' first|((first|(show CallN _ _ _ _ _ _;first|(refine CallN.own 0 rfl rfl (c1 _ w) (fun v h' La hl hr=>?_);obtain ⟨rfl,rfl,rfl⟩:=hr;clear hl;refine ⟨_,rfl,?_⟩)|(refine CallN.own 0 rfl rfl (c2 _ w) (fun v h' La hl hr=>?_);obtain ⟨rfl,rfl,rfl⟩:=hr;clear hl;refine ⟨_,rfl,?_⟩))|((first|refine oz ?_|refine cz ?_))) <;> (conv=>whnf))
  all_goals exact RetN.done ⟨congrArg (fun z=>[z]) (Rbk_eq hy rfl),rfl,rfl⟩
/-! counts -/
theorem Rwhole_ct (h:Heap) (l:List Nat) (hd:∀c∈l,dgt c=true) (hl:l.length≤1000000):Fn0 T F.ref04_whole [.string (txt l)] h fun v h'=>h'=h∧v=.int .i64 (whl l:Nat):=by
 have hz:=txt_size l
 have hb:∀y∈l,y<256:=fun y hy=>by have:=dgt_iff.1 (hd y hy);omega
 obtain ⟨V,hV⟩:∃V,V=whlV l 0:=⟨_,rfl⟩
 unfold whl
 rw [← hV]
 refine fn0_of_codeI ok D.ref04_whole rfl ?_
 conv=>whnf
 repeat ((first|refine oz ?_|refine cz ?_);conv=>whnf)
 skip
 refine LoopN.of (fun r ρ h' L=>∃j n:Nat,r=l.length-j∧h'=h∧rd ρ 4=.int .i64 j∧rd ρ 3=.int .i64 n∧j≤l.length∧n≤10000∧Hq (whlV (l.drop j) n=V)) l.length ⟨0,0,rfl,rfl,rfl,rfl,by omega,by omega,⟨hV.symm⟩⟩ ?_
 conv=>whnf
 repeat intro _
 rename_i r h1 L1 hI
 obtain ⟨j,n,rfl,rfl,e4,e3,hj,hn,hq⟩:=hI
 conv at e4=>lhs;whnf
 subst e4
 conv at e3=>lhs;whnf
 subst e3
 have q1:j=l.length→n=V:=fun x=>by
  have:=hq.out
  rw [x,List.drop_length] at this;exact this
 have q2:j<l.length→¬n<1000→n=V:=fun x y=>by
  have:=hq.out
  rw [List.drop_eq_getElem_cons x,whlV,if_neg y] at this;exact this
 have q3:j<l.length→n<1000→whlV (l.drop (j+1)) (n*10+(l.getD j 0-48))=V:=fun x y=>by
  have:=hq.out
  rw [List.drop_eq_getElem_cons x,whlV,if_pos y] at this
  rw [← this];congr 3
  simp [List.getD_eq_getElem?_getD,x]
 have q4:j<l.length→48≤l.getD j 0∧l.getD j 0≤57:=fun x=>dgt_iff.1 (hd _ (getD_mem x))
 obtain ⟨X,hX⟩:∃X,X=l.getD j 0:=⟨_,rfl⟩
 rw [← hX] at q3 q4
 replace q3:=Hq.mk q3
 clear hq
 have hmm:mm false (n:Int) 1000=((min n 1000:Nat):Int):=by unfold mm;simp only [Bool.false_eq_true,if_false];split <;> omega
 conv=>whnf
 repeat ((first|refine oz ?_|refine cz ?_);conv=>whnf)
 repeat' first|((first|(show IdxS _ _ _;(refine IdxS.txt l rfl hb j (by omega) (by omega) ?_;rw [← hX]))|(show WrapN _ _ _;first|(refine WrapN.u8 (by have:=q4 (by omega);omega) (by have:=q4 (by omega);omega) ?_)|(refine WrapN.i64 (by have:=q4 (by omega);omega) (by have:=q4 (by omega);omega) ?_))|((first|refine oz ?_|refine cz ?_))) <;> (conv=>whnf))|(refine cnd_lt (fun _=>?_) (fun _=>?_) <;> first|(exfalso;omega)|(conv=>whnf))
 all_goals first
  | exact ⟨rfl,l.length-(j+1),by omega,j+1,n*10+(X-48),rfl,rfl,vi (by omega),vi (by have:=q4 (by omega);omega),by omega,by have:=q4 (by omega);omega,⟨q3.out (by omega) (by omega)⟩⟩
  | (have hnV:n=V:=by first|exact q1 (by omega)|exact q2 (by omega) (by omega)
     subst hnV
     exact RetN.all ⟨rfl,vi hmm⟩)
theorem whl_le (l:List Nat):whl l≤1000:=by unfold whl;omega
def usv (u:Tk × Bool):List Value:=[.int .i64 (rk u.1.kind),.int .i64 u.1.pos,.string (txt u.1.text),.bool u.2]
def usc (us:List (Tk × Bool)):List Value:=us.flatMap usv
theorem usc_snoc (us:List (Tk × Bool)) (u:Tk × Bool):usc (us++[u])=usc us++usv u:=by unfold usc;simp
theorem dig_of {l:List Nat} (hd:dlen l=l.length):∀c∈l,dgt c=true:=fun y hy=>by
 by_cases hh:dgt y=true
 ·exact hh
 ·have:=takeWhile_not (p:=dgt) l ⟨y,hy,hh⟩
  unfold dlen at hd;omega
theorem RDig_ct (h:Heap) (bp:Nat) (s:Sl) (ts:List Tk) (i e:Nat) (y bad:Int) (us:List (Tk × Bool)) (root:Bool) (v:Value) (G:Vc.Own) (w:RTk h s ts) (hy:y=i) (hi:i≤ts.length) (hu:us.length≤i) (g:GrowS Ty.ref04_Use 4 v us.length (usc us) G):
  Vc.Fn T F.pref04_Reader_digits [.pointer (some ⟨bp,0,none⟩),.bool root] h (Rbk bp s y e bad v::G) fun r h' L'=>h'=h∧r=.int .i64 ((digS ts e root ⟨i,bad,us⟩).1:Nat)∧∃v' G',L'=Rbk bp s (digS ts e root ⟨i,bad,us⟩).2.i e (digS ts e root ⟨i,bad,us⟩).2.bad v'::G'∧
   GrowS Ty.ref04_Use 4 v' (digS ts e root ⟨i,bad,us⟩).2.us.length (usc (digS ts e root ⟨i,bad,us⟩).2.us) G':=by
 have hsz:=w.sz
 have c2:=fun h w=>RFail_ct h bp s ts i e y bad us v w hy
 have fi:(failS ts e ⟨i,bad,us⟩).i=i:=by unfold failS;split <;> rfl
 have fu:(failS ts e ⟨i,bad,us⟩).us=us:=by unfold failS;split <;> rfl
 obtain ⟨B,hB⟩:∃B,B=(failS ts e ⟨i,bad,us⟩).bad:=⟨_,rfl⟩
 simp only [← hB] at c2
 cases ht:ts[i]? with
 | none=>
  have e0:digS ts e root ⟨i,bad,us⟩=(0,failS ts e ⟨i,bad,us⟩):=by unfold digS;simp only;rw [ht]
  rw [e0]
  simp only [fi,fu,← hB]
  have c1:=fun h w=>RNext_n h bp s ts i e y bad v w hy ht
  clear e0 hB fi fu
  refine fn_of_codeI ok D.pref04_Reader_digits rfl ?_
  conv=>whnf
  repeat ((first|refine oz ?_|refine cz ?_);conv=>whnf)
  repeat' first|((first|(show CallN _ _ _ _ _ _;first|(refine CallN.own 0 rfl rfl (c1 _ w) (fun v h' La hl hr=>?_);obtain ⟨rfl,rfl,rfl⟩:=hr;clear hl;refine ⟨_,rfl,?_⟩)|(refine CallN.own 1 rfl rfl (c2 _ w) (fun v h' La hl hr=>?_);obtain ⟨rfl,rfl,rfl⟩:=hr;clear hl;refine ⟨_,rfl,?_⟩))|((first|refine oz ?_|refine cz ?_))|intro (_:Nat)|(show Ld _ _ _ _;first|refine Ld.own 0 rfl rfl ?_|refine Ld.own 1 rfl rfl ?_)|refine Sto.lit 0 rfl rfl rfl ?_|refine DrawN.run (by decide +kernel) ?_) <;> (conv=>whnf))|(show cnd _ _ _;first|(refine cnd_le (fun _=>?_) (fun _=>?_) <;> first|(exfalso;omega)|(conv=>whnf))|(refine cnd_eq (fun _=>?_) (fun _=>?_) <;> first|(exfalso;omega)|(conv=>whnf))|(refine cnd_not ?_))
  all_goals exact RetN.drop0 (RetN.done ⟨rfl,rfl,v,G,congrArg (·::G) (Rbk_eq hy rfl),g⟩)
 | some t=>
  have hm:=List.mem_of_getElem? ht
  have ht8:=w.lt t hm
  obtain ⟨pz,tz,tl⟩:=w.ps t hm
  obtain ⟨-,k1,-,-,-⟩:=rk_iff tz
  have hi2:=(List.getElem?_eq_some_iff.1 ht).1
  have zt:=txt_size t.text
  have c1:=fun h w=>RNext_s h bp s ts i e y bad v t w hy ht
  have c3:=fun h=>Rdigits_ct h t.text ht8 tl 0 (Nat.zero_le _) 0 rfl
  rw [List.drop_zero,Nat.zero_add] at c3
  have hdl:=dlen_le t.text
  by_cases hg:bad<0∧t.kind=1∧dlen t.text=t.text.length
  ·have e0:digS ts e root ⟨i,bad,us⟩=(whl t.text,⟨i+1,bad,us++[(t,root)]⟩):=by unfold digS;simp only;rw [ht];exact if_pos hg
   rw [e0]
   obtain ⟨g1,g2,g3⟩:=hg
   have c4:=fun h=>Rwhole_ct h t.text (dig_of g3) tl
   have hK:=k1.2 g2
   have hus:usv (t,root)=[.int .i64 1,.int .i64 t.pos,.string (txt t.text),.bool root]:=by unfold usv;rw [hK];rfl
   rw [hK] at c1
   obtain ⟨X,hX⟩:∃X,X=t.text:=⟨_,rfl⟩
   obtain ⟨P,hP⟩:∃P,P=t.pos:=⟨_,rfl⟩
   obtain ⟨DL,hD⟩:∃DL,DL=dlen t.text:=⟨_,rfl⟩
   rw [← hD] at g3 hdl
   simp only [← hD] at c3
   obtain ⟨Wh,hW⟩:∃D,D=whl t.text:=⟨_,rfl⟩
   simp only [← hW] at c4 ⊢
   simp only [← hX] at c1 c3 c4 zt tl g3 hdl hus
   simp only [← hP] at c1 pz hus
   clear hX hP hD hW e0 hB fi fu c2 k1 hK
   refine fn_of_codeI ok D.pref04_Reader_digits rfl ?_
   conv=>whnf
   repeat ((first|refine oz ?_|refine cz ?_);conv=>whnf)
   repeat' first|((first|(show CallN _ _ _ _ _ _;first|(refine CallN.own 0 rfl rfl (c1 _ w) (fun v h' La hl hr=>?_);obtain ⟨rfl,rfl,rfl⟩:=hr;clear hl;refine ⟨_,rfl,?_⟩)|refine CallN.quiet rfl (c3 _) ?_)|(show Ld _ _ _ _;first|refine Ld.own 0 rfl rfl ?_|refine Ld.own 1 rfl rfl ?_)|refine Sto.lit 0 rfl rfl rfl ?_|refine DrawN.run (by decide +kernel) ?_) <;> (conv=>whnf))|(refine codeI.stop 5 ?_)|((first|refine oz ?_|refine cz ?_);conv=>whnf)|(refine ⟨fun _=>HasLe.of_le (Heap.le_refl _),?_⟩;conv=>whnf)|(intro (_:Nat);conv=>whnf)|(show cnd _ _ _;first|(refine cnd_lt (fun _=>?_) (fun _=>?_) <;> first|(exfalso;omega)|(conv=>whnf))|(refine cnd_le (fun _=>?_) (fun _=>?_) <;> first|(exfalso;omega)|(conv=>whnf))|(refine cnd_eq (fun _=>?_) (fun _=>?_) <;> first|(exfalso;omega)|(conv=>whnf))|(refine cnd_not ?_))
   refine ⟨SeqN.go ?_⟩
   conv=>whnf
   repeat ((first|refine oz ?_|refine cz ?_);conv=>whnf)
   repeat' first|((first|(show DrawN _ _ _ _ _ _;refine DrawN.each (by decide +kernel) ?_)|(show CallN _ _ _ _ _ _;refine CallN.quiet rfl (c4 _) ?_)|(show App _ _ _ _ _ _ _ _ _;(refine App.growK0 (A:=[_,_,_]) (F:=G) (size:=4) (bytes:=40) (z:=[.int .i64 0,.int .i64 0,.string ByteArray.empty,.bool false]) rfl rfl g ⟨_,0,none⟩ 1 1 [_,_,_,_] rfl (Has.four _) rfl (by decide) (by omega) (by omega) (by decide) (fun v' F' g'=>?_);obtain ⟨sv',rfl⟩:=g'.sl))|((first|refine oz ?_|refine cz ?_))|refine ⟨fun _=>HasLe.of_le (Heap.le_refl _),?_⟩|refine ⟨fun _=>HasLe.cons _,?_⟩|refine ⟨fun hst=>(by cases (show true=false from hst)),?_⟩|intro (_:Nat)|refine WrapN.i64 (by omega) (by omega) ?_|refine LdN.own 0 rfl rfl ?_|(show Ld _ _ _ _;first|refine Ld.own 1 rfl rfl ?_|refine Ld.own 2 rfl rfl ?_)|refine Sto.lit 2 rfl rfl rfl ?_) <;> (conv=>whnf))|(refine Both.mk ?_ ?_ <;> (conv=>whnf))
   all_goals exact RetN.drop0 (RetN.drop0 (RetN.done ⟨rfl,rfl,_,F',congrArg (·::F') (Rbk_eq (by simp only [Int.natCast_add,Int.natCast_one];omega) rfl),by rw [List.length_append,usc_snoc,hus];exact g'⟩))
  ·have e0:digS ts e root ⟨i,bad,us⟩=(0,failS ts e ⟨i,bad,us⟩):=by unfold digS;simp only;rw [ht];exact if_neg hg
   rw [e0]
   simp only [fi,fu,← hB]
   have hn:¬(bad<0∧rk t.kind=1∧dlen t.text=t.text.length):=fun x=>hg ⟨x.1,k1.1 x.2.1,x.2.2⟩
   obtain ⟨X,hX⟩:∃X,X=t.text:=⟨_,rfl⟩
   obtain ⟨P,hP⟩:∃P,P=t.pos:=⟨_,rfl⟩
   obtain ⟨K,hK⟩:∃K,K=rk t.kind:=⟨_,rfl⟩
   obtain ⟨DL,hD⟩:∃DL,DL=dlen t.text:=⟨_,rfl⟩
   rw [← hD] at hn hdl
   simp only [← hD] at c3
   rw [← hK] at hn
   simp only [← hX] at c1 c3 zt tl hdl hn
   simp only [← hP] at c1 pz
   simp only [← hK] at c1
   clear hX hP hK hD e0 hB fi fu k1 hg
   refine fn_of_codeI ok D.pref04_Reader_digits rfl ?_
   conv=>whnf
   repeat ((first|refine oz ?_|refine cz ?_);conv=>whnf)
   repeat' first|((first|(show CallN _ _ _ _ _ _;first|(refine CallN.own 0 rfl rfl (c1 _ w) (fun v h' La hl hr=>?_);obtain ⟨rfl,rfl,rfl⟩:=hr;clear hl;refine ⟨_,rfl,?_⟩)|refine CallN.quiet rfl (c3 _) ?_|(refine CallN.own 1 rfl rfl (c2 _ w) (fun v h' La hl hr=>?_);obtain ⟨rfl,rfl,rfl⟩:=hr;clear hl;refine ⟨_,rfl,?_⟩))|((first|refine oz ?_|refine cz ?_))|refine ⟨fun _=>HasLe.of_le (Heap.le_refl _),?_⟩|intro (_:Nat)|(show Ld _ _ _ _;first|refine Ld.own 0 rfl rfl ?_|refine Ld.own 1 rfl rfl ?_)|refine Sto.lit 0 rfl rfl rfl ?_|refine DrawN.run (by decide +kernel) ?_) <;> (conv=>whnf))|(show cnd _ _ _;first|(refine cnd_lt (fun _=>?_) (fun _=>?_) <;> first|(exfalso;omega)|(conv=>whnf))|(refine cnd_le (fun _=>?_) (fun _=>?_) <;> first|(exfalso;omega)|(conv=>whnf))|(refine cnd_eq (fun _=>?_) (fun _=>?_) <;> first|(exfalso;omega)|(conv=>whnf))|(refine cnd_not ?_))
   all_goals exact RetN.drop0 (RetN.done ⟨rfl,rfl,v,G,congrArg (·::G) (Rbk_eq hy rfl),g⟩)
end Go.Proofs.YtmblpmegfmgjgaaGreatDoor
/- The document's reader: sums, products, factors. -/
namespace Go.Proofs.YtmblpmegfmgjgaaGreatDoor
open Go Go.Vc Go.Dig
def QRd (ts:List Tk) (bp:Nat) (s:Sl) (e:Nat) (val:Heap→Value→Tr→Prop) (x:Tr) (st':Rs) (a:Value) (h':Heap) (L':Vc.Own):Prop:=
 ∃v' G',st'.i≤ts.length∧st'.us.length≤st'.i∧L'=Rbk bp s st'.i e st'.bad v'::G'∧GrowS Ty.ref04_Use 4 v' st'.us.length (usc st'.us) G'∧val h' a x
def QCt (f:FuncId) (extra:List Value) (md:Md) (val:Heap→Value→Tr→Prop) (n:Nat):Prop:=
 ∀(ts:List Tk) (bp:Nat) (s:Sl) (e:Nat) (h:Heap) (i:Nat) (y bad:Int) (us:List (Tk × Bool)) (v:Value) (G:Vc.Own) (x:Tr) (st':Rs),RTk h s ts→y=(i:Int)→i≤ts.length→us.length≤i→GrowS Ty.ref04_Use 4 v us.length (usc us) G→qp ts e prs n md ⟨i,bad,us⟩=some (x,st')→
  Vc.Fn T f (.pointer (some ⟨bp,0,none⟩)::extra) h (Rbk bp s y e bad v::G) (QRd ts bp s e val x st')
theorem atS_lt {ts:List Tk} {x:List Nat} {i:Nat} {bad:Int} {us:List (Tk × Bool)} (h:atS ts x ⟨i,bad,us⟩=true):i<ts.length∧bad<0:=by
 unfold atS at h
 rw [Bool.and_eq_true,decide_eq_true_eq] at h
 exact ⟨isAt_lt h.2,h.1⟩
theorem atS_ne {ts:List Tk} {x z:List Nat} {st:Rs} (h:atS ts x st=true) (hn:x≠z):atS ts z st=false:=by
 unfold atS isAt at h ⊢
 rw [Bool.and_eq_true] at h
 cases ht:ts[st.i]? with
 | none=>simp
 | some t=>
  rw [ht] at h
  have h2:=of_decide_eq_true h.2
  simp only [Bool.and_eq_false_iff,decide_eq_false_iff_not]
  exact .inr fun d=>hn (h2.2.symm.trans d.2)
theorem digS_inv {ts:List Tk} {e i:Nat} {root:Bool} {bad:Int} {us:List (Tk × Bool)} (hi:i≤ts.length) (hu:us.length≤i):(digS ts e root ⟨i,bad,us⟩).2.i≤ts.length∧(digS ts e root ⟨i,bad,us⟩).2.us.length≤(digS ts e root ⟨i,bad,us⟩).2.i∧(digS ts e root ⟨i,bad,us⟩).1≤1000:=by
 have hf:(failS ts e ⟨i,bad,us⟩).i=i∧(failS ts e ⟨i,bad,us⟩).us=us:=by unfold failS;split <;> exact ⟨rfl,rfl⟩
 unfold digS
 simp only
 split
 ·rename_i t ht
  have:=(List.getElem?_eq_some_iff.1 ht).1
  split
  ·refine ⟨this,?_,whl_le _⟩
   show (us++[(t,root)]).length≤i+1
   rw [List.length_append,List.length_singleton];omega
  ·rw [hf.1,hf.2];exact ⟨hi,hu,Nat.zero_le _⟩
 ·rw [hf.1,hf.2];exact ⟨hi,hu,Nat.zero_le _⟩
theorem takeS_inv {ts:List Tk} {e i:Nat} {x:List Nat} {bad:Int} {us:List (Tk × Bool)} (hi:i≤ts.length) (hu:us.length≤i):(takeS ts e x ⟨i,bad,us⟩).i≤ts.length∧(takeS ts e x ⟨i,bad,us⟩).us=us∧us.length≤(takeS ts e x ⟨i,bad,us⟩).i:=by
 unfold takeS
 split
 ·rename_i h
  have:=(atS_lt h).1
  exact ⟨this,rfl,Nat.le_succ_of_le hu⟩
 ·unfold failS;split <;> exact ⟨hi,rfl,hu⟩
attribute [local irreducible] Vc.Fn
theorem RSum (n:Nat) (ih:∀m,m<n→QCt F.pref04_Reader_term [] .term VE m):QCt F.pref04_Reader_Sum [] .sum VE n:=by
 intro ts bp s e h i y bad us v G x st' w hy hi hu g hp
 cases n with
 | zero=>rw [qp] at hp;cases hp
 | succ n=>
  rw [qp] at hp
  cases h1:qp ts e prs n .term ⟨i,bad,us⟩ with
  | none=>rw [h1] at hp;cases hp
  | some r1=>
   obtain ⟨x1,i1,bad1,us1⟩:=r1
   rw [h1] at hp
   replace hp:qp ts e prs n (.sumL x1) ⟨i1,bad1,us1⟩=some (x,st'):=hp
   have c1:∀h y,RTk h s ts→y=((i:Nat):Int)→Vc.Fn T F.pref04_Reader_term [.pointer (some ⟨bp,0,none⟩)] h (Rbk bp s y e bad v::G) fun a h' L'=>∃v' G',i1≤ts.length∧us1.length≤i1∧L'=Rbk bp s i1 e bad1 v'::G'∧GrowS Ty.ref04_Use 4 v' us1.length (usc us1) G'∧VE h' a x1:=fun h y w hy=>ih n (by omega) ts bp s e h (i) y bad us v G x1 ⟨i1,bad1,us1⟩ w hy hi hu g h1
   refine fn_of_codeI ok D.pref04_Reader_Sum rfl ?_
   conv=>whnf
   repeat ((first|refine oz ?_|refine cz ?_);conv=>whnf)
   repeat' first|((first|(show CallN _ _ _ _ _ _;(refine CallN.all (A:=[_]) rfl (c1 _ _ (w.mono (by first|assumption|exact Heap.le_refl _)) hy) (fun v h' Lp hl hr=>?_);obtain ⟨v1,G1,hi1,hu1,rfl,g1,op1,ar1,ng1,nn1,dd1,nm1,ss1,rfl,hE1⟩:=hr))|((first|refine oz ?_|refine cz ?_))|intro (_:Nat)|refine Sto.lit 0 rfl rfl rfl ?_) <;> (conv=>whnf))
   rename_i b2 b3
   refine LoopN.of (fun q ρ hx L=>∃(m:Nat) (tr:Tr) (i:Nat) (bad:Int) (us:List (Tk × Bool)) (v:Value) (G:Vc.Own) (op ar:Int) (ng:Bool) (nn dd:Sl) (nm:List Nat) (ss:Sl),q=m∧m≤n∧h'.le hx∧
     L=(b3,.cells [.int .i64 op,.int .i64 ar,.bool ng,nn.val,dd.val,.string (txt nm),ss.val].toArray Ty.api_Expr (0,0))::(b2,.cells [.int .i64 0,.int .i64 0,.bool false,.slice none 0 0,.slice none 0 0,.string (txt []),.slice none 0 0].toArray Ty.api_Expr (0,0))::Rbk bp s i e bad v::G∧
     IsE hx [.int .i64 op,.int .i64 ar,.bool ng,nn.val,dd.val,.string (txt nm),ss.val] tr∧i≤ts.length∧us.length≤i∧GrowS Ty.ref04_Use 4 v us.length (usc us) G∧Hq (qp ts e prs m (.sumL tr) ⟨i,bad,us⟩=some (x,st'))) n
    ⟨n,x1,i1,bad1,us1,v1,G1,op1,ar1,ng1,nn1,dd1,nm1,ss1,rfl,Nat.le_refl _,Heap.le_refl _,rfl,hE1,hi1,hu1,g1,⟨hp⟩⟩ ?_
   have w1:=w.mono hl
   clear hp h1 c1 hE1 g1 g w hl
   conv=>whnf
   repeat intro _
   rename_i q h3 L3 hI
   obtain ⟨m,tr,i1,bad1,us1,v1,G1,op,ar,ng,nn,dd,nm,ss,rfl,hm,hl3,rfl,hE,hi1,hu1,g1,⟨hp⟩⟩:=hI
   have w3:=w1.mono hl3
   have hsz:=w3.sz
   cases q with
   | zero=>rw [qp] at hp;cases hp
   | succ m=>
    rw [qp] at hp
    by_cases hA:atS ts [43] ⟨i1,bad1,us1⟩=true
    ·rw [if_pos hA] at hp
     have hi2:=(atS_lt hA).1
     have a1:=fun h w=>RAt_ct h bp s ts i1 e i1 bad1 us1 v1 [43] true w rfl (by decide) hA
     have a2:=fun h w=>RAt_ct h bp s ts i1 e i1 bad1 us1 v1 [45] false w rfl (by decide) (atS_ne hA (by decide))
     replace hp:Rs.bnd (qp ts e prs m .term ⟨i1+1,bad1,us1⟩) (fun f st=>qp ts e prs m (.sumL (nodeT 5 0 [tr,f])) st)=some (x,st'):=hp
     cases h1:qp ts e prs m .term ⟨i1+1,bad1,us1⟩ with
     | none=>rw [h1] at hp;cases hp
     | some r1=>
      obtain ⟨x2,i2,bad2,us2⟩:=r1
      rw [h1] at hp
      replace hp:qp ts e prs m (.sumL (nodeT 5 0 [tr,x2])) ⟨i2,bad2,us2⟩=some (x,st'):=hp
      have c1:∀h y,RTk h s ts→y=((i1+1:Nat):Int)→Vc.Fn T F.pref04_Reader_term [.pointer (some ⟨bp,0,none⟩)] h (Rbk bp s y e bad1 v1::G1) fun a h' L'=>∃v' G',i2≤ts.length∧us2.length≤i2∧L'=Rbk bp s i2 e bad2 v'::G'∧GrowS Ty.ref04_Use 4 v' us2.length (usc us2) G'∧VE h' a x2:=fun h y w hy=>ih m (by omega) ts bp s e h (i1+1) y bad1 us1 v1 G1 x2 ⟨i2,bad2,us2⟩ w hy hi2 (by omega) g1 h1
      conv=>whnf
      repeat ((first|refine oz ?_|refine cz ?_);conv=>whnf)
      repeat' first|((first|(show SeqN _ _ _ _ _ _ _;refine SeqN.go ?_)|(show CallN _ _ _ _ _ _;first|(refine CallN.own 2 rfl rfl (a1 _ (w3.mono (by first|assumption|exact Heap.le_refl _))) (fun v h' La hl hr=>?_);obtain ⟨rfl,rfl,rfl⟩:=hr;clear hl;refine ⟨_,rfl,?_⟩)|(refine CallN.own 2 rfl rfl (a2 _ (w3.mono (by first|assumption|exact Heap.le_refl _))) (fun v h' La hl hr=>?_);obtain ⟨rfl,rfl,rfl⟩:=hr;clear hl;refine ⟨_,rfl,?_⟩)|(refine CallN.all (A:=[_,_]) rfl (c1 _ _ (w3.mono (by first|assumption|exact Heap.le_refl _)) (by omega)) (fun v h' Lp hl hr=>?_);obtain ⟨v2,G2,hi2,hu2,rfl,g2,op2,ar2,ng2,nn2,dd2,nm2,ss2,rfl,hE2⟩:=hr)|(refine CallN.keep 0 rfl rfl (fun hl5=>?_);refine CallN.fn rfl (rtwo_ct _ (by first|decide|exact ⟨by omega,by omega⟩) _ _ _ _ _ (hE.mono (by (iterate 30 try first|assumption|refine Heap.le_trans ?_ (by assumption));first|done|assumption)) (hE2.mono (by assumption))) (fun v h' hl2 hr=>?_);obtain ⟨op9,ar9,ng9,nn9,dd9,nm9,ss9,rfl,hE9⟩:=hr))|((first|refine oz ?_|refine cz ?_))|intro (_:Nat)|refine WrapN.i64 (by omega) (by omega) ?_|(show LdN _ _ _ _ _;first|refine LdN.own 0 rfl rfl ?_|refine LdN.own 1 rfl rfl ?_)|refine Ld.own 2 rfl rfl ?_|(show Sto _ _ _ _;first|refine Sto.lit 0 rfl rfl rfl ?_|refine Sto.lit 2 rfl rfl rfl ?_)) <;> (conv=>whnf))
      all_goals exact ⟨rfl,m,by omega,m,nodeT 5 0 [tr,x2],i2,bad2,us2,v2,G2,op9,ar9,ng9,nn9,dd9,nm9,ss9,rfl,by omega,(by (iterate 30 try first|assumption|refine Heap.le_trans ?_ (by assumption));first|done|assumption),rfl,hE9,hi2,hu2,g2,⟨hp⟩⟩
    ·rw [if_neg hA] at hp
     have hA':atS ts [43] ⟨i1,bad1,us1⟩=false:=by simpa using hA
     have a1:=fun h w=>RAt_ct h bp s ts i1 e i1 bad1 us1 v1 [43] false w rfl (by decide) hA'
     by_cases hB:atS ts [45] ⟨i1,bad1,us1⟩=true
     ·rw [if_pos hB] at hp
      have hi2:=(atS_lt hB).1
      have a2:=fun h w=>RAt_ct h bp s ts i1 e i1 bad1 us1 v1 [45] true w rfl (by decide) hB
      replace hp:Rs.bnd (qp ts e prs m .term ⟨i1+1,bad1,us1⟩) (fun f st=>qp ts e prs m (.sumL (nodeT 6 0 [tr,f])) st)=some (x,st'):=hp
      cases h1:qp ts e prs m .term ⟨i1+1,bad1,us1⟩ with
      | none=>rw [h1] at hp;cases hp
      | some r1=>
       obtain ⟨x2,i2,bad2,us2⟩:=r1
       rw [h1] at hp
       replace hp:qp ts e prs m (.sumL (nodeT 6 0 [tr,x2])) ⟨i2,bad2,us2⟩=some (x,st'):=hp
       have c1:∀h y,RTk h s ts→y=((i1+1:Nat):Int)→Vc.Fn T F.pref04_Reader_term [.pointer (some ⟨bp,0,none⟩)] h (Rbk bp s y e bad1 v1::G1) fun a h' L'=>∃v' G',i2≤ts.length∧us2.length≤i2∧L'=Rbk bp s i2 e bad2 v'::G'∧GrowS Ty.ref04_Use 4 v' us2.length (usc us2) G'∧VE h' a x2:=fun h y w hy=>ih m (by omega) ts bp s e h (i1+1) y bad1 us1 v1 G1 x2 ⟨i2,bad2,us2⟩ w hy hi2 (by omega) g1 h1
       conv=>whnf
       repeat ((first|refine oz ?_|refine cz ?_);conv=>whnf)
       repeat' first|((first|(show SeqN _ _ _ _ _ _ _;refine SeqN.go ?_)|(show CallN _ _ _ _ _ _;first|(refine CallN.own 2 rfl rfl (a1 _ (w3.mono (by first|assumption|exact Heap.le_refl _))) (fun v h' La hl hr=>?_);obtain ⟨rfl,rfl,rfl⟩:=hr;clear hl;refine ⟨_,rfl,?_⟩)|(refine CallN.own 2 rfl rfl (a2 _ (w3.mono (by first|assumption|exact Heap.le_refl _))) (fun v h' La hl hr=>?_);obtain ⟨rfl,rfl,rfl⟩:=hr;clear hl;refine ⟨_,rfl,?_⟩)|(refine CallN.all (A:=[_,_]) rfl (c1 _ _ (w3.mono (by first|assumption|exact Heap.le_refl _)) (by omega)) (fun v h' Lp hl hr=>?_);obtain ⟨v2,G2,hi2,hu2,rfl,g2,op2,ar2,ng2,nn2,dd2,nm2,ss2,rfl,hE2⟩:=hr)|(refine CallN.keep 0 rfl rfl (fun hl5=>?_);refine CallN.fn rfl (rtwo_ct _ (by first|decide|exact ⟨by omega,by omega⟩) _ _ _ _ _ (hE.mono (by (iterate 30 try first|assumption|refine Heap.le_trans ?_ (by assumption));first|done|assumption)) (hE2.mono (by assumption))) (fun v h' hl2 hr=>?_);obtain ⟨op9,ar9,ng9,nn9,dd9,nm9,ss9,rfl,hE9⟩:=hr))|((first|refine oz ?_|refine cz ?_))|intro (_:Nat)|refine WrapN.i64 (by omega) (by omega) ?_|(show LdN _ _ _ _ _;first|refine LdN.own 0 rfl rfl ?_|refine LdN.own 1 rfl rfl ?_)|refine Ld.own 2 rfl rfl ?_|(show Sto _ _ _ _;first|refine Sto.lit 0 rfl rfl rfl ?_|refine Sto.lit 2 rfl rfl rfl ?_)) <;> (conv=>whnf))
       all_goals exact ⟨rfl,m,by omega,m,nodeT 6 0 [tr,x2],i2,bad2,us2,v2,G2,op9,ar9,ng9,nn9,dd9,nm9,ss9,rfl,by omega,(by (iterate 30 try first|assumption|refine Heap.le_trans ?_ (by assumption));first|done|assumption),rfl,hE9,hi2,hu2,g2,⟨hp⟩⟩
     ·rw [if_neg hB] at hp
      cases hp
      have hB':atS ts [45] ⟨i1,bad1,us1⟩=false:=by simpa using hB
      have a2:=fun h w=>RAt_ct h bp s ts i1 e i1 bad1 us1 v1 [45] false w rfl (by decide) hB'
      conv=>whnf
      repeat ((first|refine oz ?_|refine cz ?_);conv=>whnf)
      repeat' first|((first|(show CallN _ _ _ _ _ _;first|(refine CallN.own 2 rfl rfl (a1 _ (w3.mono (by first|assumption|exact Heap.le_refl _))) (fun v h' La hl hr=>?_);obtain ⟨rfl,rfl,rfl⟩:=hr;clear hl;refine ⟨_,rfl,?_⟩)|(refine CallN.own 2 rfl rfl (a2 _ (w3.mono (by first|assumption|exact Heap.le_refl _))) (fun v h' La hl hr=>?_);obtain ⟨rfl,rfl,rfl⟩:=hr;clear hl;refine ⟨_,rfl,?_⟩))|((first|refine oz ?_|refine cz ?_))|(show LdN _ _ _ _ _;first|refine LdN.own 0 rfl rfl ?_|refine LdN.own 1 rfl rfl ?_)|refine Sto.lit 1 rfl rfl rfl ?_) <;> (conv=>whnf))
      all_goals exact RetN.drop0 (RetN.drop0 (RetN.done ⟨v1,G1,hi1,hu1,rfl,g1,op,ar,ng,nn,dd,nm,ss,rfl,hE⟩))
theorem Rterm (n:Nat) (ih:∀m,m<n→QCt F.pref04_Reader_factor [] .fac VE m):QCt F.pref04_Reader_term [] .term VE n:=by
 intro ts bp s e h i y bad us v G x st' w hy hi hu g hp
 cases n with
 | zero=>rw [qp] at hp;cases hp
 | succ n=>
  rw [qp] at hp
  cases h1:qp ts e prs n .fac ⟨i,bad,us⟩ with
  | none=>rw [h1] at hp;cases hp
  | some r1=>
   obtain ⟨x1,i1,bad1,us1⟩:=r1
   rw [h1] at hp
   replace hp:qp ts e prs n (.termL x1) ⟨i1,bad1,us1⟩=some (x,st'):=hp
   have c1:∀h y,RTk h s ts→y=((i:Nat):Int)→Vc.Fn T F.pref04_Reader_factor [.pointer (some ⟨bp,0,none⟩)] h (Rbk bp s y e bad v::G) fun a h' L'=>∃v' G',i1≤ts.length∧us1.length≤i1∧L'=Rbk bp s i1 e bad1 v'::G'∧GrowS Ty.ref04_Use 4 v' us1.length (usc us1) G'∧VE h' a x1:=fun h y w hy=>ih n (by omega) ts bp s e h (i) y bad us v G x1 ⟨i1,bad1,us1⟩ w hy hi hu g h1
   refine fn_of_codeI ok D.pref04_Reader_term rfl ?_
   conv=>whnf
   repeat ((first|refine oz ?_|refine cz ?_);conv=>whnf)
   repeat' first|((first|(show CallN _ _ _ _ _ _;(refine CallN.all (A:=[_]) rfl (c1 _ _ (w.mono (by first|assumption|exact Heap.le_refl _)) hy) (fun v h' Lp hl hr=>?_);obtain ⟨v1,G1,hi1,hu1,rfl,g1,op1,ar1,ng1,nn1,dd1,nm1,ss1,rfl,hE1⟩:=hr))|((first|refine oz ?_|refine cz ?_))|intro (_:Nat)|refine Sto.lit 0 rfl rfl rfl ?_) <;> (conv=>whnf))
   rename_i b2 b3
   refine LoopN.of (fun q ρ hx L=>∃(m:Nat) (tr:Tr) (i:Nat) (bad:Int) (us:List (Tk × Bool)) (v:Value) (G:Vc.Own) (op ar:Int) (ng:Bool) (nn dd:Sl) (nm:List Nat) (ss:Sl),q=m∧m≤n∧h'.le hx∧
     L=(b3,.cells [.int .i64 op,.int .i64 ar,.bool ng,nn.val,dd.val,.string (txt nm),ss.val].toArray Ty.api_Expr (0,0))::(b2,.cells [.int .i64 0,.int .i64 0,.bool false,.slice none 0 0,.slice none 0 0,.string (txt []),.slice none 0 0].toArray Ty.api_Expr (0,0))::Rbk bp s i e bad v::G∧
     IsE hx [.int .i64 op,.int .i64 ar,.bool ng,nn.val,dd.val,.string (txt nm),ss.val] tr∧i≤ts.length∧us.length≤i∧GrowS Ty.ref04_Use 4 v us.length (usc us) G∧Hq (qp ts e prs m (.termL tr) ⟨i,bad,us⟩=some (x,st'))) n
    ⟨n,x1,i1,bad1,us1,v1,G1,op1,ar1,ng1,nn1,dd1,nm1,ss1,rfl,Nat.le_refl _,Heap.le_refl _,rfl,hE1,hi1,hu1,g1,⟨hp⟩⟩ ?_
   have w1:=w.mono hl
   clear hp h1 c1 hE1 g1 g w hl
   conv=>whnf
   repeat intro _
   rename_i q h3 L3 hI
   obtain ⟨m,tr,i1,bad1,us1,v1,G1,op,ar,ng,nn,dd,nm,ss,rfl,hm,hl3,rfl,hE,hi1,hu1,g1,⟨hp⟩⟩:=hI
   have w3:=w1.mono hl3
   have hsz:=w3.sz
   cases q with
   | zero=>rw [qp] at hp;cases hp
   | succ m=>
    rw [qp] at hp
    by_cases hA:atS ts [42] ⟨i1,bad1,us1⟩=true
    ·rw [if_pos hA] at hp
     have hi2:=(atS_lt hA).1
     have a1:=fun h w=>RAt_ct h bp s ts i1 e i1 bad1 us1 v1 [42] true w rfl (by decide) hA
     have a2:=fun h w=>RAt_ct h bp s ts i1 e i1 bad1 us1 v1 [47] false w rfl (by decide) (atS_ne hA (by decide))
     replace hp:Rs.bnd (qp ts e prs m .fac ⟨i1+1,bad1,us1⟩) (fun f st=>qp ts e prs m (.termL (nodeT 7 0 [tr,f])) st)=some (x,st'):=hp
     cases h1:qp ts e prs m .fac ⟨i1+1,bad1,us1⟩ with
     | none=>rw [h1] at hp;cases hp
     | some r1=>
      obtain ⟨x2,i2,bad2,us2⟩:=r1
      rw [h1] at hp
      replace hp:qp ts e prs m (.termL (nodeT 7 0 [tr,x2])) ⟨i2,bad2,us2⟩=some (x,st'):=hp
      have c1:∀h y,RTk h s ts→y=((i1+1:Nat):Int)→Vc.Fn T F.pref04_Reader_factor [.pointer (some ⟨bp,0,none⟩)] h (Rbk bp s y e bad1 v1::G1) fun a h' L'=>∃v' G',i2≤ts.length∧us2.length≤i2∧L'=Rbk bp s i2 e bad2 v'::G'∧GrowS Ty.ref04_Use 4 v' us2.length (usc us2) G'∧VE h' a x2:=fun h y w hy=>ih m (by omega) ts bp s e h (i1+1) y bad1 us1 v1 G1 x2 ⟨i2,bad2,us2⟩ w hy hi2 (by omega) g1 h1
      conv=>whnf
      repeat ((first|refine oz ?_|refine cz ?_);conv=>whnf)
      repeat' first|((first|(show SeqN _ _ _ _ _ _ _;refine SeqN.go ?_)|(show CallN _ _ _ _ _ _;first|(refine CallN.own 2 rfl rfl (a1 _ (w3.mono (by first|assumption|exact Heap.le_refl _))) (fun v h' La hl hr=>?_);obtain ⟨rfl,rfl,rfl⟩:=hr;clear hl;refine ⟨_,rfl,?_⟩)|(refine CallN.own 2 rfl rfl (a2 _ (w3.mono (by first|assumption|exact Heap.le_refl _))) (fun v h' La hl hr=>?_);obtain ⟨rfl,rfl,rfl⟩:=hr;clear hl;refine ⟨_,rfl,?_⟩)|(refine CallN.all (A:=[_,_]) rfl (c1 _ _ (w3.mono (by first|assumption|exact Heap.le_refl _)) (by omega)) (fun v h' Lp hl hr=>?_);obtain ⟨v2,G2,hi2,hu2,rfl,g2,op2,ar2,ng2,nn2,dd2,nm2,ss2,rfl,hE2⟩:=hr)|(refine CallN.keep 0 rfl rfl (fun hl5=>?_);refine CallN.fn rfl (rtwo_ct _ (by first|decide|exact ⟨by omega,by omega⟩) _ _ _ _ _ (hE.mono (by (iterate 30 try first|assumption|refine Heap.le_trans ?_ (by assumption));first|done|assumption)) (hE2.mono (by assumption))) (fun v h' hl2 hr=>?_);obtain ⟨op9,ar9,ng9,nn9,dd9,nm9,ss9,rfl,hE9⟩:=hr))|((first|refine oz ?_|refine cz ?_))|intro (_:Nat)|refine WrapN.i64 (by omega) (by omega) ?_|(show LdN _ _ _ _ _;first|refine LdN.own 0 rfl rfl ?_|refine LdN.own 1 rfl rfl ?_)|refine Ld.own 2 rfl rfl ?_|(show Sto _ _ _ _;first|refine Sto.lit 0 rfl rfl rfl ?_|refine Sto.lit 2 rfl rfl rfl ?_)) <;> (conv=>whnf))
      all_goals exact ⟨rfl,m,by omega,m,nodeT 7 0 [tr,x2],i2,bad2,us2,v2,G2,op9,ar9,ng9,nn9,dd9,nm9,ss9,rfl,by omega,(by (iterate 30 try first|assumption|refine Heap.le_trans ?_ (by assumption));first|done|assumption),rfl,hE9,hi2,hu2,g2,⟨hp⟩⟩
    ·rw [if_neg hA] at hp
     have hA':atS ts [42] ⟨i1,bad1,us1⟩=false:=by simpa using hA
     have a1:=fun h w=>RAt_ct h bp s ts i1 e i1 bad1 us1 v1 [42] false w rfl (by decide) hA'
     by_cases hB:atS ts [47] ⟨i1,bad1,us1⟩=true
     ·rw [if_pos hB] at hp
      have hi2:=(atS_lt hB).1
      have a2:=fun h w=>RAt_ct h bp s ts i1 e i1 bad1 us1 v1 [47] true w rfl (by decide) hB
      replace hp:Rs.bnd (qp ts e prs m .fac ⟨i1+1,bad1,us1⟩) (fun f st=>qp ts e prs m (.termL (nodeT 8 0 [tr,f])) st)=some (x,st'):=hp
      cases h1:qp ts e prs m .fac ⟨i1+1,bad1,us1⟩ with
      | none=>rw [h1] at hp;cases hp
      | some r1=>
       obtain ⟨x2,i2,bad2,us2⟩:=r1
       rw [h1] at hp
       replace hp:qp ts e prs m (.termL (nodeT 8 0 [tr,x2])) ⟨i2,bad2,us2⟩=some (x,st'):=hp
       have c1:∀h y,RTk h s ts→y=((i1+1:Nat):Int)→Vc.Fn T F.pref04_Reader_factor [.pointer (some ⟨bp,0,none⟩)] h (Rbk bp s y e bad1 v1::G1) fun a h' L'=>∃v' G',i2≤ts.length∧us2.length≤i2∧L'=Rbk bp s i2 e bad2 v'::G'∧GrowS Ty.ref04_Use 4 v' us2.length (usc us2) G'∧VE h' a x2:=fun h y w hy=>ih m (by omega) ts bp s e h (i1+1) y bad1 us1 v1 G1 x2 ⟨i2,bad2,us2⟩ w hy hi2 (by omega) g1 h1
       conv=>whnf
       repeat ((first|refine oz ?_|refine cz ?_);conv=>whnf)
       repeat' first|((first|(show SeqN _ _ _ _ _ _ _;refine SeqN.go ?_)|(show CallN _ _ _ _ _ _;first|(refine CallN.own 2 rfl rfl (a1 _ (w3.mono (by first|assumption|exact Heap.le_refl _))) (fun v h' La hl hr=>?_);obtain ⟨rfl,rfl,rfl⟩:=hr;clear hl;refine ⟨_,rfl,?_⟩)|(refine CallN.own 2 rfl rfl (a2 _ (w3.mono (by first|assumption|exact Heap.le_refl _))) (fun v h' La hl hr=>?_);obtain ⟨rfl,rfl,rfl⟩:=hr;clear hl;refine ⟨_,rfl,?_⟩)|(refine CallN.all (A:=[_,_]) rfl (c1 _ _ (w3.mono (by first|assumption|exact Heap.le_refl _)) (by omega)) (fun v h' Lp hl hr=>?_);obtain ⟨v2,G2,hi2,hu2,rfl,g2,op2,ar2,ng2,nn2,dd2,nm2,ss2,rfl,hE2⟩:=hr)|(refine CallN.keep 0 rfl rfl (fun hl5=>?_);refine CallN.fn rfl (rtwo_ct _ (by first|decide|exact ⟨by omega,by omega⟩) _ _ _ _ _ (hE.mono (by (iterate 30 try first|assumption|refine Heap.le_trans ?_ (by assumption));first|done|assumption)) (hE2.mono (by assumption))) (fun v h' hl2 hr=>?_);obtain ⟨op9,ar9,ng9,nn9,dd9,nm9,ss9,rfl,hE9⟩:=hr))|((first|refine oz ?_|refine cz ?_))|intro (_:Nat)|refine WrapN.i64 (by omega) (by omega) ?_|(show LdN _ _ _ _ _;first|refine LdN.own 0 rfl rfl ?_|refine LdN.own 1 rfl rfl ?_)|refine Ld.own 2 rfl rfl ?_|(show Sto _ _ _ _;first|refine Sto.lit 0 rfl rfl rfl ?_|refine Sto.lit 2 rfl rfl rfl ?_)) <;> (conv=>whnf))
       all_goals exact ⟨rfl,m,by omega,m,nodeT 8 0 [tr,x2],i2,bad2,us2,v2,G2,op9,ar9,ng9,nn9,dd9,nm9,ss9,rfl,by omega,(by (iterate 30 try first|assumption|refine Heap.le_trans ?_ (by assumption));first|done|assumption),rfl,hE9,hi2,hu2,g2,⟨hp⟩⟩
     ·rw [if_neg hB] at hp
      cases hp
      have hB':atS ts [47] ⟨i1,bad1,us1⟩=false:=by simpa using hB
      have a2:=fun h w=>RAt_ct h bp s ts i1 e i1 bad1 us1 v1 [47] false w rfl (by decide) hB'
      conv=>whnf
      repeat ((first|refine oz ?_|refine cz ?_);conv=>whnf)
      repeat' first|((first|(show CallN _ _ _ _ _ _;first|(refine CallN.own 2 rfl rfl (a1 _ (w3.mono (by first|assumption|exact Heap.le_refl _))) (fun v h' La hl hr=>?_);obtain ⟨rfl,rfl,rfl⟩:=hr;clear hl;refine ⟨_,rfl,?_⟩)|(refine CallN.own 2 rfl rfl (a2 _ (w3.mono (by first|assumption|exact Heap.le_refl _))) (fun v h' La hl hr=>?_);obtain ⟨rfl,rfl,rfl⟩:=hr;clear hl;refine ⟨_,rfl,?_⟩))|((first|refine oz ?_|refine cz ?_))|(show LdN _ _ _ _ _;first|refine LdN.own 0 rfl rfl ?_|refine LdN.own 1 rfl rfl ?_)|refine Sto.lit 1 rfl rfl rfl ?_) <;> (conv=>whnf))
      all_goals exact RetN.drop0 (RetN.drop0 (RetN.done ⟨v1,G1,hi1,hu1,rfl,g1,op,ar,ng,nn,dd,nm,ss,rfl,hE⟩))
theorem Rfactor (n:Nat) (ihf:∀m,m<n→QCt F.pref04_Reader_factor [] .fac VE m) (iha:∀m,m<n→QCt F.pref04_Reader_atom [] .atom VE m):QCt F.pref04_Reader_factor [] .fac VE n:=by
 intro ts bp s e h i y bad us v G x st' w hy hi hu g hp
 have hsz:=w.sz
 cases n with
 | zero=>rw [qp] at hp;cases hp
 | succ n=>
  rw [qp] at hp
  by_cases hA:atS ts [45] ⟨i,bad,us⟩=true
  ·rw [if_pos hA] at hp
   have hj:=(atS_lt hA).1
   have a1:=fun h w=>RAt_ct h bp s ts i e y bad us v [45] true w hy (by decide) hA
   replace hp:Rs.bnd (qp ts e prs n .fac ⟨i+1,bad,us⟩) (fun x st=>some (nodeT 4 0 [x],st))=some (x,st'):=hp
   cases h1:qp ts e prs n .fac ⟨i+1,bad,us⟩ with
   | none=>rw [h1] at hp;cases hp
   | some r1=>
    obtain ⟨x2,i2,bad2,us2⟩:=r1
    rw [h1] at hp
    cases hp
    have c1:∀h y,RTk h s ts→y=((i+1:Nat):Int)→Vc.Fn T F.pref04_Reader_factor [.pointer (some ⟨bp,0,none⟩)] h (Rbk bp s y e bad v::G) fun a h' L'=>∃v' G',i2≤ts.length∧us2.length≤i2∧L'=Rbk bp s i2 e bad2 v'::G'∧GrowS Ty.ref04_Use 4 v' us2.length (usc us2) G'∧VE h' a x2:=fun h y w hy=>ihf n (by omega) ts bp s e h (i+1) y bad us v G x2 ⟨i2,bad2,us2⟩ w hy hj (by omega) g h1
    refine fn_of_codeI ok D.pref04_Reader_factor rfl ?_
    conv=>whnf
    repeat ((first|refine oz ?_|refine cz ?_);conv=>whnf)
    repeat' first|((first|(show CallN _ _ _ _ _ _;first|(refine CallN.own 1 rfl rfl (a1 _ (w.mono (by first|assumption|exact Heap.le_refl _))) (fun v h' La hl hr=>?_);obtain ⟨rfl,rfl,rfl⟩:=hr;clear hl;refine ⟨_,rfl,?_⟩)|(refine CallN.all (A:=[_]) rfl (c1 _ _ (w.mono (by first|assumption|exact Heap.le_refl _)) (by omega)) (fun v h' Lp hl hr=>?_);obtain ⟨v2,G2,hi2,hu2,rfl,g2,op2,ar2,ng2,nn2,dd2,nm2,ss2,rfl,hE2⟩:=hr)|(refine CallN.fn rfl (rone_ct _ _ (by first|decide|exact ⟨by omega,by omega⟩) (by first|decide|exact ⟨by omega,by omega⟩) _ _ _ (hE2.mono (by first|assumption|exact Heap.le_refl _))) (fun v h' hl2 hr=>?_);obtain ⟨op9,ar9,ng9,nn9,dd9,nm9,ss9,rfl,hE9⟩:=hr))|((first|refine oz ?_|refine cz ?_))|intro (_:Nat)|refine WrapN.i64 (by omega) (by omega) ?_|(show LdN _ _ _ _ _;first|refine LdN.own 0 rfl rfl ?_|refine LdN.own 1 rfl rfl ?_)|refine Ld.own 1 rfl rfl ?_|(show Sto _ _ _ _;first|refine Sto.lit 0 rfl rfl rfl ?_|refine Sto.lit 1 rfl rfl rfl ?_)) <;> (conv=>whnf))
    all_goals first
       | exact RetN.drop0 (RetN.drop0 (RetN.done ⟨v2,G2,hi2,hu2,rfl,g2,op9,ar9,ng9,nn9,dd9,nm9,ss9,rfl,hE9⟩))
       | exact RetN.drop0 (RetN.done ⟨v2,G2,hi2,hu2,rfl,g2,op9,ar9,ng9,nn9,dd9,nm9,ss9,rfl,hE9⟩)
       | exact RetN.drop0 (RetN.drop0 (RetN.drop0 (RetN.done ⟨v2,G2,hi2,hu2,rfl,g2,op9,ar9,ng9,nn9,dd9,nm9,ss9,rfl,hE9⟩)))
  ·rw [if_neg hA] at hp
   have hA':atS ts [45] ⟨i,bad,us⟩=false:=by simpa using hA
   have a1:=fun h w=>RAt_ct h bp s ts i e y bad us v [45] false w hy (by decide) hA'
   cases h1:qp ts e prs n .atom ⟨i,bad,us⟩ with
   | none=>rw [h1] at hp;cases hp
   | some r1=>
    obtain ⟨x2,i2,bad2,us2⟩:=r1
    rw [h1] at hp
    have c1:∀h y,RTk h s ts→y=((i:Nat):Int)→Vc.Fn T F.pref04_Reader_atom [.pointer (some ⟨bp,0,none⟩)] h (Rbk bp s y e bad v::G) fun a h' L'=>∃v' G',i2≤ts.length∧us2.length≤i2∧L'=Rbk bp s i2 e bad2 v'::G'∧GrowS Ty.ref04_Use 4 v' us2.length (usc us2) G'∧VE h' a x2:=fun h y w hy=>iha n (by omega) ts bp s e h (i) y bad us v G x2 ⟨i2,bad2,us2⟩ w hy hi hu g h1
    refine fn_of_codeI ok D.pref04_Reader_factor rfl ?_
    conv=>whnf
    repeat ((first|refine oz ?_|refine cz ?_);conv=>whnf)
    repeat' first|((first|(show CallN _ _ _ _ _ _;first|(refine CallN.own 1 rfl rfl (a1 _ (w.mono (by first|assumption|exact Heap.le_refl _))) (fun v h' La hl hr=>?_);obtain ⟨rfl,rfl,rfl⟩:=hr;clear hl;refine ⟨_,rfl,?_⟩)|(refine CallN.all (A:=[_]) rfl (c1 _ _ (w.mono (by first|assumption|exact Heap.le_refl _)) hy) (fun v h' Lp hl hr=>?_);obtain ⟨v2,G2,hi2,hu2,rfl,g2,op2,ar2,ng2,nn2,dd2,nm2,ss2,rfl,hE2⟩:=hr))|refine Sto.lit 0 rfl rfl rfl ?_) <;> (conv=>whnf))|(refine codeI.stopS 6 ?_)|((first|refine oz ?_|refine cz ?_);conv=>whnf)|(intro (_:Nat);conv=>whnf)
    refine ⟨SeqN.go ?_⟩
    have wa:=w.mono hl
    clear a1 c1 h1 g w
    replace hp:(if atS ts [94] ⟨i2,bad2,us2⟩ then (if atS ts [45] ⟨i2+1,bad2,us2⟩ then Rs.bnd (some (digS ts e false ⟨i2+1+1,bad2,us2⟩)) (fun k st=>some (nodeT 9 (-(k:Int)) [x2],st)) else Rs.bnd (some (digS ts e false ⟨i2+1,bad2,us2⟩)) (fun k st=>some (nodeT 9 k [x2],st))) else some (x2,⟨i2,bad2,us2⟩))=some (x,st'):=hp
    by_cases hB:atS ts [94] ⟨i2,bad2,us2⟩=true
    ·rw [if_pos hB] at hp
     have hj2:=(atS_lt hB).1
     have a2:=fun h w=>RAt_ct h bp s ts i2 e i2 bad2 us2 v2 [94] true w rfl (by decide) hB
     by_cases hC:atS ts [45] ⟨i2+1,bad2,us2⟩=true
     ·rw [if_pos hC] at hp
      have hj3:=(atS_lt hC).1
      have a3:=fun h y w hy=>RAt_ct h bp s ts (i2+1) e y bad2 us2 v2 [45] true w hy (by decide) hC
      obtain ⟨⟨K,i3,bad3,us3⟩,hD⟩:∃r,r=digS ts e false ⟨i2+1+1,bad2,us2⟩:=⟨_,rfl⟩
      have dv:=digS_inv (ts:=ts) (e:=e) (root:=false) (bad:=bad2) (us:=us2) (i:=i2+1+1) (by omega) (by omega)
      rw [← hD] at dv hp
      obtain ⟨dv1,dv2,dv3⟩:i3≤ts.length∧us3.length≤i3∧K≤1000:=dv
      have d1:∀h y,RTk h s ts→y=((i2+1+1:Nat):Int)→Vc.Fn T F.pref04_Reader_digits [.pointer (some ⟨bp,0,none⟩),.bool false] h (Rbk bp s y e bad2 v2::G2) fun r h' L'=>h'=h∧r=.int .i64 (K:Nat)∧∃v' G',L'=Rbk bp s i3 e bad3 v'::G'∧GrowS Ty.ref04_Use 4 v' us3.length (usc us3) G':=fun h y w hy=>by
       have:=RDig_ct h bp s ts (i2+1+1) e y bad2 us2 false v2 G2 w hy (by omega) (by omega) g2
       rw [← hD] at this;exact this
      clear hD
      cases hp
      repeat' first|((first|(show SeqN _ _ _ _ _ _ _;refine SeqN.go ?_)|(show CallN _ _ _ _ _ _;first|(refine CallN.own 2 rfl rfl (a2 _ (wa.mono (by first|assumption|exact Heap.le_refl _))) (fun v h' La hl hr=>?_);obtain ⟨rfl,rfl,rfl⟩:=hr;clear hl;refine ⟨_,rfl,?_⟩)|(refine CallN.own 2 rfl rfl (a3 _ _ (wa.mono (by first|assumption|exact Heap.le_refl _)) (by omega)) (fun v h' La hl hr=>?_);obtain ⟨rfl,rfl,rfl⟩:=hr;clear hl;refine ⟨_,rfl,?_⟩)|(refine CallN.all (A:=[_,_]) rfl (d1 _ _ (wa.mono (by first|assumption|exact Heap.le_refl _)) (by omega)) (fun v h' Lp hl hr=>?_);obtain ⟨rfl,rfl,v3,G3,rfl,g3⟩:=hr;clear hl)|(refine CallN.fn rfl (rone_ct _ _ (by first|decide|exact ⟨by omega,by omega⟩) (by first|decide|exact ⟨by omega,by omega⟩) _ _ _ (hE2.mono (by first|assumption|exact Heap.le_refl _))) (fun v h' hl2 hr=>?_);obtain ⟨op9,ar9,ng9,nn9,dd9,nm9,ss9,rfl,hE9⟩:=hr))|((first|refine oz ?_|refine cz ?_))|refine WrapN.i64 (by omega) (by omega) ?_|(show LdN _ _ _ _ _;first|refine LdN.own 0 rfl rfl ?_|refine LdN.own 1 rfl rfl ?_)|refine Ld.own 2 rfl rfl ?_|(show Sto _ _ _ _;first|refine Sto.lit 1 rfl rfl rfl ?_|refine Sto.lit 2 rfl rfl rfl ?_)) <;> (conv=>whnf))
      all_goals first
       | exact RetN.drop0 (RetN.drop0 (RetN.done ⟨v3,G3,dv1,dv2,rfl,g3,op9,ar9,ng9,nn9,dd9,nm9,ss9,rfl,by rw [← Int.zero_sub];exact hE9⟩))
       | exact RetN.drop0 (RetN.done ⟨v3,G3,dv1,dv2,rfl,g3,op9,ar9,ng9,nn9,dd9,nm9,ss9,rfl,by rw [← Int.zero_sub];exact hE9⟩)
       | exact RetN.drop0 (RetN.drop0 (RetN.drop0 (RetN.done ⟨v3,G3,dv1,dv2,rfl,g3,op9,ar9,ng9,nn9,dd9,nm9,ss9,rfl,by rw [← Int.zero_sub];exact hE9⟩)))
     ·rw [if_neg hC] at hp
      have hC':atS ts [45] ⟨i2+1,bad2,us2⟩=false:=by simpa using hC
      have a3:=fun h y w hy=>RAt_ct h bp s ts (i2+1) e y bad2 us2 v2 [45] false w hy (by decide) hC'
      obtain ⟨⟨K,i3,bad3,us3⟩,hD⟩:∃r,r=digS ts e false ⟨i2+1,bad2,us2⟩:=⟨_,rfl⟩
      have dv:=digS_inv (ts:=ts) (e:=e) (root:=false) (bad:=bad2) (us:=us2) (i:=i2+1) (by omega) (by omega)
      rw [← hD] at dv hp
      obtain ⟨dv1,dv2,dv3⟩:i3≤ts.length∧us3.length≤i3∧K≤1000:=dv
      have d1:∀h y,RTk h s ts→y=((i2+1:Nat):Int)→Vc.Fn T F.pref04_Reader_digits [.pointer (some ⟨bp,0,none⟩),.bool false] h (Rbk bp s y e bad2 v2::G2) fun r h' L'=>h'=h∧r=.int .i64 (K:Nat)∧∃v' G',L'=Rbk bp s i3 e bad3 v'::G'∧GrowS Ty.ref04_Use 4 v' us3.length (usc us3) G':=fun h y w hy=>by
       have:=RDig_ct h bp s ts (i2+1) e y bad2 us2 false v2 G2 w hy (by omega) (by omega) g2
       rw [← hD] at this;exact this
      clear hD
      cases hp
      repeat' first|((first|(show SeqN _ _ _ _ _ _ _;refine SeqN.go ?_)|(show CallN _ _ _ _ _ _;first|(refine CallN.own 2 rfl rfl (a2 _ (wa.mono (by first|assumption|exact Heap.le_refl _))) (fun v h' La hl hr=>?_);obtain ⟨rfl,rfl,rfl⟩:=hr;clear hl;refine ⟨_,rfl,?_⟩)|(refine CallN.own 2 rfl rfl (a3 _ _ (wa.mono (by first|assumption|exact Heap.le_refl _)) (by omega)) (fun v h' La hl hr=>?_);obtain ⟨rfl,rfl,rfl⟩:=hr;clear hl;refine ⟨_,rfl,?_⟩)|(refine CallN.all (A:=[_,_]) rfl (d1 _ _ (wa.mono (by first|assumption|exact Heap.le_refl _)) (by omega)) (fun v h' Lp hl hr=>?_);obtain ⟨rfl,rfl,v3,G3,rfl,g3⟩:=hr;clear hl)|(refine CallN.fn rfl (rone_ct _ _ (by first|decide|exact ⟨by omega,by omega⟩) (by first|decide|exact ⟨by omega,by omega⟩) _ _ _ (hE2.mono (by first|assumption|exact Heap.le_refl _))) (fun v h' hl2 hr=>?_);obtain ⟨op9,ar9,ng9,nn9,dd9,nm9,ss9,rfl,hE9⟩:=hr))|((first|refine oz ?_|refine cz ?_))|refine WrapN.i64 (by omega) (by omega) ?_|(show LdN _ _ _ _ _;first|refine LdN.own 0 rfl rfl ?_|refine LdN.own 1 rfl rfl ?_)|refine Ld.own 2 rfl rfl ?_|(show Sto _ _ _ _;first|refine Sto.lit 1 rfl rfl rfl ?_|refine Sto.lit 2 rfl rfl rfl ?_)) <;> (conv=>whnf))
      all_goals first
       | exact RetN.drop0 (RetN.drop0 (RetN.done ⟨v3,G3,dv1,dv2,rfl,g3,op9,ar9,ng9,nn9,dd9,nm9,ss9,rfl,hE9⟩))
       | exact RetN.drop0 (RetN.done ⟨v3,G3,dv1,dv2,rfl,g3,op9,ar9,ng9,nn9,dd9,nm9,ss9,rfl,hE9⟩)
       | exact RetN.drop0 (RetN.drop0 (RetN.drop0 (RetN.done ⟨v3,G3,dv1,dv2,rfl,g3,op9,ar9,ng9,nn9,dd9,nm9,ss9,rfl,hE9⟩)))
    ·rw [if_neg hB] at hp
     have hB':atS ts [94] ⟨i2,bad2,us2⟩=false:=by simpa using hB
     have a2:=fun h w=>RAt_ct h bp s ts i2 e i2 bad2 us2 v2 [94] false w rfl (by decide) hB'
     cases hp
     repeat' first|((first|(show CallN _ _ _ _ _ _;(refine CallN.own 2 rfl rfl (a2 _ (wa.mono (by first|assumption|exact Heap.le_refl _))) (fun v h' La hl hr=>?_);obtain ⟨rfl,rfl,rfl⟩:=hr;clear hl;refine ⟨_,rfl,?_⟩))|((first|refine oz ?_|refine cz ?_))|(show LdN _ _ _ _ _;first|refine LdN.own 0 rfl rfl ?_|refine LdN.own 1 rfl rfl ?_)|refine Sto.lit 1 rfl rfl rfl ?_) <;> (conv=>whnf))
     all_goals first
       | exact RetN.drop0 (RetN.drop0 (RetN.done ⟨v2,G2,hi2,hu2,rfl,g2,op2,ar2,ng2,nn2,dd2,nm2,ss2,rfl,hE2⟩))
       | exact RetN.drop0 (RetN.done ⟨v2,G2,hi2,hu2,rfl,g2,op2,ar2,ng2,nn2,dd2,nm2,ss2,rfl,hE2⟩)
       | exact RetN.drop0 (RetN.drop0 (RetN.drop0 (RetN.done ⟨v2,G2,hi2,hu2,rfl,g2,op2,ar2,ng2,nn2,dd2,nm2,ss2,rfl,hE2⟩)))
end Go.Proofs.YtmblpmegfmgjgaaGreatDoor
/- The document's reader: rows in brackets, atoms. -/
namespace Go.Proofs.YtmblpmegfmgjgaaGreatDoor
open Go Go.Vc Go.Dig
attribute [local irreducible] Vc.Fn
theorem Rlist (k n:Nat) (hk3:k≤3) (ihe:∀m,m<n→QCt F.pref04_Reader_Sum [] .sum VE m):QCt F.pref04_Reader_list [.int .i64 k] (.kids k) VK n:=by
 intro ts bp s e h i y bad us v G x st' w hy hi hu g hp
 cases n with
 | zero=>rw [qp] at hp;cases hp
 | succ n=>
  rw [qp] at hp
  obtain ⟨⟨i1,bad1,usT⟩,hTa⟩:∃r,r=takeS ts e [40] ⟨i,bad,us⟩:=⟨_,rfl⟩
  have tva:=takeS_inv (ts:=ts) (e:=e) (x:=[40]) (bad:=bad) hi hu
  have tqa:=fun h y w hy=>RTake_ct h bp s ts (i) e y bad us v [40] w hy hi (by decide)
  rw [← hTa] at tva
  simp only [← hTa] at tqa
  obtain ⟨tva1,tva2,tva3⟩:i1≤ts.length∧usT=us∧us.length≤i1:=tva
  replace tqa:∀h y,RTk h s ts→y=((i:Nat):Int)→Vc.Fn T F.pref04_Reader_Take [.pointer (some ⟨bp,0,none⟩),.string (txt [40])] h [Rbk bp s y e bad v] fun r h' L'=>L'=[Rbk bp s i1 e bad1 v]∧h'=h∧r=.tuple #[]:=tqa
  subst tva2
  replace hp:qp ts e prs n (.kidsL k 0 []) (takeS ts e [40] ⟨i,bad,usT⟩)=some (x,st'):=hp
  rw [← hTa] at hp
  clear hTa hu
  refine fn_of_codeI ok D.pref04_Reader_list rfl ?_
  conv=>whnf
  repeat ((first|refine oz ?_|refine cz ?_);conv=>whnf)
  repeat' first|((first|(show CallN _ _ _ _ _ _;(refine CallN.par2 (A:=[]) (B:=G) rfl (Fn.pan (tqa _ _ (w.mono (by first|assumption|exact Heap.le_refl _)) hy)) (fun v h' Lp hl hr=>?_) (fun _ _ _ _ x=>x.elim);obtain ⟨rfl,rfl,rfl⟩:=hr;clear hl))|((first|refine oz ?_|refine cz ?_))) <;> (conv=>whnf))
  refine LoopN.of (fun q ρ hx L=>∃(m j:Nat) (acc:List Tr) (i:Nat) (bad:Int) (us:List (Tk × Bool)) (v:Value) (G:Vc.Own) (V:Value) (F1:Vc.Own) (xs:List Value),q=m∧m≤n∧h'.le hx∧rd ρ 6=.int .i64 j∧rd ρ 5=V∧
    L=F1++(Rbk bp s i e bad v::G)∧GrowS Ty.api_Expr 7 V acc.length xs F1∧KC hx xs acc∧acc.length=j∧j≤k∧i≤ts.length∧us.length≤i∧GrowS Ty.ref04_Use 4 v us.length (usc us) G∧Hq (qp ts e prs m (.kidsL k j acc) ⟨i,bad,us⟩=some (x,st'))) n
   ⟨n,0,[],i1,bad1,usT,v,G,_,[],[],rfl,Nat.le_refl _,Heap.le_refl _,rfl,rfl,rfl,GrowS.nil _ _ _,rfl,rfl,Nat.zero_le _,tva1,tva3,g,⟨hp⟩⟩ ?_
  clear hp tqa g tva1 tva3
  conv=>whnf
  repeat intro _
  rename_i q h3 L3 hI
  obtain ⟨m,j,acc,i1,bad1,us1,v1,G1,V,F1,xs,rfl,hm,hl3,e6,e5,rfl,gF,hK,ha,hjk,hi1,hu1,g1,⟨hp⟩⟩:=hI
  conv at e6=>lhs;whnf
  subst e6
  conv at e5=>lhs;whnf
  subst e5
  have w3:=w.mono hl3
  have hsz:=w.sz
  cases q with
  | zero=>rw [qp] at hp;cases hp
  | succ m=>
   rw [qp] at hp
   by_cases hc:j<k∧bad1<0
   ·rw [if_pos hc] at hp
    obtain ⟨hj,hb⟩:=hc
    by_cases h0:0<j
    ·rw [if_pos h0] at hp
     obtain ⟨⟨i4,bad4,us1T⟩,hTb⟩:∃r,r=takeS ts e [44] ⟨i1,bad1,us1⟩:=⟨_,rfl⟩
     have tvb:=takeS_inv (ts:=ts) (e:=e) (x:=[44]) (bad:=bad1) hi1 hu1
     have tqb:=fun h y w hy=>RTake_ct h bp s ts (i1) e y bad1 us1 v1 [44] w hy hi1 (by decide)
     rw [← hTb] at tvb
     simp only [← hTb] at tqb
     obtain ⟨tvb1,tvb2,tvb3⟩:i4≤ts.length∧us1T=us1∧us1.length≤i4:=tvb
     replace tqb:∀h y,RTk h s ts→y=((i1:Nat):Int)→Vc.Fn T F.pref04_Reader_Take [.pointer (some ⟨bp,0,none⟩),.string (txt [44])] h [Rbk bp s y e bad1 v1] fun r h' L'=>L'=[Rbk bp s i4 e bad4 v1]∧h'=h∧r=.tuple #[]:=tqb
     subst tvb2
     replace hp:Rs.bnd (qp ts e prs m .sum (takeS ts e [44] ⟨i1,bad1,us1T⟩)) (fun x st=>qp ts e prs m (.kidsL k (j+1) (acc++[x])) st)=some (x,st'):=hp
     rw [← hTb] at hp
     clear hTb hu1
     cases h1:qp ts e prs m .sum ⟨i4,bad4,us1T⟩ with
     | none=>rw [h1] at hp;cases hp
     | some r1=>
      obtain ⟨x2,i2,bad2,us2⟩:=r1
      rw [h1] at hp
      replace hp:qp ts e prs m (.kidsL k (j+1) (acc++[x2])) ⟨i2,bad2,us2⟩=some (x,st'):=hp
      have c1:∀h y,RTk h s ts→y=((i4:Nat):Int)→Vc.Fn T F.pref04_Reader_Sum [.pointer (some ⟨bp,0,none⟩)] h (Rbk bp s y e bad4 v1::G1) fun a h' L'=>∃v' G',i2≤ts.length∧us2.length≤i2∧L'=Rbk bp s i2 e bad2 v'::G'∧GrowS Ty.ref04_Use 4 v' us2.length (usc us2) G'∧VE h' a x2:=fun h y w hy=>ihe m (by omega) ts bp s e h (i4) y bad4 us1T v1 G1 x2 ⟨i2,bad2,us2⟩ w hy tvb1 tvb3 g1 h1
      conv=>whnf
      repeat ((first|refine oz ?_|refine cz ?_);conv=>whnf)
      repeat' first|((first|(show SeqN _ _ _ _ _ _ _;refine SeqN.go ?_)|(show Ld _ _ _ _;refine Ld.tl3 (A:=[]) (F:=F1) (G:=[]) rfl ?_)|(show CallN _ _ _ _ _ _;first|(refine CallN.par2 (A:=F1) (B:=G1) rfl (Fn.pan (tqb _ _ (w3.mono (by first|assumption|exact Heap.le_refl _)) rfl)) (fun v h' Lp hl hr=>?_) (fun _ _ _ _ x=>x.elim);obtain ⟨rfl,rfl,rfl⟩:=hr;clear hl)|(refine CallN.all (A:=F1) rfl (c1 _ _ (w3.mono (by first|assumption|exact Heap.le_refl _)) rfl) (fun v h' Lp hl hr=>?_);obtain ⟨v2,G2,hi2,hu2,rfl,g2,op2,ar2,ng2,nn2,dd2,nm2,ss2,rfl,hE2⟩:=hr;have hK2:=hK.mono hl))|(show App _ _ _ _ _ _ _ _ _;refine App.growK (A:=[_,_]) (F:=F1) (size:=7) (bytes:=112) (z:=[.int .i64 0,.int .i64 0,.bool false,.slice none 0 0,.slice none 0 0,.string (txt []),.slice none 0 0]) rfl rfl gF ⟨_,0,none⟩ 1 1 [_,_,_,_,_,_,_] rfl (Has.front _) rfl (by decide) (by omega) (by omega) (by decide) (fun v' F' g'=>?_))|((first|refine oz ?_|refine cz ?_))|intro (_:Nat)|refine WrapN.i64 (by omega) (by omega) ?_|refine LdN.own 0 rfl rfl ?_|refine Sto.lit 0 rfl rfl rfl ?_) <;> (conv=>whnf))|(refine cnd_lt (fun _=>?_) (fun _=>?_) <;> first|(exfalso;omega)|(conv=>whnf))
      all_goals exact ⟨rfl,m,by omega,m,j+1,acc++[x2],i2,bad2,us2,v2,G2,_,_::_::F',_,rfl,by omega,(by (iterate 30 try first|assumption|refine Heap.le_trans ?_ (by assumption));first|done|assumption),vi (by omega),rfl,rfl,by rw [List.length_append];exact (g'.cons _).cons _,KC.snoc rfl hE2 hK2,by rw [List.length_append];exact congrArg (·+1) ha,by omega,hi2,hu2,g2,⟨hp⟩⟩
    ·rw [if_neg h0] at hp
     cases h1:qp ts e prs m .sum ⟨i1,bad1,us1⟩ with
     | none=>rw [h1] at hp;cases hp
     | some r1=>
      obtain ⟨x2,i2,bad2,us2⟩:=r1
      rw [h1] at hp
      replace hp:qp ts e prs m (.kidsL k (j+1) (acc++[x2])) ⟨i2,bad2,us2⟩=some (x,st'):=hp
      have c1:∀h y,RTk h s ts→y=((i1:Nat):Int)→Vc.Fn T F.pref04_Reader_Sum [.pointer (some ⟨bp,0,none⟩)] h (Rbk bp s y e bad1 v1::G1) fun a h' L'=>∃v' G',i2≤ts.length∧us2.length≤i2∧L'=Rbk bp s i2 e bad2 v'::G'∧GrowS Ty.ref04_Use 4 v' us2.length (usc us2) G'∧VE h' a x2:=fun h y w hy=>ihe m (by omega) ts bp s e h (i1) y bad1 us1 v1 G1 x2 ⟨i2,bad2,us2⟩ w hy hi1 hu1 g1 h1
      conv=>whnf
      repeat ((first|refine oz ?_|refine cz ?_);conv=>whnf)
      repeat' first|((first|(show SeqN _ _ _ _ _ _ _;refine SeqN.go ?_)|(show Ld _ _ _ _;refine Ld.tl3 (A:=[]) (F:=F1) (G:=[]) rfl ?_)|(show CallN _ _ _ _ _ _;(refine CallN.all (A:=F1) rfl (c1 _ _ (w3.mono (by first|assumption|exact Heap.le_refl _)) rfl) (fun v h' Lp hl hr=>?_);obtain ⟨v2,G2,hi2,hu2,rfl,g2,op2,ar2,ng2,nn2,dd2,nm2,ss2,rfl,hE2⟩:=hr;have hK2:=hK.mono hl))|(show App _ _ _ _ _ _ _ _ _;refine App.growK (A:=[_,_]) (F:=F1) (size:=7) (bytes:=112) (z:=[.int .i64 0,.int .i64 0,.bool false,.slice none 0 0,.slice none 0 0,.string (txt []),.slice none 0 0]) rfl rfl gF ⟨_,0,none⟩ 1 1 [_,_,_,_,_,_,_] rfl (Has.front _) rfl (by decide) (by omega) (by omega) (by decide) (fun v' F' g'=>?_))|((first|refine oz ?_|refine cz ?_))|intro (_:Nat)|refine WrapN.i64 (by omega) (by omega) ?_|refine LdN.own 0 rfl rfl ?_|refine Sto.lit 0 rfl rfl rfl ?_) <;> (conv=>whnf))|(refine cnd_lt (fun _=>?_) (fun _=>?_) <;> first|(exfalso;omega)|(conv=>whnf))
      all_goals exact ⟨rfl,m,by omega,m,j+1,acc++[x2],i2,bad2,us2,v2,G2,_,_::_::F',_,rfl,by omega,(by (iterate 30 try first|assumption|refine Heap.le_trans ?_ (by assumption));first|done|assumption),vi (by omega),rfl,rfl,by rw [List.length_append];exact (g'.cons _).cons _,KC.snoc rfl hE2 hK2,by rw [List.length_append];exact congrArg (·+1) ha,by omega,hi2,hu2,g2,⟨hp⟩⟩
   ·rw [if_neg hc] at hp
    obtain ⟨⟨i4,bad4,us1T⟩,hTb⟩:∃r,r=takeS ts e [41] ⟨i1,bad1,us1⟩:=⟨_,rfl⟩
    have tvb:=takeS_inv (ts:=ts) (e:=e) (x:=[41]) (bad:=bad1) hi1 hu1
    have tqb:=fun h y w hy=>RTake_ct h bp s ts (i1) e y bad1 us1 v1 [41] w hy hi1 (by decide)
    rw [← hTb] at tvb
    simp only [← hTb] at tqb
    obtain ⟨tvb1,tvb2,tvb3⟩:i4≤ts.length∧us1T=us1∧us1.length≤i4:=tvb
    replace tqb:∀h y,RTk h s ts→y=((i1:Nat):Int)→Vc.Fn T F.pref04_Reader_Take [.pointer (some ⟨bp,0,none⟩),.string (txt [41])] h [Rbk bp s y e bad1 v1] fun r h' L'=>L'=[Rbk bp s i4 e bad4 v1]∧h'=h∧r=.tuple #[]:=tqb
    subst tvb2
    replace hp:some (nodeT 0 0 acc,takeS ts e [41] ⟨i1,bad1,us1T⟩)=some (x,st'):=hp
    rw [← hTb] at hp
    cases hp
    obtain ⟨sv,rfl⟩:=gF.sl
    conv=>whnf
    repeat ((first|refine oz ?_|refine cz ?_);conv=>whnf)
    repeat' first|((first|(show Ld _ _ _ _;refine Ld.tl3 (A:=[]) (F:=F1) (G:=[]) rfl ?_)|(show CallN _ _ _ _ _ _;(refine CallN.par2 (A:=F1) (B:=G1) rfl (Fn.pan (tqb _ _ (w3.mono (by first|assumption|exact Heap.le_refl _)) rfl)) (fun v h' Lp hl hr=>?_) (fun _ _ _ _ x=>x.elim);obtain ⟨rfl,rfl,rfl⟩:=hr;clear hl))|((first|refine oz ?_|refine cz ?_))) <;> (conv=>whnf))|(refine cnd_lt (fun _=>?_) (fun _=>?_) <;> first|(exfalso;omega)|(conv=>whnf))
    all_goals (refine RetN.rowK gF hK rfl fun h' s' hl hs hk=>?_;exact ⟨v1,G1,tvb1,tvb3,rfl,g1,s',hs,hk⟩)
theorem Roth_pi (ts:List Tk) (bp:Nat) (s:Sl) (e:Nat) (h:Heap) (i n:Nat) (y bad:Int) (us:List (Tk × Bool)) (v:Value) (G:Vc.Own) (x:Tr) (st':Rs) (X:List Nat) (ht8:∀y∈X,y<256) (w:RTk h s ts) (hy:y=(i:Int)) (hi:i<ts.length) (hu:us.length≤i) (g:GrowS Ty.ref04_Use 4 v us.length (usc us) G) (hX:X=[112,105]) (hp:some (nodeT 3 0 [],(⟨i+1,bad,us⟩:Rs))=some (x,st')):
  Vc.Fn T F.pref04_Reader_other [.pointer (some ⟨bp,0,none⟩),.string (txt X)] h (Rbk bp s y e bad v::G) (QRd ts bp s e VE x st'):=by
 have hsz:=w.sz
 cases hp
 refine fn_of_codeI ok D.pref04_Reader_other rfl ?_
 conv=>whnf
 repeat ((first|refine oz ?_|refine cz ?_);conv=>whnf)
 repeat' first|((first|((first|refine oz ?_|refine cz ?_))|intro (_:Nat)|refine WrapN.i64 (by omega) (by omega) ?_|refine LdN.own 0 rfl rfl ?_|refine Ld.own 1 rfl rfl ?_|(show Sto _ _ _ _;first|refine Sto.lit 0 rfl rfl rfl ?_|refine Sto.lit 1 rfl rfl rfl ?_)) <;> (conv=>whnf))|(show cnd _ _ _;first|(refine cnd_lit X [112,105] rfl rfl ht8 (by decide) (fun h1=>?_) (fun h1=>?_) <;> first|exact absurd h1 (by assumption)|exact absurd hX h1|exact absurd (h1.symm.trans hX) (by decide)|(conv=>whnf)))
 all_goals first
  | exact RetN.drop0 (RetN.done ⟨v,G,hi,Nat.le_succ_of_le hu,congrArg (·::G) (Rbk_eq (by simp only [Int.natCast_add,Int.natCast_one];omega) rfl),g,3,0,false,⟨none,0,0⟩,⟨none,0,0⟩,[],⟨none,0,0⟩,rfl,IsE.node (by decide) (by decide) (IsK.nil _)⟩)
  | exact RetN.drop0 (RetN.drop0 (RetN.done ⟨v,G,hi,Nat.le_succ_of_le hu,congrArg (·::G) (Rbk_eq (by simp only [Int.natCast_add,Int.natCast_one];omega) rfl),g,3,0,false,⟨none,0,0⟩,⟨none,0,0⟩,[],⟨none,0,0⟩,rfl,IsE.node (by decide) (by decide) (IsK.nil _)⟩))
  | exact RetN.drop0 (RetN.drop0 (RetN.drop0 (RetN.done ⟨v,G,hi,Nat.le_succ_of_le hu,congrArg (·::G) (Rbk_eq (by simp only [Int.natCast_add,Int.natCast_one];omega) rfl),g,3,0,false,⟨none,0,0⟩,⟨none,0,0⟩,[],⟨none,0,0⟩,rfl,IsE.node (by decide) (by decide) (IsK.nil _)⟩)))
theorem Roth_abs (ts:List Tk) (bp:Nat) (s:Sl) (e:Nat) (h:Heap) (i n:Nat) (y bad:Int) (us:List (Tk × Bool)) (v:Value) (G:Vc.Own) (x:Tr) (st':Rs) (X:List Nat) (ht8:∀y∈X,y<256) (w:RTk h s ts) (hy:y=(i:Int)) (hi:i<ts.length) (hu:us.length≤i) (g:GrowS Ty.ref04_Use 4 v us.length (usc us) G) (ihk:∀k:Nat,k≤3→QCt F.pref04_Reader_list [.int .i64 k] (.kids k) VK n) (hX:X=[97,98,115]) (hp:Rs.bnd (qp ts e prs n (.kids 1) ⟨i+1,bad,us⟩) (fun x st=>some (nodeT 12 0 x.kids,st))=some (x,st')):
  Vc.Fn T F.pref04_Reader_other [.pointer (some ⟨bp,0,none⟩),.string (txt X)] h (Rbk bp s y e bad v::G) (QRd ts bp s e VE x st'):=by
 have hsz:=w.sz
 cases h1:qp ts e prs n (.kids 1) ⟨i+1,bad,us⟩ with
 | none=>rw [h1] at hp;cases hp
 | some r1=>
 obtain ⟨x2,i2,bad2,us2⟩:=r1
 rw [h1] at hp
 cases hp
 have c1:∀h y,RTk h s ts→y=((i+1:Nat):Int)→Vc.Fn T F.pref04_Reader_list [.pointer (some ⟨bp,0,none⟩),.int .i64 ((1:Nat):Int)] h (Rbk bp s y e bad v::G) fun a h' L'=>∃v' G',i2≤ts.length∧us2.length≤i2∧L'=Rbk bp s i2 e bad2 v'::G'∧GrowS Ty.ref04_Use 4 v' us2.length (usc us2) G'∧VK h' a x2:=fun h y w hy=>ihk 1 (by omega) ts bp s e h (i+1) y bad us v G x2 ⟨i2,bad2,us2⟩ w hy hi (by omega) g h1
 refine fn_of_codeI ok D.pref04_Reader_other rfl ?_
 conv=>whnf
 repeat ((first|refine oz ?_|refine cz ?_);conv=>whnf)
 repeat' first|((first|(show CallN _ _ _ _ _ _;(refine CallN.all (A:=[_]) rfl (c1 _ _ (w.mono (by first|assumption|exact Heap.le_refl _)) (by omega)) (fun v h' Lp hl hr=>?_);obtain ⟨v2,G2,hi2,hu2,rfl,g2,ss2,rfl,hK2⟩:=hr))|((first|refine oz ?_|refine cz ?_))|intro (_:Nat)|refine WrapN.i64 (by omega) (by omega) ?_|refine LdN.own 0 rfl rfl ?_|refine Ld.own 1 rfl rfl ?_|(show Sto _ _ _ _;first|refine Sto.lit 0 rfl rfl rfl ?_|refine Sto.lit 1 rfl rfl rfl ?_)) <;> (conv=>whnf))|(show cnd _ _ _;first|(refine cnd_lit X [112,105] rfl rfl ht8 (by decide) (fun h1=>?_) (fun h1=>?_) <;> first|exact absurd h1 (by assumption)|exact absurd hX h1|exact absurd (h1.symm.trans hX) (by decide)|(conv=>whnf))|(refine cnd_lit X [40] rfl rfl ht8 (by decide) (fun h1=>?_) (fun h1=>?_) <;> first|exact absurd h1 (by assumption)|exact absurd hX h1|exact absurd (h1.symm.trans hX) (by decide)|(conv=>whnf))|(refine cnd_lit X [97,98,115] rfl rfl ht8 (by decide) (fun h1=>?_) (fun h1=>?_) <;> first|exact absurd h1 (by assumption)|exact absurd hX h1|exact absurd (h1.symm.trans hX) (by decide)|(conv=>whnf)))
 all_goals first
  | exact RetN.drop0 (RetN.done ⟨v2,G2,hi2,hu2,rfl,g2,12,0,false,⟨none,0,0⟩,⟨none,0,0⟩,[],ss2,rfl,IsE.node (by decide) (by decide) hK2⟩)
  | exact RetN.drop0 (RetN.drop0 (RetN.done ⟨v2,G2,hi2,hu2,rfl,g2,12,0,false,⟨none,0,0⟩,⟨none,0,0⟩,[],ss2,rfl,IsE.node (by decide) (by decide) hK2⟩))
  | exact RetN.drop0 (RetN.drop0 (RetN.drop0 (RetN.done ⟨v2,G2,hi2,hu2,rfl,g2,12,0,false,⟨none,0,0⟩,⟨none,0,0⟩,[],ss2,rfl,IsE.node (by decide) (by decide) hK2⟩)))
theorem Roth_sqrt (ts:List Tk) (bp:Nat) (s:Sl) (e:Nat) (h:Heap) (i n:Nat) (y bad:Int) (us:List (Tk × Bool)) (v:Value) (G:Vc.Own) (x:Tr) (st':Rs) (X:List Nat) (ht8:∀y∈X,y<256) (w:RTk h s ts) (hy:y=(i:Int)) (hi:i<ts.length) (hu:us.length≤i) (g:GrowS Ty.ref04_Use 4 v us.length (usc us) G) (ihk:∀k:Nat,k≤3→QCt F.pref04_Reader_list [.int .i64 k] (.kids k) VK n) (hX:X=[115,113,114,116]) (hp:Rs.bnd (qp ts e prs n (.kids 1) ⟨i+1,bad,us⟩) (fun x st=>some (nodeT 10 2 x.kids,st))=some (x,st')):
  Vc.Fn T F.pref04_Reader_other [.pointer (some ⟨bp,0,none⟩),.string (txt X)] h (Rbk bp s y e bad v::G) (QRd ts bp s e VE x st'):=by
 have hsz:=w.sz
 cases h1:qp ts e prs n (.kids 1) ⟨i+1,bad,us⟩ with
 | none=>rw [h1] at hp;cases hp
 | some r1=>
 obtain ⟨x2,i2,bad2,us2⟩:=r1
 rw [h1] at hp
 cases hp
 have c1:∀h y,RTk h s ts→y=((i+1:Nat):Int)→Vc.Fn T F.pref04_Reader_list [.pointer (some ⟨bp,0,none⟩),.int .i64 ((1:Nat):Int)] h (Rbk bp s y e bad v::G) fun a h' L'=>∃v' G',i2≤ts.length∧us2.length≤i2∧L'=Rbk bp s i2 e bad2 v'::G'∧GrowS Ty.ref04_Use 4 v' us2.length (usc us2) G'∧VK h' a x2:=fun h y w hy=>ihk 1 (by omega) ts bp s e h (i+1) y bad us v G x2 ⟨i2,bad2,us2⟩ w hy hi (by omega) g h1
 refine fn_of_codeI ok D.pref04_Reader_other rfl ?_
 conv=>whnf
 repeat ((first|refine oz ?_|refine cz ?_);conv=>whnf)
 repeat' first|((first|(show CallN _ _ _ _ _ _;(refine CallN.all (A:=[_]) rfl (c1 _ _ (w.mono (by first|assumption|exact Heap.le_refl _)) (by omega)) (fun v h' Lp hl hr=>?_);obtain ⟨v2,G2,hi2,hu2,rfl,g2,ss2,rfl,hK2⟩:=hr))|((first|refine oz ?_|refine cz ?_))|intro (_:Nat)|refine WrapN.i64 (by omega) (by omega) ?_|refine LdN.own 0 rfl rfl ?_|refine Ld.own 1 rfl rfl ?_|(show Sto _ _ _ _;first|refine Sto.lit 0 rfl rfl rfl ?_|refine Sto.lit 1 rfl rfl rfl ?_)) <;> (conv=>whnf))|(show cnd _ _ _;first|(refine cnd_lit X [112,105] rfl rfl ht8 (by decide) (fun h1=>?_) (fun h1=>?_) <;> first|exact absurd h1 (by assumption)|exact absurd hX h1|exact absurd (h1.symm.trans hX) (by decide)|(conv=>whnf))|(refine cnd_lit X [40] rfl rfl ht8 (by decide) (fun h1=>?_) (fun h1=>?_) <;> first|exact absurd h1 (by assumption)|exact absurd hX h1|exact absurd (h1.symm.trans hX) (by decide)|(conv=>whnf))|(refine cnd_lit X [97,98,115] rfl rfl ht8 (by decide) (fun h1=>?_) (fun h1=>?_) <;> first|exact absurd h1 (by assumption)|exact absurd hX h1|exact absurd (h1.symm.trans hX) (by decide)|(conv=>whnf))|(refine cnd_lit X [115,113,114,116] rfl rfl ht8 (by decide) (fun h1=>?_) (fun h1=>?_) <;> first|exact absurd h1 (by assumption)|exact absurd hX h1|exact absurd (h1.symm.trans hX) (by decide)|(conv=>whnf)))
 all_goals first
  | exact RetN.drop0 (RetN.done ⟨v2,G2,hi2,hu2,rfl,g2,10,2,false,⟨none,0,0⟩,⟨none,0,0⟩,[],ss2,rfl,IsE.node (by decide) (by decide) hK2⟩)
  | exact RetN.drop0 (RetN.drop0 (RetN.done ⟨v2,G2,hi2,hu2,rfl,g2,10,2,false,⟨none,0,0⟩,⟨none,0,0⟩,[],ss2,rfl,IsE.node (by decide) (by decide) hK2⟩))
  | exact RetN.drop0 (RetN.drop0 (RetN.drop0 (RetN.done ⟨v2,G2,hi2,hu2,rfl,g2,10,2,false,⟨none,0,0⟩,⟨none,0,0⟩,[],ss2,rfl,IsE.node (by decide) (by decide) hK2⟩)))
theorem Roth_min (ts:List Tk) (bp:Nat) (s:Sl) (e:Nat) (h:Heap) (i n:Nat) (y bad:Int) (us:List (Tk × Bool)) (v:Value) (G:Vc.Own) (x:Tr) (st':Rs) (X:List Nat) (ht8:∀y∈X,y<256) (w:RTk h s ts) (hy:y=(i:Int)) (hi:i<ts.length) (hu:us.length≤i) (g:GrowS Ty.ref04_Use 4 v us.length (usc us) G) (ihk:∀k:Nat,k≤3→QCt F.pref04_Reader_list [.int .i64 k] (.kids k) VK n) (hX:X=[109,105,110]) (hp:Rs.bnd (qp ts e prs n (.kids 2) ⟨i+1,bad,us⟩) (fun x st=>some (nodeT 13 0 x.kids,st))=some (x,st')):
  Vc.Fn T F.pref04_Reader_other [.pointer (some ⟨bp,0,none⟩),.string (txt X)] h (Rbk bp s y e bad v::G) (QRd ts bp s e VE x st'):=by
 have hsz:=w.sz
 cases h1:qp ts e prs n (.kids 2) ⟨i+1,bad,us⟩ with
 | none=>rw [h1] at hp;cases hp
 | some r1=>
 obtain ⟨x2,i2,bad2,us2⟩:=r1
 rw [h1] at hp
 cases hp
 have c1:∀h y,RTk h s ts→y=((i+1:Nat):Int)→Vc.Fn T F.pref04_Reader_list [.pointer (some ⟨bp,0,none⟩),.int .i64 ((2:Nat):Int)] h (Rbk bp s y e bad v::G) fun a h' L'=>∃v' G',i2≤ts.length∧us2.length≤i2∧L'=Rbk bp s i2 e bad2 v'::G'∧GrowS Ty.ref04_Use 4 v' us2.length (usc us2) G'∧VK h' a x2:=fun h y w hy=>ihk 2 (by omega) ts bp s e h (i+1) y bad us v G x2 ⟨i2,bad2,us2⟩ w hy hi (by omega) g h1
 refine fn_of_codeI ok D.pref04_Reader_other rfl ?_
 conv=>whnf
 repeat ((first|refine oz ?_|refine cz ?_);conv=>whnf)
 repeat' first|((first|(show CallN _ _ _ _ _ _;(refine CallN.all (A:=[_]) rfl (c1 _ _ (w.mono (by first|assumption|exact Heap.le_refl _)) (by omega)) (fun v h' Lp hl hr=>?_);obtain ⟨v2,G2,hi2,hu2,rfl,g2,ss2,rfl,hK2⟩:=hr))|((first|refine oz ?_|refine cz ?_))|intro (_:Nat)|refine WrapN.i64 (by omega) (by omega) ?_|refine LdN.own 0 rfl rfl ?_|refine Ld.own 1 rfl rfl ?_|(show Sto _ _ _ _;first|refine Sto.lit 0 rfl rfl rfl ?_|refine Sto.lit 1 rfl rfl rfl ?_)) <;> (conv=>whnf))|(show cnd _ _ _;first|(refine cnd_lit X [112,105] rfl rfl ht8 (by decide) (fun h1=>?_) (fun h1=>?_) <;> first|exact absurd h1 (by assumption)|exact absurd hX h1|exact absurd (h1.symm.trans hX) (by decide)|(conv=>whnf))|(refine cnd_lit X [40] rfl rfl ht8 (by decide) (fun h1=>?_) (fun h1=>?_) <;> first|exact absurd h1 (by assumption)|exact absurd hX h1|exact absurd (h1.symm.trans hX) (by decide)|(conv=>whnf))|(refine cnd_lit X [97,98,115] rfl rfl ht8 (by decide) (fun h1=>?_) (fun h1=>?_) <;> first|exact absurd h1 (by assumption)|exact absurd hX h1|exact absurd (h1.symm.trans hX) (by decide)|(conv=>whnf))|(refine cnd_lit X [115,113,114,116] rfl rfl ht8 (by decide) (fun h1=>?_) (fun h1=>?_) <;> first|exact absurd h1 (by assumption)|exact absurd hX h1|exact absurd (h1.symm.trans hX) (by decide)|(conv=>whnf))|(refine cnd_lit X [109,105,110] rfl rfl ht8 (by decide) (fun h1=>?_) (fun h1=>?_) <;> first|exact absurd h1 (by assumption)|exact absurd hX h1|exact absurd (h1.symm.trans hX) (by decide)|(conv=>whnf)))
 all_goals first
  | exact RetN.drop0 (RetN.done ⟨v2,G2,hi2,hu2,rfl,g2,13,0,false,⟨none,0,0⟩,⟨none,0,0⟩,[],ss2,rfl,IsE.node (by decide) (by decide) hK2⟩)
  | exact RetN.drop0 (RetN.drop0 (RetN.done ⟨v2,G2,hi2,hu2,rfl,g2,13,0,false,⟨none,0,0⟩,⟨none,0,0⟩,[],ss2,rfl,IsE.node (by decide) (by decide) hK2⟩))
  | exact RetN.drop0 (RetN.drop0 (RetN.drop0 (RetN.done ⟨v2,G2,hi2,hu2,rfl,g2,13,0,false,⟨none,0,0⟩,⟨none,0,0⟩,[],ss2,rfl,IsE.node (by decide) (by decide) hK2⟩)))
theorem Roth_max (ts:List Tk) (bp:Nat) (s:Sl) (e:Nat) (h:Heap) (i n:Nat) (y bad:Int) (us:List (Tk × Bool)) (v:Value) (G:Vc.Own) (x:Tr) (st':Rs) (X:List Nat) (ht8:∀y∈X,y<256) (w:RTk h s ts) (hy:y=(i:Int)) (hi:i<ts.length) (hu:us.length≤i) (g:GrowS Ty.ref04_Use 4 v us.length (usc us) G) (ihk:∀k:Nat,k≤3→QCt F.pref04_Reader_list [.int .i64 k] (.kids k) VK n) (hX:X=[109,97,120]) (hp:Rs.bnd (qp ts e prs n (.kids 2) ⟨i+1,bad,us⟩) (fun x st=>some (nodeT 14 0 x.kids,st))=some (x,st')):
  Vc.Fn T F.pref04_Reader_other [.pointer (some ⟨bp,0,none⟩),.string (txt X)] h (Rbk bp s y e bad v::G) (QRd ts bp s e VE x st'):=by
 have hsz:=w.sz
 cases h1:qp ts e prs n (.kids 2) ⟨i+1,bad,us⟩ with
 | none=>rw [h1] at hp;cases hp
 | some r1=>
 obtain ⟨x2,i2,bad2,us2⟩:=r1
 rw [h1] at hp
 cases hp
 have c1:∀h y,RTk h s ts→y=((i+1:Nat):Int)→Vc.Fn T F.pref04_Reader_list [.pointer (some ⟨bp,0,none⟩),.int .i64 ((2:Nat):Int)] h (Rbk bp s y e bad v::G) fun a h' L'=>∃v' G',i2≤ts.length∧us2.length≤i2∧L'=Rbk bp s i2 e bad2 v'::G'∧GrowS Ty.ref04_Use 4 v' us2.length (usc us2) G'∧VK h' a x2:=fun h y w hy=>ihk 2 (by omega) ts bp s e h (i+1) y bad us v G x2 ⟨i2,bad2,us2⟩ w hy hi (by omega) g h1
 refine fn_of_codeI ok D.pref04_Reader_other rfl ?_
 conv=>whnf
 repeat ((first|refine oz ?_|refine cz ?_);conv=>whnf)
 repeat' first|((first|(show CallN _ _ _ _ _ _;(refine CallN.all (A:=[_]) rfl (c1 _ _ (w.mono (by first|assumption|exact Heap.le_refl _)) (by omega)) (fun v h' Lp hl hr=>?_);obtain ⟨v2,G2,hi2,hu2,rfl,g2,ss2,rfl,hK2⟩:=hr))|((first|refine oz ?_|refine cz ?_))|intro (_:Nat)|refine WrapN.i64 (by omega) (by omega) ?_|refine LdN.own 0 rfl rfl ?_|refine Ld.own 1 rfl rfl ?_|(show Sto _ _ _ _;first|refine Sto.lit 0 rfl rfl rfl ?_|refine Sto.lit 1 rfl rfl rfl ?_)) <;> (conv=>whnf))|(show cnd _ _ _;first|(refine cnd_lit X [112,105] rfl rfl ht8 (by decide) (fun h1=>?_) (fun h1=>?_) <;> first|exact absurd h1 (by assumption)|exact absurd hX h1|exact absurd (h1.symm.trans hX) (by decide)|(conv=>whnf))|(refine cnd_lit X [40] rfl rfl ht8 (by decide) (fun h1=>?_) (fun h1=>?_) <;> first|exact absurd h1 (by assumption)|exact absurd hX h1|exact absurd (h1.symm.trans hX) (by decide)|(conv=>whnf))|(refine cnd_lit X [97,98,115] rfl rfl ht8 (by decide) (fun h1=>?_) (fun h1=>?_) <;> first|exact absurd h1 (by assumption)|exact absurd hX h1|exact absurd (h1.symm.trans hX) (by decide)|(conv=>whnf))|(refine cnd_lit X [115,113,114,116] rfl rfl ht8 (by decide) (fun h1=>?_) (fun h1=>?_) <;> first|exact absurd h1 (by assumption)|exact absurd hX h1|exact absurd (h1.symm.trans hX) (by decide)|(conv=>whnf))|(refine cnd_lit X [109,105,110] rfl rfl ht8 (by decide) (fun h1=>?_) (fun h1=>?_) <;> first|exact absurd h1 (by assumption)|exact absurd hX h1|exact absurd (h1.symm.trans hX) (by decide)|(conv=>whnf))|(refine cnd_lit X [109,97,120] rfl rfl ht8 (by decide) (fun h1=>?_) (fun h1=>?_) <;> first|exact absurd h1 (by assumption)|exact absurd hX h1|exact absurd (h1.symm.trans hX) (by decide)|(conv=>whnf)))
 all_goals first
  | exact RetN.drop0 (RetN.done ⟨v2,G2,hi2,hu2,rfl,g2,14,0,false,⟨none,0,0⟩,⟨none,0,0⟩,[],ss2,rfl,IsE.node (by decide) (by decide) hK2⟩)
  | exact RetN.drop0 (RetN.drop0 (RetN.done ⟨v2,G2,hi2,hu2,rfl,g2,14,0,false,⟨none,0,0⟩,⟨none,0,0⟩,[],ss2,rfl,IsE.node (by decide) (by decide) hK2⟩))
  | exact RetN.drop0 (RetN.drop0 (RetN.drop0 (RetN.done ⟨v2,G2,hi2,hu2,rfl,g2,14,0,false,⟨none,0,0⟩,⟨none,0,0⟩,[],ss2,rfl,IsE.node (by decide) (by decide) hK2⟩)))
theorem Roth_if (ts:List Tk) (bp:Nat) (s:Sl) (e:Nat) (h:Heap) (i n:Nat) (y bad:Int) (us:List (Tk × Bool)) (v:Value) (G:Vc.Own) (x:Tr) (st':Rs) (X:List Nat) (ht8:∀y∈X,y<256) (w:RTk h s ts) (hy:y=(i:Int)) (hi:i<ts.length) (hu:us.length≤i) (g:GrowS Ty.ref04_Use 4 v us.length (usc us) G) (ihk:∀k:Nat,k≤3→QCt F.pref04_Reader_list [.int .i64 k] (.kids k) VK n) (hX:X=[105,102]) (hp:Rs.bnd (qp ts e prs n (.kids 3) ⟨i+1,bad,us⟩) (fun x st=>some (nodeT 15 0 x.kids,st))=some (x,st')):
  Vc.Fn T F.pref04_Reader_other [.pointer (some ⟨bp,0,none⟩),.string (txt X)] h (Rbk bp s y e bad v::G) (QRd ts bp s e VE x st'):=by
 have hsz:=w.sz
 cases h1:qp ts e prs n (.kids 3) ⟨i+1,bad,us⟩ with
 | none=>rw [h1] at hp;cases hp
 | some r1=>
 obtain ⟨x2,i2,bad2,us2⟩:=r1
 rw [h1] at hp
 cases hp
 have c1:∀h y,RTk h s ts→y=((i+1:Nat):Int)→Vc.Fn T F.pref04_Reader_list [.pointer (some ⟨bp,0,none⟩),.int .i64 ((3:Nat):Int)] h (Rbk bp s y e bad v::G) fun a h' L'=>∃v' G',i2≤ts.length∧us2.length≤i2∧L'=Rbk bp s i2 e bad2 v'::G'∧GrowS Ty.ref04_Use 4 v' us2.length (usc us2) G'∧VK h' a x2:=fun h y w hy=>ihk 3 (by omega) ts bp s e h (i+1) y bad us v G x2 ⟨i2,bad2,us2⟩ w hy hi (by omega) g h1
 refine fn_of_codeI ok D.pref04_Reader_other rfl ?_
 conv=>whnf
 repeat ((first|refine oz ?_|refine cz ?_);conv=>whnf)
 repeat' first|((first|(show CallN _ _ _ _ _ _;(refine CallN.all (A:=[_]) rfl (c1 _ _ (w.mono (by first|assumption|exact Heap.le_refl _)) (by omega)) (fun v h' Lp hl hr=>?_);obtain ⟨v2,G2,hi2,hu2,rfl,g2,ss2,rfl,hK2⟩:=hr))|((first|refine oz ?_|refine cz ?_))|intro (_:Nat)|refine WrapN.i64 (by omega) (by omega) ?_|refine LdN.own 0 rfl rfl ?_|refine Ld.own 1 rfl rfl ?_|(show Sto _ _ _ _;first|refine Sto.lit 0 rfl rfl rfl ?_|refine Sto.lit 1 rfl rfl rfl ?_)) <;> (conv=>whnf))|(show cnd _ _ _;first|(refine cnd_lit X [112,105] rfl rfl ht8 (by decide) (fun h1=>?_) (fun h1=>?_) <;> first|exact absurd h1 (by assumption)|exact absurd hX h1|exact absurd (h1.symm.trans hX) (by decide)|(conv=>whnf))|(refine cnd_lit X [40] rfl rfl ht8 (by decide) (fun h1=>?_) (fun h1=>?_) <;> first|exact absurd h1 (by assumption)|exact absurd hX h1|exact absurd (h1.symm.trans hX) (by decide)|(conv=>whnf))|(refine cnd_lit X [97,98,115] rfl rfl ht8 (by decide) (fun h1=>?_) (fun h1=>?_) <;> first|exact absurd h1 (by assumption)|exact absurd hX h1|exact absurd (h1.symm.trans hX) (by decide)|(conv=>whnf))|(refine cnd_lit X [115,113,114,116] rfl rfl ht8 (by decide) (fun h1=>?_) (fun h1=>?_) <;> first|exact absurd h1 (by assumption)|exact absurd hX h1|exact absurd (h1.symm.trans hX) (by decide)|(conv=>whnf))|(refine cnd_lit X [109,105,110] rfl rfl ht8 (by decide) (fun h1=>?_) (fun h1=>?_) <;> first|exact absurd h1 (by assumption)|exact absurd hX h1|exact absurd (h1.symm.trans hX) (by decide)|(conv=>whnf))|(refine cnd_lit X [109,97,120] rfl rfl ht8 (by decide) (fun h1=>?_) (fun h1=>?_) <;> first|exact absurd h1 (by assumption)|exact absurd hX h1|exact absurd (h1.symm.trans hX) (by decide)|(conv=>whnf))|(refine cnd_lit X [105,102] rfl rfl ht8 (by decide) (fun h1=>?_) (fun h1=>?_) <;> first|exact absurd h1 (by assumption)|exact absurd hX h1|exact absurd (h1.symm.trans hX) (by decide)|(conv=>whnf)))
 all_goals first
  | exact RetN.drop0 (RetN.done ⟨v2,G2,hi2,hu2,rfl,g2,15,0,false,⟨none,0,0⟩,⟨none,0,0⟩,[],ss2,rfl,IsE.node (by decide) (by decide) hK2⟩)
  | exact RetN.drop0 (RetN.drop0 (RetN.done ⟨v2,G2,hi2,hu2,rfl,g2,15,0,false,⟨none,0,0⟩,⟨none,0,0⟩,[],ss2,rfl,IsE.node (by decide) (by decide) hK2⟩))
  | exact RetN.drop0 (RetN.drop0 (RetN.drop0 (RetN.done ⟨v2,G2,hi2,hu2,rfl,g2,15,0,false,⟨none,0,0⟩,⟨none,0,0⟩,[],ss2,rfl,IsE.node (by decide) (by decide) hK2⟩)))
theorem Roth_par (ts:List Tk) (bp:Nat) (s:Sl) (e:Nat) (h:Heap) (i n:Nat) (y bad:Int) (us:List (Tk × Bool)) (v:Value) (G:Vc.Own) (x:Tr) (st':Rs) (X:List Nat) (ht8:∀y∈X,y<256) (w:RTk h s ts) (hy:y=(i:Int)) (hi:i<ts.length) (hu:us.length≤i) (g:GrowS Ty.ref04_Use 4 v us.length (usc us) G) (ihe:QCt F.pref04_Reader_Sum [] .sum VE n) (hX:X=[40]) (hp:Rs.bnd (qp ts e prs n .sum ⟨i+1,bad,us⟩) (fun x st=>Rs.bnd (takeO ts e [41] st) fun _ st=>some (x,st))=some (x,st')):
  Vc.Fn T F.pref04_Reader_other [.pointer (some ⟨bp,0,none⟩),.string (txt X)] h (Rbk bp s y e bad v::G) (QRd ts bp s e VE x st'):=by
 have hsz:=w.sz
 cases h1:qp ts e prs n .sum ⟨i+1,bad,us⟩ with
 | none=>rw [h1] at hp;cases hp
 | some r1=>
 obtain ⟨x2,i2,bad2,us2⟩:=r1
 rw [h1] at hp
 replace hp:some (x2,takeS ts e [41] ⟨i2,bad2,us2⟩)=some (x,st'):=hp
 cases hp
 have c1:∀h y,RTk h s ts→y=((i+1:Nat):Int)→Vc.Fn T F.pref04_Reader_Sum [.pointer (some ⟨bp,0,none⟩)] h (Rbk bp s y e bad v::G) fun a h' L'=>∃v' G',i2≤ts.length∧us2.length≤i2∧L'=Rbk bp s i2 e bad2 v'::G'∧GrowS Ty.ref04_Use 4 v' us2.length (usc us2) G'∧VE h' a x:=fun h y w hy=>ihe ts bp s e h (i+1) y bad us v G x ⟨i2,bad2,us2⟩ w hy hi (by omega) g h1
 refine fn_of_codeI ok D.pref04_Reader_other rfl ?_
 conv=>whnf
 repeat ((first|refine oz ?_|refine cz ?_);conv=>whnf)
 repeat' first|((first|(show CallN _ _ _ _ _ _;(refine CallN.all (A:=[_]) rfl (c1 _ _ (w.mono (by first|assumption|exact Heap.le_refl _)) (by omega)) (fun v h' Lp hl hr=>?_);obtain ⟨v2,G2,hi2,hu2,rfl,g2,op2,ar2,ng2,nn2,dd2,nm2,ss2,rfl,hE2⟩:=hr))|refine WrapN.i64 (by omega) (by omega) ?_|refine Ld.own 1 rfl rfl ?_|(show Sto _ _ _ _;first|refine Sto.lit 0 rfl rfl rfl ?_|refine Sto.lit 1 rfl rfl rfl ?_)) <;> (conv=>whnf))|(refine codeI.stop 7 ?_)|((first|refine oz ?_|refine cz ?_);conv=>whnf)|(intro (_:Nat);conv=>whnf)|(show cnd _ _ _;first|(refine cnd_lit X [112,105] rfl rfl ht8 (by decide) (fun h1=>?_) (fun h1=>?_) <;> first|exact absurd h1 (by assumption)|exact absurd hX h1|exact absurd (h1.symm.trans hX) (by decide)|(conv=>whnf))|(refine cnd_lit X [40] rfl rfl ht8 (by decide) (fun h1=>?_) (fun h1=>?_) <;> first|exact absurd h1 (by assumption)|exact absurd hX h1|exact absurd (h1.symm.trans hX) (by decide)|(conv=>whnf)))
 refine ⟨SeqN.go ?_⟩
 have w3:=w.mono hl
 obtain ⟨⟨i4,bad4,us2T⟩,hTb⟩:∃r,r=takeS ts e [41] ⟨i2,bad2,us2⟩:=⟨_,rfl⟩
 have tvb:=takeS_inv (ts:=ts) (e:=e) (x:=[41]) (bad:=bad2) hi2 hu2
 have tqb:=fun h y w hy=>RTake_ct h bp s ts (i2) e y bad2 us2 v2 [41] w hy hi2 (by decide)
 rw [← hTb] at tvb
 rw [← hTb]
 simp only [← hTb] at tqb
 obtain ⟨tvb1,tvb2,tvb3⟩:i4≤ts.length∧us2T=us2∧us2.length≤i4:=tvb
 replace tqb:∀h y,RTk h s ts→y=((i2:Nat):Int)→Vc.Fn T F.pref04_Reader_Take [.pointer (some ⟨bp,0,none⟩),.string (txt [41])] h [Rbk bp s y e bad2 v2] fun r h' L'=>L'=[Rbk bp s i4 e bad4 v2]∧h'=h∧r=.tuple #[]:=tqb
 subst tvb2
 clear hu2
 repeat' first|((first|(show CallN _ _ _ _ _ _;(refine CallN.par2 (A:=[_,_]) (B:=G2) rfl (Fn.pan (tqb _ _ (w3.mono (by first|assumption|exact Heap.le_refl _)) rfl)) (fun v h' Lp hl hr=>?_) (fun _ _ _ _ x=>x.elim);obtain ⟨rfl,rfl,rfl⟩:=hr;clear hl))|((first|refine oz ?_|refine cz ?_))|(show LdN _ _ _ _ _;first|refine LdN.own 0 rfl rfl ?_|refine LdN.own 1 rfl rfl ?_)|refine Sto.lit 1 rfl rfl rfl ?_) <;> (conv=>whnf))
 all_goals first
  | exact RetN.drop0 (RetN.done ⟨v2,G2,tvb1,tvb3,rfl,g2,op2,ar2,ng2,nn2,dd2,nm2,ss2,rfl,hE2⟩)
  | exact RetN.drop0 (RetN.drop0 (RetN.done ⟨v2,G2,tvb1,tvb3,rfl,g2,op2,ar2,ng2,nn2,dd2,nm2,ss2,rfl,hE2⟩))
  | exact RetN.drop0 (RetN.drop0 (RetN.drop0 (RetN.done ⟨v2,G2,tvb1,tvb3,rfl,g2,op2,ar2,ng2,nn2,dd2,nm2,ss2,rfl,hE2⟩)))
theorem Roth_root (ts:List Tk) (bp:Nat) (s:Sl) (e:Nat) (h:Heap) (i n:Nat) (y bad:Int) (us:List (Tk × Bool)) (v:Value) (G:Vc.Own) (x:Tr) (st':Rs) (X:List Nat) (ht8:∀y∈X,y<256) (w:RTk h s ts) (hy:y=(i:Int)) (hi:i<ts.length) (hu:us.length≤i) (g:GrowS Ty.ref04_Use 4 v us.length (usc us) G) (ihe:QCt F.pref04_Reader_Sum [] .sum VE n) (hX:X=[114,111,111,116]) (hp:Rs.bnd (takeO ts e [40] ⟨i+1,bad,us⟩) (fun _ st=>Rs.bnd (some (digS ts e true st)) fun k st=>Rs.bnd (takeO ts e [44] st) fun _ st=>Rs.bnd (qp ts e prs n .sum st) fun x st=>Rs.bnd (takeO ts e [41] st) fun _ st=>some (nodeT 10 k [x],st))=some (x,st')):
  Vc.Fn T F.pref04_Reader_other [.pointer (some ⟨bp,0,none⟩),.string (txt X)] h (Rbk bp s y e bad v::G) (QRd ts bp s e VE x st'):=by
 have hsz:=w.sz
 have hi1:i+1≤ts.length:=hi
 have hu1:us.length≤i+1:=by omega
 obtain ⟨⟨i1,bad1,usT⟩,hTa⟩:∃r,r=takeS ts e [40] ⟨i+1,bad,us⟩:=⟨_,rfl⟩
 have tva:=takeS_inv (ts:=ts) (e:=e) (x:=[40]) (bad:=bad) hi1 hu1
 have tqa:=fun h y w hy=>RTake_ct h bp s ts (i+1) e y bad us v [40] w hy hi1 (by decide)
 rw [← hTa] at tva
 simp only [← hTa] at tqa
 obtain ⟨tva1,tva2,tva3⟩:i1≤ts.length∧usT=us∧us.length≤i1:=tva
 replace tqa:∀h y,RTk h s ts→y=((i+1:Nat):Int)→Vc.Fn T F.pref04_Reader_Take [.pointer (some ⟨bp,0,none⟩),.string (txt [40])] h [Rbk bp s y e bad v] fun r h' L'=>L'=[Rbk bp s i1 e bad1 v]∧h'=h∧r=.tuple #[]:=tqa
 subst tva2
 replace hp:Rs.bnd (some (digS ts e true (takeS ts e [40] ⟨i+1,bad,usT⟩))) (fun k st=>Rs.bnd (takeO ts e [44] st) fun _ st=>Rs.bnd (qp ts e prs n .sum st) fun x st=>Rs.bnd (takeO ts e [41] st) fun _ st=>some (nodeT 10 k [x],st))=some (x,st'):=hp
 rw [← hTa] at hp
 clear hTa
 obtain ⟨⟨K,i3,bad3,us3⟩,hD⟩:∃r,r=digS ts e true ⟨i1,bad1,usT⟩:=⟨_,rfl⟩
 have dv:=digS_inv (ts:=ts) (e:=e) (root:=true) (bad:=bad1) (us:=usT) (i:=i1) tva1 tva3
 rw [← hD] at dv hp
 obtain ⟨dv1,dv2,dv3⟩:i3≤ts.length∧us3.length≤i3∧K≤1000:=dv
 have d1:∀h y,RTk h s ts→y=((i1:Nat):Int)→Vc.Fn T F.pref04_Reader_digits [.pointer (some ⟨bp,0,none⟩),.bool true] h (Rbk bp s y e bad1 v::G) fun r h' L'=>h'=h∧r=.int .i64 (K:Nat)∧∃v' G',L'=Rbk bp s i3 e bad3 v'::G'∧GrowS Ty.ref04_Use 4 v' us3.length (usc us3) G':=fun h y w hy=>by
  have:=RDig_ct h bp s ts i1 e y bad1 usT true v G w hy tva1 tva3 g
  rw [← hD] at this;exact this
 clear hD
 replace hp:Rs.bnd (qp ts e prs n .sum (takeS ts e [44] ⟨i3,bad3,us3⟩)) (fun x st=>Rs.bnd (takeO ts e [41] st) fun _ st=>some (nodeT 10 K [x],st))=some (x,st'):=hp
 refine fn_of_codeI ok D.pref04_Reader_other rfl ?_
 conv=>whnf
 repeat ((first|refine oz ?_|refine cz ?_);conv=>whnf)
 repeat' first|((first|(show CallN _ _ _ _ _ _;first|(refine CallN.par2 (A:=[_]) (B:=G) rfl (Fn.pan (tqa _ _ (w.mono (by first|assumption|exact Heap.le_refl _)) (by omega))) (fun v h' Lp hl hr=>?_) (fun _ _ _ _ x=>x.elim);obtain ⟨rfl,rfl,rfl⟩:=hr;clear hl)|(refine CallN.all (A:=[_]) rfl (d1 _ _ (w.mono (by first|assumption|exact Heap.le_refl _)) rfl) (fun v h' Lp hl hr=>?_);obtain ⟨rfl,rfl,v3,G3,rfl,g3⟩:=hr;clear hl))|refine WrapN.i64 (by omega) (by omega) ?_|refine Ld.own 1 rfl rfl ?_|refine Sto.lit 1 rfl rfl rfl ?_) <;> (conv=>whnf))|(refine codeI.stop 27 ?_)|((first|refine oz ?_|refine cz ?_);conv=>whnf)|(intro (_:Nat);conv=>whnf)|(show cnd _ _ _;first|(refine cnd_lit X [112,105] rfl rfl ht8 (by decide) (fun h1=>?_) (fun h1=>?_) <;> first|exact absurd h1 (by assumption)|exact absurd hX h1|exact absurd (h1.symm.trans hX) (by decide)|(conv=>whnf))|(refine cnd_lit X [40] rfl rfl ht8 (by decide) (fun h1=>?_) (fun h1=>?_) <;> first|exact absurd h1 (by assumption)|exact absurd hX h1|exact absurd (h1.symm.trans hX) (by decide)|(conv=>whnf))|(refine cnd_lit X [97,98,115] rfl rfl ht8 (by decide) (fun h1=>?_) (fun h1=>?_) <;> first|exact absurd h1 (by assumption)|exact absurd hX h1|exact absurd (h1.symm.trans hX) (by decide)|(conv=>whnf))|(refine cnd_lit X [115,113,114,116] rfl rfl ht8 (by decide) (fun h1=>?_) (fun h1=>?_) <;> first|exact absurd h1 (by assumption)|exact absurd hX h1|exact absurd (h1.symm.trans hX) (by decide)|(conv=>whnf))|(refine cnd_lit X [109,105,110] rfl rfl ht8 (by decide) (fun h1=>?_) (fun h1=>?_) <;> first|exact absurd h1 (by assumption)|exact absurd hX h1|exact absurd (h1.symm.trans hX) (by decide)|(conv=>whnf))|(refine cnd_lit X [109,97,120] rfl rfl ht8 (by decide) (fun h1=>?_) (fun h1=>?_) <;> first|exact absurd h1 (by assumption)|exact absurd hX h1|exact absurd (h1.symm.trans hX) (by decide)|(conv=>whnf))|(refine cnd_lit X [105,102] rfl rfl ht8 (by decide) (fun h1=>?_) (fun h1=>?_) <;> first|exact absurd h1 (by assumption)|exact absurd hX h1|exact absurd (h1.symm.trans hX) (by decide)|(conv=>whnf))|(refine cnd_lit X [114,111,111,116] rfl rfl ht8 (by decide) (fun h1=>?_) (fun h1=>?_) <;> first|exact absurd h1 (by assumption)|exact absurd hX h1|exact absurd (h1.symm.trans hX) (by decide)|(conv=>whnf)))
 refine ⟨SeqN.go ?_⟩
 obtain ⟨⟨i4,bad4,us3T⟩,hTb⟩:∃r,r=takeS ts e [44] ⟨i3,bad3,us3⟩:=⟨_,rfl⟩
 have tvb:=takeS_inv (ts:=ts) (e:=e) (x:=[44]) (bad:=bad3) dv1 dv2
 have tqb:=fun h y w hy=>RTake_ct h bp s ts (i3) e y bad3 us3 v3 [44] w hy dv1 (by decide)
 rw [← hTb] at tvb
 simp only [← hTb] at tqb
 obtain ⟨tvb1,tvb2,tvb3⟩:i4≤ts.length∧us3T=us3∧us3.length≤i4:=tvb
 replace tqb:∀h y,RTk h s ts→y=((i3:Nat):Int)→Vc.Fn T F.pref04_Reader_Take [.pointer (some ⟨bp,0,none⟩),.string (txt [44])] h [Rbk bp s y e bad3 v3] fun r h' L'=>L'=[Rbk bp s i4 e bad4 v3]∧h'=h∧r=.tuple #[]:=tqb
 subst tvb2
 rw [← hTb] at hp
 clear hTb dv2
 cases h1:qp ts e prs n .sum ⟨i4,bad4,us3T⟩ with
 | none=>rw [h1] at hp;cases hp
 | some r1=>
 obtain ⟨x2,i2,bad2,us2⟩:=r1
 rw [h1] at hp
 replace hp:some (nodeT 10 K [x2],takeS ts e [41] ⟨i2,bad2,us2⟩)=some (x,st'):=hp
 cases hp
 have c1:∀h y,RTk h s ts→y=((i4:Nat):Int)→Vc.Fn T F.pref04_Reader_Sum [.pointer (some ⟨bp,0,none⟩)] h (Rbk bp s y e bad4 v3::G3) fun a h' L'=>∃v' G',i2≤ts.length∧us2.length≤i2∧L'=Rbk bp s i2 e bad2 v'::G'∧GrowS Ty.ref04_Use 4 v' us2.length (usc us2) G'∧VE h' a x2:=fun h y w hy=>ihe ts bp s e h (i4) y bad4 us3T v3 G3 x2 ⟨i2,bad2,us2⟩ w hy tvb1 tvb3 g3 h1
 repeat' first|((first|(show CallN _ _ _ _ _ _;first|(refine CallN.par2 (A:=[_]) (B:=G3) rfl (Fn.pan (tqb _ _ (w.mono (by first|assumption|exact Heap.le_refl _)) rfl)) (fun v h' Lp hl hr=>?_) (fun _ _ _ _ x=>x.elim);obtain ⟨rfl,rfl,rfl⟩:=hr;clear hl)|(refine CallN.all (A:=[_]) rfl (c1 _ _ (w.mono (by first|assumption|exact Heap.le_refl _)) rfl) (fun v h' Lp hl hr=>?_);obtain ⟨v2,G2,hi2,hu2,rfl,g2,op2,ar2,ng2,nn2,dd2,nm2,ss2,rfl,hE2⟩:=hr))|refine Sto.lit 0 rfl rfl rfl ?_) <;> (conv=>whnf))|(refine codeI.stop 29 ?_)|((first|refine oz ?_|refine cz ?_);conv=>whnf)|(intro (_:Nat);conv=>whnf)
 refine ⟨SeqN.go ?_⟩
 have w3:=w.mono hl
 obtain ⟨⟨i5,bad5,us2T⟩,hTd⟩:∃r,r=takeS ts e [41] ⟨i2,bad2,us2⟩:=⟨_,rfl⟩
 have tvd:=takeS_inv (ts:=ts) (e:=e) (x:=[41]) (bad:=bad2) hi2 hu2
 have tqd:=fun h y w hy=>RTake_ct h bp s ts (i2) e y bad2 us2 v2 [41] w hy hi2 (by decide)
 rw [← hTd] at tvd
 rw [← hTd]
 simp only [← hTd] at tqd
 obtain ⟨tvd1,tvd2,tvd3⟩:i5≤ts.length∧us2T=us2∧us2.length≤i5:=tvd
 replace tqd:∀h y,RTk h s ts→y=((i2:Nat):Int)→Vc.Fn T F.pref04_Reader_Take [.pointer (some ⟨bp,0,none⟩),.string (txt [41])] h [Rbk bp s y e bad2 v2] fun r h' L'=>L'=[Rbk bp s i5 e bad5 v2]∧h'=h∧r=.tuple #[]:=tqd
 subst tvd2
 clear hu2
 repeat' first|((first|(show CallN _ _ _ _ _ _;first|(refine CallN.par2 (A:=[_,_]) (B:=G2) rfl (Fn.pan (tqd _ _ (w3.mono (by first|assumption|exact Heap.le_refl _)) rfl)) (fun v h' Lp hl hr=>?_) (fun _ _ _ _ x=>x.elim);obtain ⟨rfl,rfl,rfl⟩:=hr;clear hl)|(refine CallN.fn rfl (rone_ct _ _ (by first|decide|exact ⟨by omega,by omega⟩) (by first|decide|exact ⟨by omega,by omega⟩) _ _ _ (hE2.mono (by first|assumption|exact Heap.le_refl _))) (fun v h' hl2 hr=>?_);obtain ⟨op9,ar9,ng9,nn9,dd9,nm9,ss9,rfl,hE9⟩:=hr))|((first|refine oz ?_|refine cz ?_))|(show LdN _ _ _ _ _;first|refine LdN.own 0 rfl rfl ?_|refine LdN.own 1 rfl rfl ?_)|refine Sto.lit 1 rfl rfl rfl ?_) <;> (conv=>whnf))
 all_goals first
  | exact RetN.drop0 (RetN.done ⟨v2,G2,tvd1,tvd3,rfl,g2,op9,ar9,ng9,nn9,dd9,nm9,ss9,rfl,hE9⟩)
  | exact RetN.drop0 (RetN.drop0 (RetN.done ⟨v2,G2,tvd1,tvd3,rfl,g2,op9,ar9,ng9,nn9,dd9,nm9,ss9,rfl,hE9⟩))
  | exact RetN.drop0 (RetN.drop0 (RetN.drop0 (RetN.done ⟨v2,G2,tvd1,tvd3,rfl,g2,op9,ar9,ng9,nn9,dd9,nm9,ss9,rfl,hE9⟩)))
theorem Roth_bad (ts:List Tk) (bp:Nat) (s:Sl) (e:Nat) (h:Heap) (i n:Nat) (y bad:Int) (us:List (Tk × Bool)) (v:Value) (G:Vc.Own) (x:Tr) (st':Rs) (X:List Nat) (ht8:∀y∈X,y<256) (w:RTk h s ts) (hy:y=(i:Int)) (hi:i<ts.length) (hu:us.length≤i) (g:GrowS Ty.ref04_Use 4 v us.length (usc us) G) (x0:¬X=[112,105]) (x1:¬X=[40]) (x2:¬X=[97,98,115]) (x3:¬X=[115,113,114,116]) (x4:¬X=[109,105,110]) (x5:¬X=[109,97,120]) (x6:¬X=[105,102]) (x7:¬X=[114,111,111,116]) (hb:bad<0) (hp:some (zeroX,failS ts e ⟨i,bad,us⟩)=some (x,st')):
  Vc.Fn T F.pref04_Reader_other [.pointer (some ⟨bp,0,none⟩),.string (txt X)] h (Rbk bp s y e bad v::G) (QRd ts bp s e VE x st'):=by
 have hsz:=w.sz
 cases hp
 have fi:(failS ts e ⟨i,bad,us⟩).i=i:=by unfold failS;split <;> rfl
 have fu:(failS ts e ⟨i,bad,us⟩).us=us:=by unfold failS;split <;> rfl
 have c2:=fun h y w hy=>RFail_ct h bp s ts i e y bad us v w hy
 unfold QRd
 rw [fi,fu]
 obtain ⟨B,hB⟩:∃B,B=(failS ts e ⟨i,bad,us⟩).bad:=⟨_,rfl⟩
 simp only [← hB] at c2 ⊢
 clear hB fi fu
 refine fn_of_codeI ok D.pref04_Reader_other rfl ?_
 conv=>whnf
 repeat ((first|refine oz ?_|refine cz ?_);conv=>whnf)
 repeat' first|((first|(show cnd _ _ _;first|refine cnd_lit X [112,105] rfl rfl ht8 (by decide) (fun h1=>absurd h1 (by assumption)) (fun h1=>?_)|refine cnd_lit X [40] rfl rfl ht8 (by decide) (fun h1=>absurd h1 (by assumption)) (fun h1=>?_)|refine cnd_lit X [97,98,115] rfl rfl ht8 (by decide) (fun h1=>absurd h1 (by assumption)) (fun h1=>?_)|refine cnd_lit X [115,113,114,116] rfl rfl ht8 (by decide) (fun h1=>absurd h1 (by assumption)) (fun h1=>?_)|refine cnd_lit X [109,105,110] rfl rfl ht8 (by decide) (fun h1=>absurd h1 (by assumption)) (fun h1=>?_)|refine cnd_lit X [109,97,120] rfl rfl ht8 (by decide) (fun h1=>absurd h1 (by assumption)) (fun h1=>?_)|refine cnd_lit X [105,102] rfl rfl ht8 (by decide) (fun h1=>absurd h1 (by assumption)) (fun h1=>?_)|refine cnd_lit X [114,111,111,116] rfl rfl ht8 (by decide) (fun h1=>absurd h1 (by assumption)) (fun h1=>?_))|(show CallN _ _ _ _ _ _;(refine CallN.own 1 rfl rfl (c2 _ _ (w.mono (by first|assumption|exact Heap.le_refl _)) (by omega)) (fun v h' La hl hr=>?_);obtain ⟨rfl,rfl,rfl⟩:=hr;clear hl;refine ⟨_,rfl,?_⟩))|((first|refine oz ?_|refine cz ?_))|intro (_:Nat)|refine WrapN.i64 (by omega) (by omega) ?_|refine LdN.own 0 rfl rfl ?_|refine Ld.own 1 rfl rfl ?_|(show Sto _ _ _ _;first|refine Sto.lit 0 rfl rfl rfl ?_|refine Sto.lit 1 rfl rfl rfl ?_)) <;> (conv=>whnf))
 all_goals first
  | exact RetN.drop0 (RetN.done ⟨v,G,Nat.le_of_lt hi,hu,congrArg (·::G) (Rbk_eq (by omega) rfl),g,0,0,false,⟨none,0,0⟩,⟨none,0,0⟩,[],⟨none,0,0⟩,rfl,IsE.zero _⟩)
  | exact RetN.drop0 (RetN.drop0 (RetN.done ⟨v,G,Nat.le_of_lt hi,hu,congrArg (·::G) (Rbk_eq (by omega) rfl),g,0,0,false,⟨none,0,0⟩,⟨none,0,0⟩,[],⟨none,0,0⟩,rfl,IsE.zero _⟩))
  | exact RetN.drop0 (RetN.drop0 (RetN.drop0 (RetN.done ⟨v,G,Nat.le_of_lt hi,hu,congrArg (·::G) (Rbk_eq (by omega) rfl),g,0,0,false,⟨none,0,0⟩,⟨none,0,0⟩,[],⟨none,0,0⟩,rfl,IsE.zero _⟩)))
theorem Ratom (n:Nat) (ihe:∀m,m<n→QCt F.pref04_Reader_Sum [] .sum VE m) (ihk:∀m,m<n→∀k:Nat,k≤3→QCt F.pref04_Reader_list [.int .i64 k] (.kids k) VK m):QCt F.pref04_Reader_atom [] .atom VE n:=by
 intro ts bp s e h i y bad us v G x st' w hy hi hu g hp
 have hsz:=w.sz
 cases n with
 | zero=>rw [qp] at hp;cases hp
 | succ n=>
  rw [qp] at hp
  have ihe:=ihe n (by omega)
  have ihk:=ihk n (by omega)
  have fi:(failS ts e ⟨i,bad,us⟩).i=i:=by unfold failS;split <;> rfl
  have fu:(failS ts e ⟨i,bad,us⟩).us=us:=by unfold failS;split <;> rfl
  have c2:=fun h y w hy=>RFail_ct h bp s ts i e y bad us v w hy
  by_cases hb:¬bad<0
  ·rw [if_pos hb] at hp
   cases hp
   rw [show (failS ts e ⟨i,bad,us⟩).bad=bad by unfold failS;rw [if_neg hb]] at c2
   cases ht:ts[i]? with
   | none=>
    have c1:=fun h w=>RNext_n h bp s ts i e y bad v w hy ht
    refine fn_of_codeI ok D.pref04_Reader_atom rfl ?_
    conv=>whnf
    repeat ((first|refine oz ?_|refine cz ?_);conv=>whnf)
    repeat' first|((first|(show CallN _ _ _ _ _ _;first|(refine CallN.own 1 rfl rfl (c1 _ (w.mono (by first|assumption|exact Heap.le_refl _))) (fun v h' La hl hr=>?_);obtain ⟨rfl,rfl,rfl⟩:=hr;clear hl;refine ⟨_,rfl,?_⟩)|(refine CallN.own 2 rfl rfl (c2 _ _ (w.mono (by first|assumption|exact Heap.le_refl _)) hy) (fun v h' La hl hr=>?_);obtain ⟨rfl,rfl,rfl⟩:=hr;clear hl;refine ⟨_,rfl,?_⟩))|((first|refine oz ?_|refine cz ?_))|intro (_:Nat)|refine LdN.own 1 rfl rfl ?_|refine Ld.own 2 rfl rfl ?_|(show Sto _ _ _ _;first|refine Sto.lit 0 rfl rfl rfl ?_|refine Sto.lit 1 rfl rfl rfl ?_)) <;> (conv=>whnf))|(refine cnd_le (fun _=>?_) (fun _=>?_) <;> first|(exfalso;omega)|(conv=>whnf))
    all_goals first
     | exact RetN.drop0 (RetN.drop0 (RetN.done ⟨v,G,hi,hu,congrArg (·::G) (Rbk_eq hy rfl),g,0,0,false,⟨none,0,0⟩,⟨none,0,0⟩,[],⟨none,0,0⟩,rfl,IsE.zero _⟩))
     | exact RetN.drop0 (RetN.done ⟨v,G,hi,hu,congrArg (·::G) (Rbk_eq hy rfl),g,0,0,false,⟨none,0,0⟩,⟨none,0,0⟩,[],⟨none,0,0⟩,rfl,IsE.zero _⟩)
     | exact RetN.drop0 (RetN.drop0 (RetN.drop0 (RetN.done ⟨v,G,hi,hu,congrArg (·::G) (Rbk_eq hy rfl),g,0,0,false,⟨none,0,0⟩,⟨none,0,0⟩,[],⟨none,0,0⟩,rfl,IsE.zero _⟩)))
   | some t=>
    have c1:=fun h w=>RNext_s h bp s ts i e y bad v t w hy ht
    obtain ⟨X,hX⟩:∃X,X=t.text:=⟨_,rfl⟩
    obtain ⟨P,hP⟩:∃X,X=t.pos:=⟨_,rfl⟩
    obtain ⟨K,hK⟩:∃X,X=rk t.kind:=⟨_,rfl⟩
    simp only [← hX,← hP,← hK] at c1
    refine fn_of_codeI ok D.pref04_Reader_atom rfl ?_
    conv=>whnf
    repeat ((first|refine oz ?_|refine cz ?_);conv=>whnf)
    repeat' first|((first|(show CallN _ _ _ _ _ _;first|(refine CallN.own 1 rfl rfl (c1 _ (w.mono (by first|assumption|exact Heap.le_refl _))) (fun v h' La hl hr=>?_);obtain ⟨rfl,rfl,rfl⟩:=hr;clear hl;refine ⟨_,rfl,?_⟩)|(refine CallN.own 2 rfl rfl (c2 _ _ (w.mono (by first|assumption|exact Heap.le_refl _)) hy) (fun v h' La hl hr=>?_);obtain ⟨rfl,rfl,rfl⟩:=hr;clear hl;refine ⟨_,rfl,?_⟩))|((first|refine oz ?_|refine cz ?_))|intro (_:Nat)|refine LdN.own 1 rfl rfl ?_|refine Ld.own 2 rfl rfl ?_|(show Sto _ _ _ _;first|refine Sto.lit 0 rfl rfl rfl ?_|refine Sto.lit 1 rfl rfl rfl ?_)) <;> (conv=>whnf))|(refine cnd_le (fun _=>?_) (fun _=>?_) <;> first|(exfalso;omega)|(conv=>whnf))
    all_goals first
     | exact RetN.drop0 (RetN.drop0 (RetN.done ⟨v,G,hi,hu,congrArg (·::G) (Rbk_eq hy rfl),g,0,0,false,⟨none,0,0⟩,⟨none,0,0⟩,[],⟨none,0,0⟩,rfl,IsE.zero _⟩))
     | exact RetN.drop0 (RetN.done ⟨v,G,hi,hu,congrArg (·::G) (Rbk_eq hy rfl),g,0,0,false,⟨none,0,0⟩,⟨none,0,0⟩,[],⟨none,0,0⟩,rfl,IsE.zero _⟩)
     | exact RetN.drop0 (RetN.drop0 (RetN.drop0 (RetN.done ⟨v,G,hi,hu,congrArg (·::G) (Rbk_eq hy rfl),g,0,0,false,⟨none,0,0⟩,⟨none,0,0⟩,[],⟨none,0,0⟩,rfl,IsE.zero _⟩)))
  rw [if_neg hb] at hp
  replace hb:=Decidable.not_not.1 hb
  cases ht:ts[i]? with
  | none=>
   rw [ht] at hp
   cases hp
   have c1:=fun h w=>RNext_n h bp s ts i e y bad v w hy ht
   unfold QRd
   rw [fi,fu]
   obtain ⟨B,hB⟩:∃B,B=(failS ts e ⟨i,bad,us⟩).bad:=⟨_,rfl⟩
   simp only [← hB] at c2 ⊢
   clear hB fi fu
   refine fn_of_codeI ok D.pref04_Reader_atom rfl ?_
   conv=>whnf
   repeat ((first|refine oz ?_|refine cz ?_);conv=>whnf)
   repeat' first|((first|(show CallN _ _ _ _ _ _;first|(refine CallN.own 1 rfl rfl (c1 _ (w.mono (by first|assumption|exact Heap.le_refl _))) (fun v h' La hl hr=>?_);obtain ⟨rfl,rfl,rfl⟩:=hr;clear hl;refine ⟨_,rfl,?_⟩)|(refine CallN.own 2 rfl rfl (c2 _ _ (w.mono (by first|assumption|exact Heap.le_refl _)) hy) (fun v h' La hl hr=>?_);obtain ⟨rfl,rfl,rfl⟩:=hr;clear hl;refine ⟨_,rfl,?_⟩))|((first|refine oz ?_|refine cz ?_))|intro (_:Nat)|refine LdN.own 1 rfl rfl ?_|(show Ld _ _ _ _;first|refine Ld.own 0 rfl rfl ?_|refine Ld.own 2 rfl rfl ?_)|(show Sto _ _ _ _;first|refine Sto.lit 0 rfl rfl rfl ?_|refine Sto.lit 1 rfl rfl rfl ?_)) <;> (conv=>whnf))|(show cnd _ _ _;first|(refine cnd_le (fun _=>?_) (fun _=>?_) <;> first|(exfalso;omega)|(conv=>whnf))|(refine cnd_eq (fun _=>?_) (fun _=>?_) <;> first|(exfalso;omega)|(conv=>whnf)))
   all_goals first
     | exact RetN.drop0 (RetN.drop0 (RetN.done ⟨v,G,hi,hu,congrArg (·::G) (Rbk_eq hy rfl),g,0,0,false,⟨none,0,0⟩,⟨none,0,0⟩,[],⟨none,0,0⟩,rfl,IsE.zero _⟩))
     | exact RetN.drop0 (RetN.done ⟨v,G,hi,hu,congrArg (·::G) (Rbk_eq hy rfl),g,0,0,false,⟨none,0,0⟩,⟨none,0,0⟩,[],⟨none,0,0⟩,rfl,IsE.zero _⟩)
     | exact RetN.drop0 (RetN.drop0 (RetN.drop0 (RetN.done ⟨v,G,hi,hu,congrArg (·::G) (Rbk_eq hy rfl),g,0,0,false,⟨none,0,0⟩,⟨none,0,0⟩,[],⟨none,0,0⟩,rfl,IsE.zero _⟩)))
  | some t=>
   rw [ht] at hp
   simp only at hp
   clear c2 fi fu
   have hm:=List.mem_of_getElem? ht
   have hj:=(List.getElem?_eq_some_iff.1 ht).1
   have ht8:=w.lt t hm
   obtain ⟨pz,tz,tl⟩:=w.ps t hm
   have c1:=fun h w=>RNext_s h bp s ts i e y bad v t w hy ht
   by_cases k2:t.kind=2
   ·rw [if_pos k2] at hp
    cases hp
    rw [show rk t.kind=2 by rw [k2];rfl] at c1
    refine fn_of_codeI ok D.pref04_Reader_atom rfl ?_
    conv=>whnf
    repeat ((first|refine oz ?_|refine cz ?_);conv=>whnf)
    repeat' first|((first|(show CallN _ _ _ _ _ _;(refine CallN.own 1 rfl rfl (c1 _ (w.mono (by first|assumption|exact Heap.le_refl _))) (fun v h' La hl hr=>?_);obtain ⟨rfl,rfl,rfl⟩:=hr;clear hl;refine ⟨_,rfl,?_⟩))|((first|refine oz ?_|refine cz ?_))|intro (_:Nat)|refine WrapN.i64 (by omega) (by omega) ?_|refine LdN.own 1 rfl rfl ?_|(show Ld _ _ _ _;first|refine Ld.own 0 rfl rfl ?_|refine Ld.own 2 rfl rfl ?_)|(show Sto _ _ _ _;first|refine Sto.lit 0 rfl rfl rfl ?_|refine Sto.lit 1 rfl rfl rfl ?_|refine Sto.lit 2 rfl rfl rfl ?_)) <;> (conv=>whnf))|(show cnd _ _ _;first|(refine cnd_le (fun _=>?_) (fun _=>?_) <;> first|(exfalso;omega)|(conv=>whnf))|(refine cnd_eq (fun _=>?_) (fun _=>?_) <;> first|(exfalso;omega)|(conv=>whnf)))
    all_goals first
     | exact RetN.drop0 (RetN.drop0 (RetN.done ⟨v,G,hj,Nat.le_succ_of_le hu,congrArg (·::G) (Rbk_eq (by show _=((i+1:Nat):Int);omega) rfl),g,2,0,false,⟨none,0,0⟩,⟨none,0,0⟩,t.text,⟨none,0,0⟩,rfl,IsE.var ht8⟩))
     | exact RetN.drop0 (RetN.done ⟨v,G,hj,Nat.le_succ_of_le hu,congrArg (·::G) (Rbk_eq (by show _=((i+1:Nat):Int);omega) rfl),g,2,0,false,⟨none,0,0⟩,⟨none,0,0⟩,t.text,⟨none,0,0⟩,rfl,IsE.var ht8⟩)
     | exact RetN.drop0 (RetN.drop0 (RetN.drop0 (RetN.done ⟨v,G,hj,Nat.le_succ_of_le hu,congrArg (·::G) (Rbk_eq (by show _=((i+1:Nat):Int);omega) rfl),g,2,0,false,⟨none,0,0⟩,⟨none,0,0⟩,t.text,⟨none,0,0⟩,rfl,IsE.var ht8⟩)))
   rw [if_neg k2] at hp
   by_cases k3:t.kind=3
   ·rw [if_pos k3] at hp
    have hix:=fnIx_le t.text
    cases h1:qp ts e prs n (.kids 1) ⟨i+1,bad,us⟩ with
    | none=>rw [show Rs.nx ⟨i,bad,us⟩=⟨i+1,bad,us⟩ from rfl,h1] at hp;cases hp
    | some r1=>
     obtain ⟨x2,i2,bad2,us2⟩:=r1
     rw [show Rs.nx ⟨i,bad,us⟩=⟨i+1,bad,us⟩ from rfl,h1] at hp
     cases hp
     rw [show rk t.kind=3 by rw [k3];rfl] at c1
     have c4:=fun h=>RFind_ct h t.text ht8
     obtain ⟨Q,hQ⟩:∃Q,Q=fnIx t.text:=⟨_,rfl⟩
     rw [← hQ] at hix ⊢
     simp only [← hQ] at c4
     obtain ⟨bb,hbb⟩:∃Q,Q=dec (t.text∈fnames):=⟨_,rfl⟩
     simp only [← hbb] at c4
     clear hbb hQ
     have c3:∀h y,RTk h s ts→y=((i+1:Nat):Int)→Vc.Fn T F.pref04_Reader_list [.pointer (some ⟨bp,0,none⟩),.int .i64 ((1:Nat):Int)] h (Rbk bp s y e bad v::G) fun a h' L'=>∃v' G',i2≤ts.length∧us2.length≤i2∧L'=Rbk bp s i2 e bad2 v'::G'∧GrowS Ty.ref04_Use 4 v' us2.length (usc us2) G'∧VK h' a x2:=fun h y w hy=>ihk 1 (by omega) ts bp s e h (i+1) y bad us v G x2 ⟨i2,bad2,us2⟩ w hy hj (by omega) g h1
     refine fn_of_codeI ok D.pref04_Reader_atom rfl ?_
     conv=>whnf
     repeat ((first|refine oz ?_|refine cz ?_);conv=>whnf)
     repeat' first|((first|(show CallN _ _ _ _ _ _;first|(refine CallN.own 1 rfl rfl (c1 _ (w.mono (by first|assumption|exact Heap.le_refl _))) (fun v h' La hl hr=>?_);obtain ⟨rfl,rfl,rfl⟩:=hr;clear hl;refine ⟨_,rfl,?_⟩)|(refine CallN.fn rfl (c4 _) (fun v h' hl2 hr=>?_);subst hr)|(refine CallN.all (A:=[_,_]) rfl (c3 _ _ (w.mono (by assumption)) (by omega)) (fun v h' Lp hl hr=>?_);obtain ⟨v2,G2,hi2,hu2,rfl,g2,ss2,rfl,hK2⟩:=hr))|((first|refine oz ?_|refine cz ?_))|intro (_:Nat)|refine WrapN.i64 (by omega) (by omega) ?_|refine LdN.own 1 rfl rfl ?_|(show Ld _ _ _ _;first|refine Ld.own 0 rfl rfl ?_|refine Ld.own 2 rfl rfl ?_)|(show Sto _ _ _ _;first|refine Sto.lit 0 rfl rfl rfl ?_|refine Sto.lit 1 rfl rfl rfl ?_|refine Sto.lit 2 rfl rfl rfl ?_)) <;> (conv=>whnf))|(show cnd _ _ _;first|(refine cnd_le (fun _=>?_) (fun _=>?_) <;> first|(exfalso;omega)|(conv=>whnf))|(refine cnd_eq (fun _=>?_) (fun _=>?_) <;> first|(exfalso;omega)|(conv=>whnf)))
     all_goals first
      | exact RetN.drop0 (RetN.drop0 (RetN.done ⟨v2,G2,hi2,hu2,rfl,g2,11,_,false,⟨none,0,0⟩,⟨none,0,0⟩,[],ss2,rfl,IsE.node (by decide) (by omega) hK2⟩))
      | exact RetN.drop0 (RetN.done ⟨v2,G2,hi2,hu2,rfl,g2,11,_,false,⟨none,0,0⟩,⟨none,0,0⟩,[],ss2,rfl,IsE.node (by decide) (by omega) hK2⟩)
      | exact RetN.drop0 (RetN.drop0 (RetN.drop0 (RetN.done ⟨v2,G2,hi2,hu2,rfl,g2,11,_,false,⟨none,0,0⟩,⟨none,0,0⟩,[],ss2,rfl,IsE.node (by decide) (by omega) hK2⟩)))
   rw [if_neg k3] at hp
   by_cases k1:t.kind=1
   ·rw [if_pos k1] at hp
    cases hp
    rw [show rk t.kind=1 by rw [k1];rfl] at c1
    have c4:=fun h=>RParse_ct h t.text tl (w.num t hm k1)
    have kk:=Fok.parseL t.text
    have pe:=fun x=>prs_err (l:=t.text) x
    obtain ⟨⟨q,er⟩,hq⟩:∃p,p=parseL t.text:=⟨_,rfl⟩
    have pv:prs t.text=(sg q,dg 4294967296 (nu q),dg 4294967296 (dn q)):=by unfold prs;rw [← hq]
    simp only [← hq] at c4 kk pe
    replace pe:er≠0→prs t.text=(false,[],[]):=pe
    replace c4:∀h,Fn0 T F.ref01_Parse [.string (txt t.text)] h fun v h'=>∃a b:Sl,v=.tuple #[.agg #[.bool (sg q),a.val,b.val],.int .i64 er]∧IsRat h' a b q:=c4
    have vq:∀h (a b:Sl),IsRat h a b q→IsVal h a b (dg 4294967296 (nu q)) (dg 4294967296 (dn q)):=fun h a b x=>israt_val x kk.sz
    clear hq kk
    refine fn_of_codeI ok D.pref04_Reader_atom rfl ?_
    conv=>whnf
    repeat ((first|refine oz ?_|refine cz ?_);conv=>whnf)
    repeat' first|((first|(show CallN _ _ _ _ _ _;first|(refine CallN.own 1 rfl rfl (c1 _ (w.mono (by first|assumption|exact Heap.le_refl _))) (fun v h' La hl hr=>?_);obtain ⟨rfl,rfl,rfl⟩:=hr;clear hl;refine ⟨_,rfl,?_⟩)|(refine CallN.fn rfl (c4 _) (fun v h' hl2 hr=>?_);obtain ⟨a5,b5,rfl,hq5⟩:=hr;have hv5:=vq _ _ _ hq5))|((first|refine oz ?_|refine cz ?_))|intro (_:Nat)|refine WrapN.i64 (by omega) (by omega) ?_|(show LdN _ _ _ _ _;first|refine LdN.own 0 rfl rfl ?_|refine LdN.own 2 rfl rfl ?_)|(show Ld _ _ _ _;first|refine Ld.own 0 rfl rfl ?_|refine Ld.own 2 rfl rfl ?_)|(show Sto _ _ _ _;first|refine Sto.lit 0 rfl rfl rfl ?_|refine Sto.lit 2 rfl rfl rfl ?_)) <;> (conv=>whnf))|(show cnd _ _ _;first|(refine cnd_le (fun _=>?_) (fun _=>?_) <;> first|(exfalso;omega)|(conv=>whnf))|(refine cnd_eq (fun _=>?_) (fun _=>?_) <;> first|(exfalso;omega)|(conv=>whnf))|(refine cnd_not ?_))
    all_goals first
     | (have p:=pe (by omega);exact RetN.drop0 (RetN.drop0 (RetN.drop0 (RetN.done ⟨v,G,hj,Nat.le_succ_of_le hu,congrArg (·::G) (Rbk_eq (by show _=((i+1:Nat):Int);omega) rfl),g,1,0,false,⟨none,0,0⟩,⟨none,0,0⟩,[],⟨none,0,0⟩,rfl,by unfold numT;rw [p];exact IsE.num (IsVal.zero _)⟩))))
     | exact RetN.drop0 (RetN.drop0 (RetN.drop0 (RetN.done ⟨v,G,hj,Nat.le_succ_of_le hu,congrArg (·::G) (Rbk_eq (by show _=((i+1:Nat):Int);omega) rfl),g,1,0,sg q,a5,b5,[],⟨none,0,0⟩,rfl,by unfold numT;rw [pv];exact IsE.num hv5⟩)))
   rw [if_neg k1] at hp
   have hk0:t.kind=0:=by omega
   rw [show rk t.kind=4 by rw [hk0];rfl] at c1
   have c5:∀h y,RTk h s ts→y=(i:Int)→Vc.Fn T F.pref04_Reader_other [.pointer (some ⟨bp,0,none⟩),.string (txt t.text)] h (Rbk bp s y e bad v::G) (QRd ts bp s e VE x st'):=fun h y w hy=>by
    by_cases x0:t.text=[112,105]
    ·rw [if_pos x0] at hp;exact Roth_pi ts bp s e h i n y bad us v G x st' _ ht8 w hy hj hu g x0 hp
    rw [if_neg x0] at hp
    by_cases x1:t.text=[40]
    ·rw [if_pos x1] at hp;exact Roth_par ts bp s e h i n y bad us v G x st' _ ht8 w hy hj hu g ihe x1 hp
    rw [if_neg x1] at hp
    by_cases x2:t.text=[97,98,115]
    ·rw [if_pos x2] at hp;exact Roth_abs ts bp s e h i n y bad us v G x st' _ ht8 w hy hj hu g ihk x2 hp
    rw [if_neg x2] at hp
    by_cases x3:t.text=[115,113,114,116]
    ·rw [if_pos x3] at hp;exact Roth_sqrt ts bp s e h i n y bad us v G x st' _ ht8 w hy hj hu g ihk x3 hp
    rw [if_neg x3] at hp
    by_cases x4:t.text=[109,105,110]
    ·rw [if_pos x4] at hp;exact Roth_min ts bp s e h i n y bad us v G x st' _ ht8 w hy hj hu g ihk x4 hp
    rw [if_neg x4] at hp
    by_cases x5:t.text=[109,97,120]
    ·rw [if_pos x5] at hp;exact Roth_max ts bp s e h i n y bad us v G x st' _ ht8 w hy hj hu g ihk x5 hp
    rw [if_neg x5] at hp
    by_cases x6:t.text=[105,102]
    ·rw [if_pos x6] at hp;exact Roth_if ts bp s e h i n y bad us v G x st' _ ht8 w hy hj hu g ihk x6 hp
    rw [if_neg x6] at hp
    by_cases x7:t.text=[114,111,111,116]
    ·rw [if_pos x7] at hp;exact Roth_root ts bp s e h i n y bad us v G x st' _ ht8 w hy hj hu g ihe x7 hp
    rw [if_neg x7] at hp
    exact Roth_bad ts bp s e h i n y bad us v G x st' _ ht8 w hy hj hu g x0 x1 x2 x3 x4 x5 x6 x7 hb hp
   clear hp
   refine fn_of_codeI ok D.pref04_Reader_atom rfl ?_
   conv=>whnf
   repeat ((first|refine oz ?_|refine cz ?_);conv=>whnf)
   repeat' first|((first|(show CallN _ _ _ _ _ _;first|(refine CallN.own 1 rfl rfl (c1 _ (w.mono (by first|assumption|exact Heap.le_refl _))) (fun v h' La hl hr=>?_);obtain ⟨rfl,rfl,rfl⟩:=hr;clear hl;refine ⟨_,rfl,?_⟩)|(refine CallN.all (A:=[_,_]) rfl (c5 _ _ (w.mono (by first|assumption|exact Heap.le_refl _)) hy) (fun v h' Lp hl hr=>?_);obtain ⟨v2,G2,hi2,hu2,rfl,g2,op2,ar2,ng2,nn2,dd2,nm2,ss2,rfl,hE2⟩:=hr))|((first|refine oz ?_|refine cz ?_))|intro (_:Nat)|refine LdN.own 1 rfl rfl ?_|(show Ld _ _ _ _;first|refine Ld.own 0 rfl rfl ?_|refine Ld.own 2 rfl rfl ?_)|(show Sto _ _ _ _;first|refine Sto.lit 0 rfl rfl rfl ?_|refine Sto.lit 1 rfl rfl rfl ?_)) <;> (conv=>whnf))|(show cnd _ _ _;first|(refine cnd_le (fun _=>?_) (fun _=>?_) <;> first|(exfalso;omega)|(conv=>whnf))|(refine cnd_eq (fun _=>?_) (fun _=>?_) <;> first|(exfalso;omega)|(conv=>whnf)))
   all_goals first
    | exact RetN.drop0 (RetN.drop0 (RetN.done ⟨v2,G2,hi2,hu2,rfl,g2,op2,ar2,ng2,nn2,dd2,nm2,ss2,rfl,hE2⟩))
    | exact RetN.drop0 (RetN.done ⟨v2,G2,hi2,hu2,rfl,g2,op2,ar2,ng2,nn2,dd2,nm2,ss2,rfl,hE2⟩)
    | exact RetN.drop0 (RetN.drop0 (RetN.drop0 (RetN.done ⟨v2,G2,hi2,hu2,rfl,g2,op2,ar2,ng2,nn2,dd2,nm2,ss2,rfl,hE2⟩)))
theorem Qall (n:Nat):QCt F.pref04_Reader_Sum [] .sum VE n∧QCt F.pref04_Reader_term [] .term VE n∧QCt F.pref04_Reader_factor [] .fac VE n∧QCt F.pref04_Reader_atom [] .atom VE n∧∀k:Nat,k≤3→QCt F.pref04_Reader_list [.int .i64 k] (.kids k) VK n:=by
 induction n using Nat.strongRecOn with
 | ind n ih=>exact ⟨RSum n fun m hm=>(ih m hm).2.1,Rterm n fun m hm=>(ih m hm).2.2.1,Rfactor n (fun m hm=>(ih m hm).2.2.1) (fun m hm=>(ih m hm).2.2.2.1),Ratom n (fun m hm=>(ih m hm).1) (fun m hm=>(ih m hm).2.2.2.2),fun k hk=>Rlist k n hk fun m hm=>(ih m hm).1⟩
end Go.Proofs.YtmblpmegfmgjgaaGreatDoor
/- The document's parser, whole; the law of Parses. -/
namespace Go.Vc
open Go Go.Dig
theorem Has.up {h h':Heap} {a:Addr} {v:Value} (x:∀L,Has h L a v) (hl:h.le h') (L:Vc.Own):Has h' L a v:=by
 obtain ⟨h1,c,T,fz,h2,h3⟩:=x []
 exact ⟨h1,c,T,fz,.inl (hl _ _ (h2.resolve_right (by simp))),h3⟩
theorem CallN.freeze {T:Tab} {f:FuncId} {args:List Value} {h:Heap} {k:Value→Heap→Own→Prop} {A G tl:Vc.Own} {b:Nat} {o:Obj} (i:Nat) (hi:G[i]?=some (b,o)) (hf:T.fn f=true)
  (hk:∀h' G',h.le h'→h' b=some o→CallN T f args h' (A++(G'++tl)) k):CallN T f args h (A++(G++tl)) k:=by
 have hlt:=(List.getElem?_eq_some_iff.1 hi).1
 refine CallN.keep (b:=b) (o:=o) (A.length+i) (by rw [List.getElem?_append_right (by omega),Nat.add_sub_cancel_left,List.getElem?_append_left hlt];exact hi) hf fun hle=>?_
 rw [List.eraseIdx_append_of_length_le (by omega),Nat.add_sub_cancel_left,List.eraseIdx_append_of_lt_length hlt]
 exact hk _ _ hle (by simp [Heap.put])
theorem CallN.grown {T:Tab} {f:FuncId} {args:Value→List Value} {h:Heap} {k:Value→Heap→Own→Prop} {A F tl:Vc.Own} {e:TypeId} {size:Nat} {v:Value} {n:Nat} {xs:List Value} (g:GrowS e size v n xs F) (hs:0<size) (hf:T.fn f=true)
  (hk:∀h' (s:Sl) F',h.le h'→Rw h' s size xs→CallN T f (args s.val) h' (A++(F'++tl)) k):CallN T f (args v) h (A++(F++tl)) k:=by
 obtain ⟨g1,⟨rfl,rfl⟩|⟨i,b,cap,zs,rfl,h2,h3,h4⟩⟩:=g
 ·obtain rfl:xs=[]:=by simpa using g1
  exact hk h ⟨none,0,0⟩ F (Heap.le_refl _) ⟨by simp,Nat.le_refl _,fun x=>(x rfl).elim⟩
 ·exact CallN.freeze i h2 hf fun h' G' hle hb=>hk h' ⟨some ⟨b,0,none⟩,n,cap⟩ G' hle ⟨g1.symm,h3,fun _=>⟨b,0,(xs++zs).toArray,e,(0,0),rfl,hb,fun j hj=>by
    rw [Nat.zero_add,List.getElem?_toArray,List.getElem?_append_left hj]⟩⟩
end Go.Vc
namespace Go.Proofs.YtmblpmegfmgjgaaGreatDoor
open Go Go.Vc Go.Dig
/-! all counts are tokens of digits -/
section
variable {ts:List Tk} {e:Nat}
def UsO (ts:List Tk) (us:List (Tk × Bool)):Prop:=∀u∈us,u.1∈ts∧dlen u.1.text=u.1.text.length
def Pv {α:Type} (ts:List Tk) (A:Option (α × Rs)):Prop:=∀x st,A=some (x,st)→UsO ts st.us
theorem Pv.ok {α:Type} {x:α} {st:Rs} (h:UsO ts st.us):Pv ts (some (x,st)):=fun y st' e=>by cases e;exact h
theorem Pv.bnd {α β:Type} {A:Option (α × Rs)} {f:α→Rs→Option (β × Rs)} (h:Pv ts A) (hf:∀x st,UsO ts st.us→Pv ts (f x st)):Pv ts (Rs.bnd A f):=by
 match A,h with
 | none,_=>exact fun y st' e=>by cases e
 | some (x,st),h=>exact hf x st (h x st rfl)
theorem Pv.ite {α:Type} {c:Prop} [Decidable c] {A B:Option (α × Rs)} (ha:Pv ts A) (hb:Pv ts B):Pv ts (if c then A else B):=by
 by_cases hc:c
 ·rw [if_pos hc];exact ha
 ·rw [if_neg hc];exact hb
theorem failS_us {st:Rs}:(failS ts e st).us=st.us:=by unfold failS;split <;> rfl
theorem Pv.take {s:List Nat} {st:Rs} (h:UsO ts st.us):Pv ts (takeO ts e s st):=by
 unfold takeO
 refine Pv.ok ?_
 unfold takeS
 split
 ·exact h
 ·rw [failS_us];exact h
theorem Pv.dig {root:Bool} {st:Rs} (h:UsO ts st.us):Pv ts (some (digS ts e root st)):=by
 refine Pv.ok (x:=(digS ts e root st).1) (st:=(digS ts e root st).2) ?_
 unfold digS
 split
 ·rename_i t ht
  split
  ·rename_i q
   intro u hu
   rcases List.mem_append.1 hu with hu|hu
   ·exact h u hu
   ·obtain rfl:=List.mem_singleton.1 hu
    exact ⟨List.mem_of_getElem? ht,q.2.2⟩
  ·show UsO ts (failS ts e st).us
   rw [failS_us];exact h
 ·show UsO ts (failS ts e st).us
  rw [failS_us];exact h
theorem qp_us (parse:List Nat→Bool × List Nat × List Nat):∀(n:Nat) (md:Md) (st:Rs),UsO ts st.us→Pv ts (qp ts e parse n md st):=by
 intro n
 induction n with
 | zero=>intro md st _;rw [qp];exact fun x st e=>by cases e
 | succ n ih=>
  intro md st h
  have hx:UsO ts st.nx.us:=h
  have hxx:UsO ts st.nx.nx.us:=h
  have hf:UsO ts (failS ts e st).us:=by rw [failS_us];exact h
  cases md with
  | sum=>rw [qp];exact Pv.bnd (ih _ _ h) fun x st h=>ih _ _ h
  | sumL x=>
   rw [qp]
   split
   ·exact Pv.bnd (ih _ _ hx) fun x st h=>ih _ _ h
   split
   ·exact Pv.bnd (ih _ _ hx) fun x st h=>ih _ _ h
   ·exact Pv.ok h
  | term=>rw [qp];exact Pv.bnd (ih _ _ h) fun x st h=>ih _ _ h
  | termL x=>
   rw [qp]
   split
   ·exact Pv.bnd (ih _ _ hx) fun x st h=>ih _ _ h
   split
   ·exact Pv.bnd (ih _ _ hx) fun x st h=>ih _ _ h
   ·exact Pv.ok h
  | fac=>
   rw [qp]
   split
   ·exact Pv.bnd (ih _ _ hx) fun x st h=>Pv.ok h
   ·refine Pv.bnd (ih _ _ h) fun x st h=>?_
    split
    ·split
     ·exact Pv.bnd (Pv.dig (st:=st.nx.nx) h) fun k st h=>Pv.ok h
     ·exact Pv.bnd (Pv.dig (st:=st.nx) h) fun k st h=>Pv.ok h
    ·exact Pv.ok h
  | atom=>
   rw [qp]
   refine Pv.ite (Pv.ok h) ?_
   cases ht:ts[st.i]? with
   | none=>exact Pv.ok hf
   | some t=>
    refine Pv.ite (Pv.ok hx) (Pv.ite ?_ (Pv.ite (Pv.ok hx) (Pv.ite (Pv.ok hx) (Pv.ite ?_ (Pv.ite ?_ (Pv.ite ?_ (Pv.ite ?_ (Pv.ite ?_ (Pv.ite ?_ (Pv.ite ?_ (Pv.ok hf)))))))))))
    ·exact Pv.bnd (ih _ _ hx) fun x st h=>Pv.ok h
    ·exact Pv.bnd (ih _ _ hx) fun x st h=>Pv.bnd (Pv.take h) fun _ st h=>Pv.ok h
    ·exact Pv.bnd (ih _ _ hx) fun x st h=>Pv.ok h
    ·exact Pv.bnd (ih _ _ hx) fun x st h=>Pv.ok h
    ·exact Pv.bnd (ih _ _ hx) fun x st h=>Pv.ok h
    ·exact Pv.bnd (ih _ _ hx) fun x st h=>Pv.ok h
    ·exact Pv.bnd (ih _ _ hx) fun x st h=>Pv.ok h
    ·exact Pv.bnd (Pv.take hx) fun _ st h=>Pv.bnd (Pv.dig h) fun k st h=>Pv.bnd (Pv.take h) fun _ st h=>Pv.bnd (ih _ _ h) fun x st h=>Pv.bnd (Pv.take h) fun _ st h=>Pv.ok h
  | kids k=>rw [qp];exact Pv.bnd (Pv.take h) fun _ st h=>ih _ _ h
  | kidsL k j acc=>
   rw [qp]
   split
   ·split
    ·exact Pv.bnd (Pv.take h) fun _ st h=>Pv.bnd (ih _ _ h) fun x st h=>ih _ _ h
    ·exact Pv.bnd (ih _ _ h) fun x st h=>ih _ _ h
   ·exact Pv.bnd (Pv.take h) fun _ st h=>Pv.ok h
end
/-! a denominator of noughts -/
theorem nought_iff {l:List Nat} (hn:NumTx l):nought l↔dlen l<l.length∧l.getD (dlen l) 0=47∧∀c∈l.drop (dlen l+1),c=48:=by
 obtain ⟨hd,h0,h1,hcase⟩:=hn
 unfold nought
 rcases hcase with rfl|⟨c,tl,hc,h2,h3,rfl⟩
 ·have e1:slashI l=l.length:=by
   have:=slashI_dig (b:=[]) h1
   rw [List.append_nil] at this
   rw [this];rfl
  have e2:dlen l=l.length:=by unfold dlen;rw [(tw_all h1).1]
  rw [e1,e2]
  constructor
  ·rintro ⟨x,-⟩;omega
  ·rintro ⟨x,-⟩;omega
 ·have hc0:dgt c=false:=by
   rw [Bool.eq_false_iff];intro x;have:=dgt_iff.1 x;omega
  have e2:dlen (hd++c::tl)=hd.length:=by unfold dlen;rw [(tw_app hd (c::tl) h1 (fun d e=>by cases e;exact hc0)).1]
  have e3:(hd++c::tl).getD hd.length 0=c:=by rw [List.getD_eq_getElem?_getD,List.getElem?_append_right (Nat.le_refl _),Nat.sub_self];rfl
  have e4:(hd++c::tl).length=hd.length+1+tl.length:=by simp;omega
  rw [e2,e3,slashI_dig h1]
  rcases hc with rfl|rfl
  ·have e5:slashI (46::tl)=1+tl.length:=by
    rw [slashI,if_neg (by decide)]
    have:=slashI_dig (b:=[]) h3
    rw [List.append_nil] at this
    rw [this,show slashI []=0 from rfl]
    omega
   rw [e5]
   constructor
   ·rintro ⟨x,-⟩;omega
   ·rintro ⟨-,x,-⟩;exact absurd x (by decide)
  ·have e5:slashI (47::tl)=0:=if_pos rfl
   rw [e5,Nat.add_zero]
   exact ⟨fun x=>⟨by omega,rfl,x.2⟩,fun x=>⟨by omega,x.2.2⟩⟩
theorem Rnought_ct (h:Heap) (l:List Nat) (hb:∀y∈l,y<256) (hl:l.length≤1000000) (hn:NumTx l):Fn0 T F.ref04_nought [.string (txt l)] h fun v h'=>h'=h∧v=.bool (dec (nought l)):=by
 have hz:=txt_size l
 have hni:=nought_iff hn
 have c1:=fun h=>Rdigits_ct h l hb hl 0 (Nat.zero_le _) 0 rfl
 rw [List.drop_zero,Nat.zero_add] at c1
 have hdl:=dlen_le l
 obtain ⟨DL,hD⟩:∃DL,DL=dlen l:=⟨_,rfl⟩
 rw [← hD] at hni hdl
 simp only [← hD] at c1
 have f1:¬(DL<l.length∧l.getD DL 0=47)→dec (nought l)=false:=fun x=>dec_false fun y=>x ⟨(hni.1 y).1,(hni.1 y).2.1⟩
 have f2:DL<l.length→l.getD DL 0=47→(∀c∈l.drop (DL+1),c=48)→dec (nought l)=true:=fun a b c=>dec_true (hni.2 ⟨a,b,c⟩)
 have f3:∀k,DL+1≤k→k<l.length→l.getD k 0≠48→dec (nought l)=false:=fun k a b c=>dec_false fun y=>c ((hni.1 y).2.2 _ (by
   rw [List.mem_iff_getElem]
   refine ⟨k-(DL+1),by rw [List.length_drop];omega,?_⟩
   rw [List.getElem_drop,List.getD_eq_getElem?_getD,List.getElem?_eq_getElem b]
   simp only [Option.getD_some]
   congr 1;omega))
 obtain ⟨R,hR⟩:∃R,R=dec (nought l):=⟨_,rfl⟩
 rw [← hR] at f1 f2 ⊢
 simp only [← hR] at f3
 obtain ⟨X,hX⟩:∃X,X=l.getD DL 0:=⟨_,rfl⟩
 rw [← hX] at f1 f2
 clear hni hR hD
 by_cases hg:DL<l.length∧X=47
 ·have f2:=f2 hg.1 hg.2
  obtain ⟨hg1,hg2⟩:=hg
  clear f1
  refine fn0_of_codeI ok D.ref04_nought rfl ?_
  conv=>whnf
  repeat ((first|refine oz ?_|refine cz ?_);conv=>whnf)
  repeat' first|((first|(show CallN _ _ _ _ _ _;refine CallN.quiet rfl (c1 _) ?_)|(show IdxS _ _ _;(refine IdxS.txt l rfl hb DL (by omega) (by omega) ?_;rw [← hX]))|((first|refine oz ?_|refine cz ?_))|refine WrapN.i64 (by omega) (by omega) ?_) <;> (conv=>whnf))|(show cnd _ _ _;first|(refine cnd_le (fun _=>?_) (fun _=>?_) <;> first|(exfalso;omega)|(conv=>whnf))|(refine cnd_eq (fun _=>?_) (fun _=>?_) <;> first|(exfalso;omega)|(conv=>whnf))|(refine cnd_not ?_))
  refine LoopN.of (fun r ρ h' L=>∃k:Nat,r=l.length-k∧h'=h∧rd ρ 4=.int .i64 k∧DL+1≤k∧k≤l.length∧Hq (∀i,DL+1≤i→i<k→l.getD i 0=48)) (l.length-(DL+1)) ⟨DL+1,rfl,rfl,rfl,Nat.le_refl _,hg1,⟨fun i hi hj=>by omega⟩⟩ ?_
  conv=>whnf
  repeat intro _
  rename_i r h1 L1 hI
  obtain ⟨k,rfl,rfl,e4,hk1,hk2,hd⟩:=hI
  conv at e4=>lhs;whnf
  subst e4
  have g1:=fun (x:k<l.length) (y:l.getD k 0=48) i (hi:DL+1≤i) (hj:i<k+1)=>(by
    by_cases e:i=k
    ·subst e;exact y
    ·exact hd.out i hi (by omega):l.getD i 0=48)
  have g2:k=l.length→R=true:=fun x=>f2 fun c hc=>by
   obtain ⟨i,hi,rfl⟩:=List.mem_iff_getElem.1 hc
   rw [List.length_drop] at hi
   have:=hd.out (DL+1+i) (by omega) (by omega)
   rw [List.getD_eq_getElem?_getD,List.getElem?_eq_getElem (by omega)] at this
   rw [List.getElem_drop];exact this
  have g3:=fun (x:k<l.length)=>f3 k hk1 x
  obtain ⟨Y,hY⟩:∃X,X=l.getD k 0:=⟨_,rfl⟩
  rw [← hY] at g1 g3
  replace g1:=Hq.mk g1
  replace g3:=Hq.mk g3
  clear f2 f3
  conv=>whnf
  repeat ((first|refine oz ?_|refine cz ?_);conv=>whnf)
  repeat' first|((first|(show IdxS _ _ _;(refine IdxS.txt l rfl hb k (by omega) (by omega) ?_;rw [← hY]))|((first|refine oz ?_|refine cz ?_))|refine WrapN.i64 (by omega) (by omega) ?_) <;> (conv=>whnf))|(show cnd _ _ _;first|(refine cnd_lt (fun _=>?_) (fun _=>?_) <;> first|(exfalso;omega)|(conv=>whnf))|(refine cnd_eq (fun _=>?_) (fun _=>?_) <;> first|(exfalso;omega)|(conv=>whnf))|(refine cnd_not ?_))
  all_goals first
   | exact ⟨rfl,l.length-(k+1),by omega,k+1,rfl,rfl,vi (by omega),by omega,by omega,⟨g1.out (by omega) (by omega)⟩⟩
   | (rw [g2 (by omega)];exact RetN.all ⟨rfl,rfl⟩)
   | (rw [g3.out (by omega) (by omega)];exact RetN.all ⟨rfl,rfl⟩)
 ·have f1:=f1 hg
  rw [f1]
  clear f2 f3 f1
  refine fn0_of_codeI ok D.ref04_nought rfl ?_
  conv=>whnf
  repeat ((first|refine oz ?_|refine cz ?_);conv=>whnf)
  repeat' first|((first|(show CallN _ _ _ _ _ _;refine CallN.quiet rfl (c1 _) ?_)|(show IdxS _ _ _;(refine IdxS.txt l rfl hb DL (by omega) (by omega) ?_;rw [← hX]))|((first|refine oz ?_|refine cz ?_))) <;> (conv=>whnf))|(show cnd _ _ _;first|(refine cnd_le (fun _=>?_) (fun _=>?_) <;> first|(exfalso;omega)|(conv=>whnf))|(refine cnd_eq (fun _=>?_) (fun _=>?_) <;> first|(exfalso;omega)|(conv=>whnf))|(refine cnd_not ?_))
  all_goals first
   | exact RetN.all ⟨rfl,rfl⟩
   | exact absurd ⟨by omega,by omega⟩ hg
theorem find_at {α:Type} {l:List α} {p:α→Prop} [DecidablePred p] {j:Nat} {t:α} (h:l[j]?=some t) (hp:p t) (hn:∀u∈l.take j,¬p u):l.find? (fun u=>decide (p u))=some t:=by
 have e:l=l.take j++t::l.drop (j+1):=by
  have hj:=(List.getElem?_eq_some_iff.1 h).1
  have:=List.take_append_drop j l
  rw [List.drop_eq_getElem_cons hj,(List.getElem?_eq_some_iff.1 h).2] at this
  exact this.symm
 rw [e,List.find?_append,List.find?_eq_none.2 fun u hu=>by simpa using hn u hu]
 simp [hp]
theorem find_no {α:Type} {l:List α} {p:α→Prop} [DecidablePred p] (hn:∀u∈l,¬p u):l.find? (fun u=>decide (p u))=none:=List.find?_eq_none.2 fun u hu=>by simpa using hn u hu
theorem usc_get {us:List (Tk × Bool)} {j:Nat} {u:Tk × Bool} (ht:us[j]?=some u) (m:Nat) (hm:m<4):(usc us)[j*4+m]?=(usv u)[m]?:=by
 induction us generalizing j with
 | nil=>simp at ht
 | cons x us ih=>
  unfold usc
  rw [List.flatMap_cons]
  cases j with
  | zero=>
   simp at ht;subst ht
   rw [List.getElem?_append_left (by simp [usv];omega),Nat.zero_mul,Nat.zero_add]
  | succ j=>
   rw [List.getElem?_append_right (by simp [usv];omega)]
   have:=ih (j:=j) (by simpa using ht)
   unfold usc at this
   rw [← this]
   congr 1
   simp [usv];omega
theorem usc_len:∀us:List (Tk × Bool),(usc us).length=us.length*4
 | []=>rfl
 | t::ts=>by unfold usc;rw [List.flatMap_cons,List.length_append];have:=usc_len ts;unfold usc at this;rw [this];simp [usv];omega
theorem Idx.use {h:Heap} {s:Sl} {us:List (Tk × Bool)} (w:Rw h s 4 (usc us)) {i:Int} {k:Addr→Prop} (j:Nat) (u:Tk × Bool) (hi:i=j) (ht:us[j]?=some u)
  (hk:∀b off,(∀L,Has h L ⟨b,off+1,none⟩ (.int .i64 u.1.pos))→(∀L,Has h L ⟨b,off+2,none⟩ (.string (txt u.1.text)))→(∀L,Has h L ⟨b,off+3,none⟩ (.bool u.2))→k ⟨b,off,none⟩):Idx s.a i s.l 4 k:=by
 have hj:=(List.getElem?_eq_some_iff.1 ht).1
 have hl:=usc_len us
 have hne:usc us≠[]:=fun e=>by rw [e] at hl;simp at hl;omega
 obtain ⟨b,off,c,T,fz,h1,h2,h3⟩:=w.mem hne
 have hlen:=w.len
 have get:∀m,m<4→∀L,Has h L ⟨b,off+j*4+m,none⟩ ((usv u).getD m undef):=fun m hm L=>by
  refine Has.imm h2 ?_
  rw [Nat.add_assoc,h3 _ (by omega),usc_get ht m hm]
  match m,hm with
  | 0,_=>rfl
  | 1,_=>rfl
  | 2,_=>rfl
  | 3,_=>rfl
 exact Idx.of j h1 hi (by omega) (hk _ _ (get 1 (by decide)) (get 2 (by decide)) (get 3 (by decide)))
theorem RNumbers_ct (h:Heap) (s su:Sl) (ts:List Tk) (us:List (Tk × Bool)) (w:RTk h s ts) (wu:Rw h su 4 (usc us)) (ho:UsO ts us) (hus9:us.length≤1000000):Fn0 T F.ref04_Numbers [s.val,su.val] h fun v h'=>v=.tuple #[.int .i64 (numY ts us).2,.int .i64 (numY ts us).1]:=by
 have hsl:=w.len
 have hsz:=w.sz
 have hul:su.l=us.length:=by have:=wu.len;rw [usc_len] at this;omega
 have hw:=w.rw
 have n1:∀t,ts.find? (fun t=>decide (badN1 t))=some t→numY ts us=(10,t.pos):=fun t x=>by unfold numY;rw [x]
 have n2:ts.find? (fun t=>decide (badN1 t))=none→∀t,ts.find? (fun t=>decide (badN2 t))=some t→numY ts us=(1,t.pos):=fun x t y=>by unfold numY;rw [x,y]
 have n3:ts.find? (fun t=>decide (badN1 t))=none→ts.find? (fun t=>decide (badN2 t))=none→∀u,us.find? (fun u=>decide (badU u))=some u→numY ts us=(2,u.1.pos):=fun x y u z=>by unfold numY;rw [x,y,z]
 have n4:ts.find? (fun t=>decide (badN1 t))=none→ts.find? (fun t=>decide (badN2 t))=none→us.find? (fun u=>decide (badU u))=none→numY ts us=(0,0):=fun x y z=>by unfold numY;rw [x,y,z]
 obtain ⟨R,hR⟩:∃R,R=numY ts us:=⟨_,rfl⟩
 simp only [← hR] at n1 n2 n3 n4 ⊢
 clear hR
 refine fn0_of_codeI ok D.ref04_Numbers rfl ?_
 repeat' first|(refine codeI.stopS 1 ?_)|((first|refine oz ?_|refine cz ?_);conv=>whnf)
 refine ⟨SeqN.cut (fun ρ hx Lx=>h.le hx∧Lx=[]∧Hq (∀u∈ts,¬badN1 u)) ?_ ?_⟩
 ·conv=>whnf
  repeat ((first|refine oz ?_|refine cz ?_);conv=>whnf)
  skip
  refine LoopN.keepL (fun r ρ hx=>∃j:Nat,r=ts.length-j∧j≤ts.length∧rd ρ 6=.int .i64 j∧Hq (∀u∈ts.take j,¬badN1 u)) ts.length ⟨0,rfl,Nat.zero_le _,rfl,⟨fun u hu=>by rw [List.take_zero] at hu;cases hu⟩⟩ ?_
  conv=>whnf
  repeat intro _
  rename_i r hx hle hI
  obtain ⟨j,rfl,hj,e6,hq⟩:=hI
  conv at e6=>lhs;whnf
  subst e6
  by_cases hjl:j=ts.length
  ·subst hjl
   rw [List.take_length] at hq
   conv=>whnf
   repeat ((first|refine oz ?_|refine cz ?_);conv=>whnf)
   repeat' first|((first|((first|refine oz ?_|refine cz ?_))) <;> (conv=>whnf))|(refine cnd_lt (fun _=>?_) (fun _=>?_) <;> first|(exfalso;omega)|(conv=>whnf))
   all_goals exact ⟨rfl,hle,rfl,hq⟩
  ·obtain ⟨t,ht⟩:∃t,ts[j]?=some t:=⟨_,List.getElem?_eq_getElem (by omega)⟩
   have hm:=List.mem_of_getElem? ht
   obtain ⟨pz,tz,tl⟩:=w.ps t hm
   obtain ⟨-,k1,-,-,-⟩:=rk_iff tz
   have ht8:=w.lt t hm
   have hwx:=(w.mono hle).rw
   have c1:=fun h (x:rk t.kind=1)=>Rnought_ct h t.text ht8 tl (w.num t hm (k1.1 x))
   have dk:dec (nought t.text)=true→nought t.text:=fun x=>by unfold dec at x;exact of_decide_eq_true x
   have dk':nought t.text→dec (nought t.text)=true:=fun x=>dec_true x
   have y1:rk t.kind=1→dec (nought t.text)=true→R=(10,t.pos):=fun x y=>n1 t (find_at ht ⟨k1.1 x,dk y⟩ hq.out)
   have y2:¬(rk t.kind=1∧dec (nought t.text)=true)→∀u∈ts.take (j+1),¬badN1 u:=fun x u hu=>by
    rw [take_snoc ht] at hu
    rcases List.mem_append.1 hu with hu|hu
    ·exact hq.out u hu
    ·obtain rfl:=List.mem_singleton.1 hu
     exact fun y=>x ⟨k1.2 y.1,dk' y.2⟩
   clear dk dk'
   obtain ⟨ng,hng⟩:∃ng,ng=dec (nought t.text):=⟨_,rfl⟩
   obtain ⟨X,hX⟩:∃X,X=t.text:=⟨_,rfl⟩
   obtain ⟨P,hP⟩:∃X,X=t.pos:=⟨_,rfl⟩
   obtain ⟨K,hK⟩:∃X,X=rk t.kind:=⟨_,rfl⟩
   rw [← hK,← hng] at y1 y2
   simp only [← hK] at c1
   rw [← hP] at y1
   have hT:∀{i:Int} {k:Addr→Prop},i=j→(∀b off,(∀L,Has hx L ⟨b,off,none⟩ (.int .i64 K))→(∀L,Has hx L ⟨b,off+1,none⟩ (.int .i64 P))→(∀L,Has hx L ⟨b,off+2,none⟩ (.string (txt X)))→k ⟨b,off,none⟩)→Idx s.a i s.l 3 k:=fun {i k} a f=>Idx.rtok hwx j t a ht fun b off v0 v1 v2=>f b off (by rw [hK];exact v0) (by rw [hP];exact v1) (by rw [hX];exact v2)
   replace c1:∀h,K=1→Fn0 T F.ref04_nought [.string (txt X)] h fun v h'=>h'=h∧v=.bool ng:=fun h x=>by rw [hX,hng];exact c1 h x
   replace y2:=Hq.mk y2
   clear hng hX hP hK n1 n2 n3 n4 k1
   conv=>whnf
   repeat ((first|refine oz ?_|refine cz ?_);conv=>whnf)
   repeat' first|((first|refine hT (by omega) (fun tb to v0 v1 v2=>?_)|((first|refine oz ?_|refine cz ?_))|(show Ld _ _ _ _;first|refine Ld.of (v0 _) ?_|refine Ld.of (v1 _) ?_|refine Ld.of (v2 _) ?_)|(show CallN _ _ _ _ _ _;refine CallN.quiet rfl (c1 _ (by omega)) ?_)|refine WrapN.i64 (by omega) (by omega) ?_) <;> (conv=>whnf))|(show cnd _ _ _;first|(refine cnd_lt (fun _=>?_) (fun _=>?_) <;> first|(exfalso;omega)|(conv=>whnf))|(refine cnd_eq (fun _=>?_) (fun _=>?_) <;> first|(exfalso;omega)|(conv=>whnf))|(refine cnd_bool (fun hb=>?_) (fun hb=>?_) <;> (first|cases hb|subst hb) <;> (conv=>whnf)))
   all_goals first
    | exact ⟨rfl,ts.length-(j+1),by omega,hle,rfl,j+1,rfl,by omega,vi (by omega),⟨y2.out (fun x=>absurd x.2 (by rw [show ng=false by assumption];decide))⟩⟩
    | exact ⟨rfl,ts.length-(j+1),by omega,hle,rfl,j+1,rfl,by omega,vi (by omega),⟨y2.out (fun x=>absurd x.1 (by omega))⟩⟩
    | exact ⟨rfl,ts.length-(j+1),by omega,hle,rfl,j+1,rfl,by omega,vi (by omega),⟨y2.out (fun x=>absurd x.2 (by decide))⟩⟩
    | (rw [y1 (by omega) (by first|rfl|assumption)];exact RetN.all rfl)
 conv=>whnf
 repeat intro _
 rename_i h1 L1 hJ
 obtain ⟨hle1,rfl,hq1⟩:=hJ
 have f1:=find_no hq1.out
 replace n2:=n2 f1
 replace n3:=n3 f1
 replace n4:=n4 f1
 clear n1 f1 hq1
 repeat' first|(refine codeI.stopS 6 ?_)
 refine ⟨SeqN.cut (fun ρ hx Lx=>h1.le hx∧Hq (∀u∈ts,¬badN2 u)) ?_ ?_⟩
 ·conv=>whnf
  repeat ((first|refine oz ?_|refine cz ?_);conv=>whnf)
  skip
  refine LoopN.of (fun r ρ hx L=>∃j:Nat,r=ts.length-j∧h1.le hx∧j≤ts.length∧rd ρ 7=.int .i64 j∧Hq (∀u∈ts.take j,¬badN2 u)) ts.length ⟨0,rfl,Heap.le_refl _,Nat.zero_le _,rfl,⟨fun u hu=>by rw [List.take_zero] at hu;cases hu⟩⟩ ?_
  conv=>whnf
  repeat intro _
  rename_i r hx L2 hI
  obtain ⟨j,rfl,hle,hj,e7,hq⟩:=hI
  conv at e7=>lhs;whnf
  subst e7
  by_cases hjl:j=ts.length
  ·subst hjl
   rw [List.take_length] at hq
   conv=>whnf
   repeat ((first|refine oz ?_|refine cz ?_);conv=>whnf)
   repeat' first|((first|((first|refine oz ?_|refine cz ?_))) <;> (conv=>whnf))|(refine cnd_lt (fun _=>?_) (fun _=>?_) <;> first|(exfalso;omega)|(conv=>whnf))
   all_goals exact ⟨rfl,hle,hq⟩
  ·obtain ⟨t,ht⟩:∃t,ts[j]?=some t:=⟨_,List.getElem?_eq_getElem (by omega)⟩
   have hm:=List.mem_of_getElem? ht
   obtain ⟨pz,tz,tl⟩:=w.ps t hm
   obtain ⟨-,k1,-,-,-⟩:=rk_iff tz
   have ht8:=w.lt t hm
   have zt:=txt_size t.text
   have hwx:=(w.mono (Heap.le_trans hle1 hle)).rw
   have c1:=fun h (x:rk t.kind=1)=>RParse_ct h t.text tl (w.num t hm (k1.1 x))
   have fq:=Fok.parseL t.text
   have y0:1240<t.text.length→(parseL t.text).2≠0:=fun x=>by rw [show parseL t.text=(0,4) from if_pos x];decide
   have y1:rk t.kind=1→(parseL t.text).2≠0→R=(1,t.pos):=fun x y=>n2 t (find_at ht ⟨k1.1 x,y⟩ hq.out)
   have y2:¬(rk t.kind=1∧(parseL t.text).2≠0)→∀u∈ts.take (j+1),¬badN2 u:=fun x u hu=>by
    rw [take_snoc ht] at hu
    rcases List.mem_append.1 hu with hu|hu
    ·exact hq.out u hu
    ·obtain rfl:=List.mem_singleton.1 hu
     exact fun y=>x ⟨k1.2 y.1,y.2⟩
   obtain ⟨⟨q,er⟩,hqe⟩:∃p,p=parseL t.text:=⟨_,rfl⟩
   rw [← hqe] at y0 y1 y2 fq
   simp only [← hqe] at c1
   replace y0:1240<t.text.length→er≠0:=y0
   replace y1:rk t.kind=1→er≠0→R=(1,t.pos):=y1
   replace y2:¬(rk t.kind=1∧er≠0)→∀u∈ts.take (j+1),¬badN2 u:=y2
   replace fq:fits q:=fq.ft
   obtain ⟨S,hS⟩:∃S,S=sg q:=⟨_,rfl⟩
   have nn:∀h a b,IsRat h a b q→IsNum h S a b (some q):=fun h a b w=>hS▸w.isnum fq
   have c2:=fun h a b w=>LargeP h S a b (some q) w
   simp only [Option.isSome_some,dec_true,Bool.not_true] at c2
   obtain ⟨X,hX⟩:∃X,X=t.text:=⟨_,rfl⟩
   obtain ⟨P,hP⟩:∃X,X=t.pos:=⟨_,rfl⟩
   obtain ⟨K,hK⟩:∃X,X=rk t.kind:=⟨_,rfl⟩
   rw [← hK] at y1 y2
   simp only [← hK] at c1
   rw [← hP] at y1
   have hT:∀{i:Int} {k:Addr→Prop},i=j→(∀b off,(∀L,Has hx L ⟨b,off,none⟩ (.int .i64 K))→(∀L,Has hx L ⟨b,off+1,none⟩ (.int .i64 P))→(∀L,Has hx L ⟨b,off+2,none⟩ (.string (txt X)))→k ⟨b,off,none⟩)→Idx s.a i s.l 3 k:=fun {i k} a f=>Idx.rtok hwx j t a ht fun b off v0 v1 v2=>f b off (by rw [hK];exact v0) (by rw [hP];exact v1) (by rw [hX];exact v2)
   replace c1:∀h,K=1→Fn0 T F.ref01_Parse [.string (txt X)] h fun v h'=>∃a b:Sl,v=.tuple #[.agg #[.bool S,a.val,b.val],.int .i64 er]∧IsRat h' a b q:=fun h x=>by rw [hX,hS];exact c1 h x
   rw [← hX] at y0 zt
   replace y2:=Hq.mk y2
   clear hX hP hK hqe n2 n3 n4 k1 hS
   conv=>whnf
   repeat ((first|refine oz ?_|refine cz ?_);conv=>whnf)
   repeat' first|((first|refine hT (by omega) (fun tb to v0 v1 v2=>?_)|((first|refine oz ?_|refine cz ?_))|intro (_:Nat)|(show Ld _ _ _ _;first|(refine Ld.of (Has.up v0 (by first|assumption|exact Heap.le_refl _) _) ?_)|(refine Ld.of (Has.up v1 (by first|assumption|exact Heap.le_refl _) _) ?_)|(refine Ld.of (Has.up v2 (by first|assumption|exact Heap.le_refl _) _) ?_))|(show CallN _ _ _ _ _ _;first|(refine CallN.fn rfl (c1 _ (by omega)) (fun v h' hl2 hr=>?_);obtain ⟨a5,b5,rfl,hq5⟩:=hr;have hn5:=nn _ _ _ hq5)|(refine CallN.fn rfl (c2 _ _ _ (by assumption)) (fun v h' hl2 hr=>?_);subst hr))|refine WrapN.i64 (by omega) (by omega) ?_|refine LdN.own 0 rfl rfl ?_|refine Sto.lit 0 rfl rfl rfl ?_) <;> (conv=>whnf))|(show cnd _ _ _;first|(refine cnd_lt (fun _=>?_) (fun _=>?_) <;> first|(exfalso;omega)|(conv=>whnf))|(refine cnd_eq (fun _=>?_) (fun _=>?_) <;> first|(exfalso;omega)|(conv=>whnf))|(refine cnd_not ?_))
   all_goals first
    | exact ⟨rfl,ts.length-(j+1),by omega,j+1,rfl,(by (iterate 30 try first|assumption|refine Heap.le_trans ?_ (by assumption));first|done|assumption),by omega,vi (by omega),⟨y2.out (fun x=>absurd x.2 (by omega))⟩⟩
    | exact ⟨rfl,ts.length-(j+1),by omega,j+1,rfl,(by assumption),by omega,vi (by omega),⟨y2.out (fun x=>absurd x.1 (by omega))⟩⟩
    | (rw [y1 (by omega) (by first|omega|exact y0 (by omega))];exact RetN.all rfl)
 conv=>whnf
 repeat intro _
 rename_i h2 L2 hJ
 obtain ⟨hle2,hq2⟩:=hJ
 have f2:=find_no hq2.out
 replace n3:=n3 f2
 replace n4:=n4 f2
 clear n2 f2 hq2
 conv=>whnf
 repeat ((first|refine oz ?_|refine cz ?_);conv=>whnf)
 skip
 refine LoopN.of (fun r ρ hx L=>∃j:Nat,r=us.length-j∧h2.le hx∧j≤us.length∧rd ρ 10=.int .i64 j∧Hq (∀u∈us.take j,¬badU u)) us.length ⟨0,rfl,Heap.le_refl _,Nat.zero_le _,rfl,⟨fun u hu=>by rw [List.take_zero] at hu;cases hu⟩⟩ ?_
 conv=>whnf
 repeat intro _
 rename_i r hx L3 hI
 obtain ⟨j,rfl,hle,hj,e10,hq⟩:=hI
 conv at e10=>lhs;whnf
 subst e10
 by_cases hjl:j=us.length
 ·subst hjl
  rw [List.take_length] at hq
  rw [n4 (find_no hq.out)]
  conv=>whnf
  repeat ((first|refine oz ?_|refine cz ?_);conv=>whnf)
  repeat' first|((first|((first|refine oz ?_|refine cz ?_))) <;> (conv=>whnf))|(refine cnd_lt (fun _=>?_) (fun _=>?_) <;> first|(exfalso;omega)|(conv=>whnf))
  all_goals exact RetN.all rfl
 ·obtain ⟨u,hu⟩:∃u,us[j]?=some u:=⟨_,List.getElem?_eq_getElem (by omega)⟩
  obtain ⟨ho1,ho2⟩:=ho u (List.mem_of_getElem? hu)
  obtain ⟨-,-,tl⟩:=w.ps u.1 ho1
  have hwx:Rw hx su 4 (usc us):=wu.mono (Heap.le_trans (Heap.le_trans hle1 hle2) hle)
  have c1:=fun h=>Rwhole_ct h u.1.text (dig_of ho2) tl
  have y1:badU u→R=(2,u.1.pos):=fun x=>n3 u (find_at hu x hq.out)
  have y2:¬badU u→∀x∈us.take (j+1),¬badU x:=fun x z hz=>by
   rw [take_snoc hu] at hz
   rcases List.mem_append.1 hz with hz|hz
   ·exact hq.out z hz
   ·obtain rfl:=List.mem_singleton.1 hz
    exact x
  unfold badU at y1
  rw [show badU u=((u.2=true∧(whl u.1.text<2∨8<whl u.1.text))∨(u.2=false∧32<whl u.1.text)) from rfl] at y2
  have hT:∀{i:Int} {k:Addr→Prop},i=j→(∀b off,(∀L,Has hx L ⟨b,off+1,none⟩ (.int .i64 u.1.pos))→(∀L,Has hx L ⟨b,off+2,none⟩ (.string (txt u.1.text)))→(∀L,Has hx L ⟨b,off+3,none⟩ (.bool u.2))→k ⟨b,off,none⟩)→Idx su.a i su.l 4 k:=fun {i k} a f=>Idx.use hwx j u a hu f
  obtain ⟨Wh,hWh⟩:∃X,X=whl u.1.text:=⟨_,rfl⟩
  simp only [← hWh] at c1 y1 y2
  obtain ⟨⟨tk,rb⟩,hue⟩:∃X,X=u:=⟨_,rfl⟩
  rw [← hue] at c1 y1 y2 hT
  obtain ⟨tkk,tkx,tkp⟩:=tk
  replace hT:∀{i:Int} {k:Addr→Prop},i=j→(∀b off,(∀L,Has hx L ⟨b,off+1,none⟩ (.int .i64 tkp))→(∀L,Has hx L ⟨b,off+2,none⟩ (.string (txt tkx)))→(∀L,Has hx L ⟨b,off+3,none⟩ (.bool rb))→k ⟨b,off,none⟩)→Idx su.a i su.l 4 k:=hT
  replace c1:∀h,Fn0 T F.ref04_whole [.string (txt tkx)] h fun v h'=>h'=h∧v=.int .i64 (Wh:Nat):=c1
  replace y1:(rb=true∧(Wh<2∨8<Wh))∨(rb=false∧32<Wh)→R=(2,tkp):=y1
  replace y2:¬((rb=true∧(Wh<2∨8<Wh))∨(rb=false∧32<Wh))→∀x∈us.take (j+1),¬badU x:=y2
  clear hue hWh n3 n4
  cases rb with
  | true=>
   simp only [true_and,Bool.true_eq_false,false_and,or_false] at y1 y2
   replace y2:=Hq.mk y2
   conv=>whnf
   repeat ((first|refine oz ?_|refine cz ?_);conv=>whnf)
   repeat' first|((first|refine hT (by omega) (fun tb to v0 v1 v2=>?_)|((first|refine oz ?_|refine cz ?_))|(show Ld _ _ _ _;first|refine Ld.of (v0 _) ?_|refine Ld.of (v1 _) ?_|refine Ld.of (v2 _) ?_)|(show CallN _ _ _ _ _ _;refine CallN.quiet rfl (c1 _) ?_)|refine WrapN.i64 (by omega) (by omega) ?_) <;> (conv=>whnf))|(refine cnd_lt (fun _=>?_) (fun _=>?_) <;> first|(exfalso;omega)|(conv=>whnf))
   all_goals first
    | exact ⟨rfl,us.length-(j+1),by omega,j+1,rfl,hle,by omega,vi (by omega),⟨y2.out (by omega)⟩⟩
    | (rw [y1 (by omega)];exact RetN.all rfl)
  | false=>
   simp only [true_and,Bool.false_eq_true,false_and,false_or] at y1 y2
   replace y2:=Hq.mk y2
   conv=>whnf
   repeat ((first|refine oz ?_|refine cz ?_);conv=>whnf)
   repeat' first|((first|refine hT (by omega) (fun tb to v0 v1 v2=>?_)|((first|refine oz ?_|refine cz ?_))|(show Ld _ _ _ _;first|refine Ld.of (v0 _) ?_|refine Ld.of (v1 _) ?_|refine Ld.of (v2 _) ?_)|(show CallN _ _ _ _ _ _;refine CallN.quiet rfl (c1 _) ?_)|refine WrapN.i64 (by omega) (by omega) ?_) <;> (conv=>whnf))|(refine cnd_lt (fun _=>?_) (fun _=>?_) <;> first|(exfalso;omega)|(conv=>whnf))
   all_goals first
    | exact ⟨rfl,us.length-(j+1),by omega,j+1,rfl,hle,by omega,vi (by omega),⟨y2.out (by omega)⟩⟩
    | (rw [y1 (by omega)];exact RetN.all rfl)
/-! the parser, whole -/
theorem RBegin_ct (h:Heap) (s:Sl) (e:Nat):Vc.Fn T F.ref04_Begin [s.val,.int .i64 e] h [] fun v h' L'=>h'=h∧∃bp,v=.pointer (some ⟨bp,0,none⟩)∧L'=[Rbk bp s 0 e (-1) (.slice none 0 0)]:=by
 refine fn_of_codeI ok D.ref04_Begin rfl ?_
 conv=>whnf
 repeat ((first|refine oz ?_|refine cz ?_);conv=>whnf)
 repeat' first|((first|((first|refine oz ?_|refine cz ?_))|intro (_:Nat)) <;> (conv=>whnf))
 exact RetN.done ⟨rfl,_,rfl,rfl⟩
attribute [local irreducible] Vc.Fn
theorem RParseT_ct (h:Heap) (l:List Nat) (hb:∀y∈l,y<256):Fn0 T F.ref04_Parse [.string (txt l)] h fun v h'=>ResP h' v (parseY l):=by
 have hz:=txt_size l
 have r1:4000<l.length→parseY l=(zeroT,0,4):=fun x=>if_pos x
 by_cases hl4:4000<l.length
 ·rw [r1 hl4]
  refine fn0_of_codeI ok D.ref04_Parse rfl ?_
  conv=>whnf
  repeat ((first|refine oz ?_|refine cz ?_);conv=>whnf)
  repeat' first|((first|((first|refine oz ?_|refine cz ?_))|intro (_:Nat)|refine LdN.own 0 rfl rfl ?_|refine Sto.lit 0 rfl rfl rfl ?_) <;> (conv=>whnf))|(refine cnd_lt (fun _=>?_) (fun _=>?_) <;> first|(exfalso;omega)|(conv=>whnf))
  all_goals exact RetN.all ⟨_,rfl,VE.zero _⟩
 have c1:=fun h=>RScan_ct h l hb (by omega)
 obtain ⟨k1,k2,k3⟩:=scanX_ok (N:=l.length) l.length l 0 [] hb (by omega) (Nat.zero_le _) (by simp)
 have k4:=scanX_tx l.length l 0 [] (fun t ht=>by cases ht)
 obtain ⟨x,⟨i1,bad1,us1⟩,hqp⟩:=qp_top (scanX l.length l 0 []).1 l.length
 have hus:=qp_us prs _ _ _ (fun u hu=>by cases hu) _ _ hqp
 have r2:0≤(scanX l.length l 0 []).2→parseY l=(zeroT,(scanX l.length l 0 []).2.toNat,3):=fun y=>by unfold parseY;rw [if_neg hl4,if_pos y]
 have r3:¬0≤(scanX l.length l 0 []).2→0≤(endS (scanX l.length l 0 []).1 l.length ⟨i1,bad1,us1⟩).bad→parseY l=(zeroT,(endS (scanX l.length l 0 []).1 l.length ⟨i1,bad1,us1⟩).bad.toNat,3):=fun y z=>by unfold parseY;rw [if_neg hl4,if_neg y,hqp];exact if_pos z
 have r4:¬0≤(scanX l.length l 0 []).2→¬0≤(endS (scanX l.length l 0 []).1 l.length ⟨i1,bad1,us1⟩).bad→(numY (scanX l.length l 0 []).1 us1).1≠0→parseY l=(zeroT,(numY (scanX l.length l 0 []).1 us1).2,(numY (scanX l.length l 0 []).1 us1).1):=fun y z u=>by unfold parseY;rw [if_neg hl4,if_neg y,hqp];exact (if_neg z).trans (if_pos u)
 have r5:¬0≤(scanX l.length l 0 []).2→¬0≤(endS (scanX l.length l 0 []).1 l.length ⟨i1,bad1,us1⟩).bad→¬(numY (scanX l.length l 0 []).1 us1).1≠0→ValT x→parseY l=(x,0,0):=fun y z u v=>by unfold parseY;rw [if_neg hl4,if_neg y,hqp];exact (if_neg z).trans ((if_neg u).trans (if_pos v))
 have r6:¬0≤(scanX l.length l 0 []).2→¬0≤(endS (scanX l.length l 0 []).1 l.length ⟨i1,bad1,us1⟩).bad→¬(numY (scanX l.length l 0 []).1 us1).1≠0→¬ValT x→parseY l=(zeroT,0,4):=fun y z u v=>by unfold parseY;rw [if_neg hl4,if_neg y,hqp];exact (if_neg z).trans ((if_neg u).trans (if_neg v))
 obtain ⟨P,hP⟩:∃P,P=parseY l:=⟨_,rfl⟩
 rw [← hP] at r2 r3 r4 r5 r6 ⊢
 obtain ⟨⟨ts,at_⟩,hR⟩:∃R,R=scanX l.length l 0 []:=⟨_,rfl⟩
 rw [← hR] at k1 k2 k3 k4 hqp hus r2 r3 r4 r5 r6
 simp only [← hR] at c1
 clear r1 hP hR
 obtain ⟨E,hE⟩:∃E,E=l.length:=⟨_,rfl⟩
 rw [← hE] at hqp r3 r4 r5 r6
 simp only at k1 k2 k3 k4 hqp hus r2 r3 r4 r5 r6
 have c3:=fun h s (w:RTk h s ts) bp=>(Qall _).1 ts bp s E h 0 0 (-1) [] (.slice none 0 0) [] x ⟨i1,bad1,us1⟩ w rfl (Nat.zero_le _) (Nat.le_refl _) (GrowS.nil _ _ _) hqp
 replace c3:∀h s (w:RTk h s ts) bp,Vc.Fn T F.pref04_Reader_Sum [.pointer (some ⟨bp,0,none⟩)] h [Rbk bp s 0 E (-1) (.slice none 0 0)] fun a h' L'=>∃v' G',i1≤ts.length∧us1.length≤i1∧L'=Rbk bp s i1 E bad1 v'::G'∧GrowS Ty.ref04_Use 4 v' us1.length (usc us1) G'∧VE h' a x:=c3
 have hts:∀{hh:Heap} {s:Sl},Rw hh s 3 (rtc ts)→RTk hh s ts:=fun {hh s} w=>by
  have hlen:=w.len
  rw [rtc_len] at hlen
  exact ⟨w,by omega,fun t ht=>(k1 t ht).1,by omega,fun t ht=>by have:=k1 t ht;exact ⟨by have:=this.2.1;omega,this.2.2.1,by have:=this.2.2.2;omega⟩,k4⟩
 have c4:=fun h (s su:Sl) w wu h9=>RNumbers_ct h s su ts us1 w wu hus h9
 obtain ⟨⟨N1,N2⟩,hN⟩:∃R,R=numY ts us1:=⟨_,rfl⟩
 rw [← hN] at r4 r5 r6
 simp only [← hN] at c4
 have c5:=fun h vs w=>Rfits_ct x h vs w
 have c6:=fun h bp s (v:Value) w=>RFail_ct h bp s ts i1 E i1 bad1 us1 v w rfl
 clear hqp hN hus k1 k4
 rw [← hE] at hz
 by_cases hat:0≤at_
 ·have r2:=r2 hat
  clear r3 r4 r5 r6
  refine fn0_of_codeI ok D.ref04_Parse rfl ?_
  conv=>whnf
  repeat ((first|refine oz ?_|refine cz ?_);conv=>whnf)
  repeat' first|((first|((first|refine oz ?_|refine cz ?_))|intro (_:Nat)|refine LdN.own 0 rfl rfl ?_|refine Sto.lit 0 rfl rfl rfl ?_) <;> (conv=>whnf))|(show CallN _ _ _ _ _ _;first|(refine CallN.fn rfl (c1 _) (fun v h' hl2 hr=>?_);obtain ⟨hr1,s,rfl,hrw⟩|⟨k,hr1,rfl⟩:=hr <;> (first|(exfalso;simp only at hr1;omega)|(conv=>whnf))))|(refine cnd_lt (fun _=>?_) (fun _=>?_) <;> first|(exfalso;omega)|(conv=>whnf))
  all_goals (rw [r2];exact RetN.all ⟨_,by simp only at hr1;rw [hr1];rfl,VE.zero _⟩)
 have r3:=r3 hat
 have r4:=r4 hat
 have r5:=r5 hat
 have r6:=r6 hat
 clear r2
 refine fn0_of_codeI ok D.ref04_Parse rfl ?_
 conv=>whnf
 repeat ((first|refine oz ?_|refine cz ?_);conv=>whnf)
 repeat' first|((first|refine Sto.lit 0 rfl rfl rfl ?_) <;> (conv=>whnf))|(refine codeI.stopS 8 ?_)|((first|refine oz ?_|refine cz ?_);conv=>whnf)|(intro (_:Nat);conv=>whnf)|(show CallN _ _ _ _ _ _;first|(refine CallN.fn rfl (c1 _) (fun v h' hl2 hr=>?_);obtain ⟨hr1,s,rfl,hrw⟩|⟨k,hr1,rfl⟩:=hr <;> (first|(exfalso;simp only at hr1;omega)|(have wt:=hts hrw;conv=>whnf)))|(refine CallN.new rfl (RBegin_ct _ s (txt l).size) (fun v h' La hl hr=>?_);obtain ⟨rfl,bp,rfl,rfl⟩:=hr;clear hl;rw [hz];conv=>whnf)|(refine CallN.par2 (A:=[]) (Lp:=[_]) (B:=[_]) rfl (Fn.pan (c3 _ _ (wt.mono (by first|assumption|exact Heap.le_refl _)) bp)) (fun v h' Lp hl hr=>?_) (fun _ _ _ _ x=>x.elim);obtain ⟨v1,G1,hi1,hu1,rfl,g1,op,ar,ng,nn,dd,nm,ss,rfl,hE1⟩:=hr;simp only [List.nil_append,List.cons_append];conv=>whnf))|(refine cnd_lt (fun _=>?_) (fun _=>?_) <;> first|(exfalso;omega)|(conv=>whnf))
 refine ⟨SeqN.go ?_⟩
 have w1:=wt.mono hl
 clear c1 c3
 cases ht:ts[i1]? with
 | none=>
  have hi2:ts.length≤i1:=by simpa using ht
  have eE:endS ts E ⟨i1,bad1,us1⟩=⟨i1,bad1,us1⟩:=if_neg (by show ¬i1<ts.length;omega)
  rw [eE] at r3 r4 r5 r6
  have c7:=fun h w=>RNext_n h bp s ts i1 E i1 bad1 v1 w rfl ht
  clear c6 eE
  replace r3:0≤bad1→P=(zeroT,bad1.toNat,3):=r3
  replace r4:¬0≤bad1→N1≠0→P=(zeroT,N2,N1):=r4
  replace r5:¬0≤bad1→¬N1≠0→ValT x→P=(x,0,0):=r5
  replace r6:¬0≤bad1→¬N1≠0→¬ValT x→P=(zeroT,0,4):=r6
  repeat' first|((first|(show CallN _ _ _ _ _ _;first|(refine CallN.own 1 rfl rfl (c7 _ (w1.mono (by first|assumption|exact Heap.le_refl _))) (fun v h' La hl hr=>?_);obtain ⟨rfl,rfl,rfl⟩:=hr;clear hl;refine ⟨_,rfl,?_⟩)|(refine CallN.grown (A:=[_,_]) (F:=G1) (tl:=[_]) (args:=fun z=>[s.val,z]) g1 (by decide) rfl (fun h' su F' hl5 hru=>?_);refine CallN.fn rfl (c4 _ _ su (w1.mono (by assumption)) hru (by omega)) (fun v h' hl6 hr=>?_);subst hr)|(refine CallN.fn rfl (c5 _ _ (hE1.mono (by (iterate 30 try first|assumption|refine Heap.le_trans ?_ (by assumption));first|done|assumption))) (fun v h' hl6 hr=>?_);subst hr))|(show DrawN _ _ _ _ _ _;refine DrawN.each (by decide +kernel) ?_)|(show Sto _ _ _ _;first|refine Sto.tl (A:=[_,_]) (X:=F') rfl rfl ?_|refine Sto.tl (A:=[_,_]) (X:=G1) rfl rfl ?_)|(show LdN _ _ _ _ _;first|refine LdN.tl (A:=[_,_]) (F:=F') rfl ?_|refine LdN.tl (A:=[_,_]) (F:=G1) rfl ?_|refine LdN.own 0 rfl rfl ?_)|((first|refine oz ?_|refine cz ?_))|refine ⟨fun _=>HasLe.of_le (Heap.le_refl _),?_⟩|refine Ld.own 1 rfl rfl ?_) <;> (conv=>whnf))|(show cnd _ _ _;first|(refine cnd_le (fun _=>?_) (fun _=>?_) <;> first|(exfalso;omega)|(conv=>whnf))|(refine cnd_eq (fun _=>?_) (fun _=>?_) <;> first|(exfalso;omega)|(conv=>whnf))|(refine cnd_not ?_)|(refine cnd_dec (fun _=>?_) (fun _=>?_) <;> first|(exfalso;omega)|(conv=>whnf)))|(refine Both.mk ?_ ?_ <;> (conv=>whnf))
  all_goals first
   | (rw [r3 (by omega)];exact RetN.all ⟨_,by rw [show ((bad1.toNat:Nat):Int)=bad1 from Int.toNat_of_nonneg (by omega)];rfl,VE.zero _⟩)
   | (rw [r4 (by omega) (by omega)];exact RetN.all ⟨_,rfl,VE.zero _⟩)
   | (rw [r5 (by omega) (by omega) (by assumption)];exact RetN.all ⟨_,rfl,op,ar,ng,nn,dd,nm,ss,rfl,hE1.mono (by (iterate 30 try first|assumption|refine Heap.le_trans ?_ (by assumption));first|done|assumption)⟩)
   | (rw [r6 (by omega) (by omega) (by assumption)];exact RetN.all ⟨_,rfl,VE.zero _⟩)
 | some t=>
  have hi2:=(List.getElem?_eq_some_iff.1 ht).1
  have hk5:=(rk_iff (w1.ps t (List.mem_of_getElem? ht)).2.1).2.2.2.2
  have eE:endS ts E ⟨i1,bad1,us1⟩=failS ts E ⟨i1,bad1,us1⟩:=if_pos (show i1<ts.length from hi2)
  rw [eE] at r3 r4 r5 r6
  have c7:=fun h w=>RNext_s h bp s ts i1 E i1 bad1 v1 t w rfl ht
  have c6:=fun h w=>c6 h bp s v1 w
  obtain ⟨K,hK⟩:∃K,K=rk t.kind:=⟨_,rfl⟩
  obtain ⟨X,hX⟩:∃K,K=t.text:=⟨_,rfl⟩
  obtain ⟨Q,hQ⟩:∃K,K=t.pos:=⟨_,rfl⟩
  rw [← hK] at hk5
  simp only [← hK,← hX,← hQ] at c7
  obtain ⟨B,hB⟩:∃B,B=(failS ts E ⟨i1,bad1,us1⟩).bad:=⟨_,rfl⟩
  simp only [← hB] at c6 r3 r4 r5 r6
  clear hB hK hX hQ eE
  replace r3:0≤B→P=(zeroT,B.toNat,3):=r3
  replace r4:¬0≤B→N1≠0→P=(zeroT,N2,N1):=r4
  replace r5:¬0≤B→¬N1≠0→ValT x→P=(x,0,0):=r5
  replace r6:¬0≤B→¬N1≠0→¬ValT x→P=(zeroT,0,4):=r6
  repeat' first|((first|(show CallN _ _ _ _ _ _;first|(refine CallN.own 1 rfl rfl (c7 _ (w1.mono (by first|assumption|exact Heap.le_refl _))) (fun v h' La hl hr=>?_);obtain ⟨rfl,rfl,rfl⟩:=hr;clear hl;refine ⟨_,rfl,?_⟩)|(refine CallN.own 1 rfl rfl (c6 _ (w1.mono (by first|assumption|exact Heap.le_refl _))) (fun v h' La hl hr=>?_);obtain ⟨rfl,rfl,rfl⟩:=hr;clear hl;refine ⟨_,rfl,?_⟩)|(refine CallN.grown (A:=[_,_]) (F:=G1) (tl:=[_]) (args:=fun z=>[s.val,z]) g1 (by decide) rfl (fun h' su F' hl5 hru=>?_);refine CallN.fn rfl (c4 _ _ su (w1.mono (by assumption)) hru (by omega)) (fun v h' hl6 hr=>?_);subst hr)|(refine CallN.fn rfl (c5 _ _ (hE1.mono (by (iterate 30 try first|assumption|refine Heap.le_trans ?_ (by assumption));first|done|assumption))) (fun v h' hl6 hr=>?_);subst hr))|(show DrawN _ _ _ _ _ _;refine DrawN.each (by decide +kernel) ?_)|(show Sto _ _ _ _;first|refine Sto.tl (A:=[_,_]) (X:=F') rfl rfl ?_|refine Sto.tl (A:=[_,_]) (X:=G1) rfl rfl ?_)|(show LdN _ _ _ _ _;first|refine LdN.tl (A:=[_,_]) (F:=F') rfl ?_|refine LdN.tl (A:=[_,_]) (F:=G1) rfl ?_|refine LdN.own 0 rfl rfl ?_)|((first|refine oz ?_|refine cz ?_))|refine ⟨fun _=>HasLe.of_le (Heap.le_refl _),?_⟩|refine Ld.own 1 rfl rfl ?_) <;> (conv=>whnf))|(show cnd _ _ _;first|(refine cnd_le (fun _=>?_) (fun _=>?_) <;> first|(exfalso;omega)|(conv=>whnf))|(refine cnd_eq (fun _=>?_) (fun _=>?_) <;> first|(exfalso;omega)|(conv=>whnf))|(refine cnd_not ?_)|(refine cnd_dec (fun _=>?_) (fun _=>?_) <;> first|(exfalso;omega)|(conv=>whnf)))|(refine Both.mk ?_ ?_ <;> (conv=>whnf))
  all_goals first
   | (rw [r3 (by omega)];exact RetN.all ⟨_,by rw [show ((B.toNat:Nat):Int)=B from Int.toNat_of_nonneg (by omega)];rfl,VE.zero _⟩)
   | (rw [r4 (by omega) (by omega)];exact RetN.all ⟨_,rfl,VE.zero _⟩)
   | (rw [r5 (by omega) (by omega) (by assumption)];exact RetN.all ⟨_,rfl,op,ar,ng,nn,dd,nm,ss,rfl,hE1.mono (by (iterate 30 try first|assumption|refine Heap.le_trans ?_ (by assumption));first|done|assumption)⟩)
   | (rw [r6 (by omega) (by omega) (by assumption)];exact RetN.all ⟨_,rfl,VE.zero _⟩)
theorem parseX_can {l:List Nat} (h:(parseX l).2.2=0):okT 1 (parseX l).1∧CanT (parseX l).1:=by
 refine ⟨(parseX_val h).1.1,?_⟩
 unfold parseX at h ⊢
 split at h
 ·cases h
 rename_i h1
 rw [if_neg h1]
 split at h
 ·cases h
 rename_i h2
 rw [if_neg h2]
 split at h
 ·cases h
 rename_i tr i cs h3
 try rw [h3]
 show CanT (if _ then _ else _:Tr × Nat × Nat).1
 split at h
 ·rename_i h4
  exact absurd h h4
 ·rename_i h4
  rw [if_neg h4]
  unfold chkdT at h ⊢
  split at h
  ·rename_i h5
   rw [if_pos h5]
   exact CanT.clone _
  ·cases h
theorem Parses_law (h:Heap) (tb:Tb h) (pw:Pw h) (sa:ByteArray) (hsa:sa.size≤maxLen):Fn0 T F.law04_ExprParses [.string sa] h fun v h'=>v=.bool true:=by
 obtain ⟨na,hla⟩:∃l,l=rl sa:=⟨_,rfl⟩
 have hna:∀y∈na,y<256:=by rw [hla];exact rl_lt sa
 obtain rfl:sa=txt na:=by rw [hla,txt_rl]
 clear hla hsa
 have c1:=fun h tb=>Parse_c h tb na hna
 have c2:=fun h=>RParseT_ct h na hna
 obtain ⟨e1,ag⟩:=parse_agree na
 have cn:=fun x=>parseX_can (l:=na) x
 obtain ⟨⟨X,p,er⟩,hX⟩:∃X,X=parseX na:=⟨_,rfl⟩
 obtain ⟨⟨Y,p',er'⟩,hY⟩:∃X,X=parseY na:=⟨_,rfl⟩
 rw [← hX,← hY] at e1 ag
 simp only [← hX] at c1 cn
 simp only [← hY] at c2
 obtain rfl:p=p':=e1
 replace ag:Agree (X,er) (Y,er'):=ag
 replace c1:∀h,Tb h→Fn0 T F.expr_Parse [.string (txt na)] h fun v h'=>∃a,v=.tuple #[a,.int .i64 p,.int .i64 er]∧VE h' a X:=c1
 replace c2:∀h,Fn0 T F.ref04_Parse [.string (txt na)] h fun v h'=>∃a,v=.tuple #[a,.int .i64 p,.int .i64 er']∧VE h' a Y:=c2
 replace cn:er=0→okT 1 X∧CanT X:=cn
 have c3:=fun h vs us w w'=>agrees_ct X Y er er' ag h vs us w w'
 have c4:=fun h vs w (z:er=0)=>canonical_ct X 1 (cn z).1 (cn z).2 h vs w
 have c9:=fun h tb pw=>sane_ct h tb pw
 clear hX hY ag cn
 refine fn0_of_codeI ok D.law04_ExprParses rfl ?_
 conv=>whnf
 repeat ((first|refine oz ?_|refine cz ?_);conv=>whnf)
 repeat' first|((first|(show LdN _ _ _ _ _;first|refine LdN.ownAt 0 rfl rfl ?_|refine LdN.ownAt 1 rfl rfl ?_)|(show CallN _ _ _ _ _ _;first|(refine CallN.fn rfl (c1 _ (by assumption)) (fun v h' hl2 hr=>?_);obtain ⟨_,rfl,op6,ar6,ng6,nn6,dd6,nm6,ss6,rfl,hE6⟩:=hr)|(refine CallN.fn rfl (c2 _) (fun v h' hl2 hr=>?_);obtain ⟨_,rfl,op7,ar7,ng7,nn7,dd7,nm7,ss7,rfl,hE7⟩:=hr)|(refine CallN.fn rfl (c3 _ _ _ (hE6.mono (by assumption)) (hE7.mono (by first|assumption|exact Heap.le_refl _))) (fun v h' hl2 hr=>?_);subst hr)|(refine CallN.fn rfl (c4 _ _ (hE6.mono (by (iterate 30 try first|assumption|refine Heap.le_trans ?_ (by assumption));first|done|assumption)) (by omega)) (fun v h' hl2 hr=>?_);subst hr)|(refine CallN.fn rfl (c9 _ (by (iterate 30 try first|assumption|refine Tb.mono ?_ (by assumption));first|done|assumption) (by iterate 12 (try first|assumption|refine Pw.mono ?_ (by assumption)))) (fun v h' hl2 hr=>?_);subst hr))|((first|refine oz ?_|refine cz ?_))|intro (_:Nat)|refine Sto.lit 0 rfl rfl rfl ?_) <;> (conv=>whnf))|(show cnd _ _ _;first|(refine cnd_eq (fun _=>?_) (fun _=>?_) <;> first|(exfalso;omega)|(conv=>whnf))|(refine cnd_not ?_))
 all_goals first
  | exact RetN.all rfl
  | exact RetN.all (congrArg Value.bool (by unfold Vc.eq;simp))
end Go.Proofs.YtmblpmegfmgjgaaGreatDoor