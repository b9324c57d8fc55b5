/- Rows of kids copied, cut and turned; with, replaced (one kid). -/
import Derived.Test.YtbgicephinomlaaGreatDoorE37
import Derived.Test.YtbgicephinomlaaGreatDoorE42
set_option linter.unusedVariables false
set_option linter.unusedSimpArgs false
set_option maxHeartbeats 2000000
set_option maxRecDepth 20000
namespace Go.Vc
open Go Go.Dig
end Go.Vc
namespace Go.Proofs.YtbgicephinomlaaGreatDoor
open Go Go.Vc Go.Dig
end Go.Proofs.YtbgicephinomlaaGreatDoor
/- One kid turned, on both sides; nodes made. -/
namespace Go.Vc
open Go Go.Dig
end Go.Vc
namespace Go.Proofs.YtbgicephinomlaaGreatDoor
open Go Go.Vc Go.Dig
theorem enode_ct (op arg:Int) (ho:-9223372036854775808≤op∧op≤9223372036854775807) (ha:-9223372036854775808≤arg∧arg≤9223372036854775807) (ks:List Tr) (s:Sl) (h:Heap) (hk:IsK h s ks):Fn0 T F.expr_node [.int .i64 op,.int .i64 arg,s.val] h fun v h'=>VE h' v (nodeT op arg ks):=by
 refine f0C ok D.expr_node rfl ?_
 conv=>whnf
 repeat ((first|refine oI.z ?_|refine cI.z ?_);conv=>whnf)
 repeat' first|((first|((first|refine oI.z ?_|refine cI.z ?_))|intro (_:Nat)|refine LdN.o 0 rfl rfl ?_|refine Sto.l 0 rfl rfl rfl ?_) <;> (conv=>whnf))
 exact RN.a (VE.node ho ha hk)
theorem rone_ct (op arg:Int) (ho:-9223372036854775808≤op∧op≤9223372036854775807) (ha:-9223372036854775808≤arg∧arg≤9223372036854775807) (t:Tr) (h:Heap) (vs:List Value) (w:IsE h vs t):Fn0 T F.ref04_one [.int .i64 op,.int .i64 arg,.agg vs.toArray] h fun v h'=>VE h' v (nodeT op arg [t]):=by
 obtain ⟨⟨op0,arg0,neg,l,m,name,ks⟩,ht⟩:∃x,x=t:=⟨_,rfl⟩
 obtain ⟨a,b,s,hvs,-⟩:=(ht.symm▸w:IsE h vs (.mk op0 arg0 neg l m name ks)).isK
 subst hvs
 refine f0C ok D.ref04_one rfl ?_
 conv=>whnf
 repeat ((first|refine oI.z ?_|refine cI.z ?_);conv=>whnf)
 repeat' first|((first|((first|refine oI.z ?_|refine cI.z ?_))|intro (_:Nat)|refine LdN.o 1 rfl rfl ?_|refine Sto.l 1 rfl rfl rfl ?_) <;> (conv=>whnf))
 exact RN.keep 0 rfl fun hle=>RN.a (VE.node ho ha (IsK.one w rfl hle))
theorem rtwo_ct (op:Int) (ho:-9223372036854775808≤op∧op≤9223372036854775807) (t u:Tr) (h:Heap) (vs us:List Value) (w:IsE h vs t) (w':IsE h us u):Fn0 T F.ref04_two [.int .i64 op,.agg vs.toArray,.agg us.toArray] h fun v h'=>VE h' v (nodeT op 0 [t,u]):=by
 obtain ⟨⟨op0,arg,neg,l,m,name,ks⟩,ht⟩:∃x,x=t:=⟨_,rfl⟩
 obtain ⟨a,b,s,hvs,-⟩:=(ht.symm▸w:IsE h vs (.mk op0 arg neg l m name ks)).isK
 obtain ⟨⟨op1,arg1,neg1,l1,m1,name1,ks1⟩,hu⟩:∃x,x=u:=⟨_,rfl⟩
 obtain ⟨a1,b1,s1,hus,-⟩:=(hu.symm▸w':IsE h us (.mk op1 arg1 neg1 l1 m1 name1 ks1)).isK
 subst hvs hus
 refine f0C ok D.ref04_two rfl ?_
 conv=>whnf
 repeat ((first|refine oI.z ?_|refine cI.z ?_);conv=>whnf)
 repeat' first|((first|((first|refine oI.z ?_|refine cI.z ?_))|intro (_:Nat)|(show LdN _ _ _ _ _;first|refine LdN.o 1 rfl rfl ?_|refine LdN.o 2 rfl rfl ?_)|refine Sto.l 1 rfl rfl rfl ?_) <;> (conv=>whnf))
 exact RN.keep 0 rfl fun hle=>RN.a (VE.node ho (by decide) (IsK.two w w' rfl rfl hle))
theorem res_top {op arg:Int} {neg:Bool} {l m name:List Nat} {ks:List Tr} (h:roughB op):resT (.mk op arg neg l m name ks)≠none:=fun e=>by
 have:=resT_none.1 e (op,name) (by rw [tagsT];exact List.mem_cons_self ..)
 exact this h
theorem tagsTs_mem {x:Int × List Nat}:∀{ks:List Tr},x∈tagsTs ks↔∃t∈ks,x∈tagsT t
 | []=>by rw [tagsTs];simp
 | t::ts=>by
  rw [tagsTs,List.mem_append,tagsTs_mem]
  simp
theorem res_kid {op arg:Int} {neg:Bool} {l m name:List Nat} {ks:List Tr} {i:Nat} {t:Tr} (h:ks[i]?=some t) (hn:resT t≠none):resT (.mk op arg neg l m name ks)≠none:=fun e=>hn (resT_none.2 fun x hx=>resT_none.1 e x (by
  rw [tagsT]
  exact List.mem_cons_of_mem _ (tagsTs_mem.2 ⟨t,List.mem_of_getElem? h,hx⟩)))
theorem res_all {op arg:Int} {neg:Bool} {l m name:List Nat} {ks:List Tr} (h:¬roughB op) (hn:∀(i:Nat) t,ks[i]?=some t→resT t=none):resT (.mk op arg neg l m name ks)=none:=resT_none.2 fun x hx=>by
 rw [tagsT] at hx
 rcases List.mem_cons.1 hx with rfl|hx
 ·exact h
 ·obtain ⟨t,ht,hx⟩:=tagsTs_mem.1 hx
  obtain ⟨i,hi,rfl⟩:=List.mem_iff_getElem.1 ht
  exact resT_none.1 (hn i _ (List.getElem?_eq_getElem hi)) x hx
theorem rrough_ct:∀(t:Tr) (d:Nat),okT d t→True→∀(h:Heap) (vs:List Value),IsE h vs t→Fn0 T F.ref04_rough [.agg vs.toArray] h fun v h'=>v=.bool (!dec (resT t=none)):=by
 refine tree_ind fun t ih=>?_
 intro d hok hc h vs w
 obtain ⟨op,arg,neg,l,m,name,ks⟩:=t
 obtain ⟨a,b,s,rfl,ho,ha,hv,hb,hk⟩:=w.isK
 rw [okT] at hok
 obtain ⟨hd,hnb,hoks⟩:=hok
 have hkl:=hk.len
 have hkc:=hk.cap
 have hn1:=hnb.1
 have hks:ks.length≤3:=by
  have h2:=kidsN_le op
  omega
 have f1:12≤op→op≤15→resT (.mk op arg neg l m name ks)≠none:=fun x y=>res_top ⟨x,y⟩
 have f2:∀i t,ks[i]?=some t→resT t≠none→resT (.mk op arg neg l m name ks)≠none:=fun i t h hn=>res_kid h hn
 have f3:¬(12≤op∧op≤15)→(∀(i:Nat) t,ks[i]?=some t→resT t=none)→resT (.mk op arg neg l m name ks)=none:=fun x y=>res_all x y
 obtain ⟨R,hR⟩:∃R,R=resT (.mk op arg neg l m name ks):=⟨_,rfl⟩
 rw [← hR] at f1 f2 f3 ⊢
 clear hR
 have t1:R≠none→true=!dec (R=none):=fun x=>by rw [dec_false x];rfl
 have t2:R=none→false=!dec (R=none):=fun x=>by rw [dec_true x];rfl
 refine f0C ok D.ref04_rough rfl ?_
 conv=>whnf
 repeat ((first|refine oI.z ?_|refine cI.z ?_);conv=>whnf)
 repeat' first|((first|(show SeqN _ _ _ _ _ _ _;refine SeqN.go ?_)|((first|refine oI.z ?_|refine cI.z ?_))|refine ⟨fun _=>HasLe.o (Heap.lr _),?_⟩|refine ⟨fun _=>HasLe.o (by assumption),?_⟩|refine ⟨fun _=>HasLe.cons _,?_⟩|refine ⟨fun hst=>(by cases (show true=false from hst)),?_⟩|intro (_:Nat)|(show WN _ _ _;first|refine WN.i64 (by omega) (by omega) ?_|refine WN.u64 (by omega) (by omega) ?_|refine WN.u32 (by omega) (by omega) ?_|refine WN.u8 (by omega) (by omega) ?_)|(show LdN _ _ _ _ _;first|refine LdN.o 0 rfl rfl ?_|refine LdN.o 1 rfl rfl ?_|refine LdN.o 2 rfl rfl ?_|refine LdN.o 3 rfl rfl ?_|refine LdN.o 4 rfl rfl ?_|refine LdN.o 5 rfl rfl ?_|refine LdN.o 6 rfl rfl ?_|refine LdN.o 7 rfl rfl ?_|refine LdN.o 8 rfl rfl ?_|refine LdN.o 9 rfl rfl ?_|refine LdN.o 10 rfl rfl ?_|refine LdN.o 11 rfl rfl ?_|refine LdN.o 12 rfl rfl ?_|refine LdN.o 13 rfl rfl ?_|refine LdN.o 14 rfl rfl ?_|refine LdN.o 15 rfl rfl ?_|refine LdN.o 16 rfl rfl ?_|refine LdN.o 17 rfl rfl ?_|refine LdN.o 18 rfl rfl ?_|refine LdN.o 19 rfl rfl ?_|refine LdN.o 20 rfl rfl ?_|refine LdN.o 21 rfl rfl ?_|refine LdN.o 22 rfl rfl ?_|refine LdN.o 23 rfl rfl ?_|refine LdN.o 24 rfl rfl ?_|refine LdN.o 25 rfl rfl ?_|refine LdN.o 26 rfl rfl ?_|refine LdN.o 27 rfl rfl ?_)|(show Ld _ _ _ _;first|refine Ld.o 0 rfl rfl ?_|refine Ld.o 1 rfl rfl ?_|refine Ld.o 2 rfl rfl ?_|refine Ld.o 3 rfl rfl ?_|refine Ld.o 4 rfl rfl ?_|refine Ld.o 5 rfl rfl ?_|refine Ld.o 6 rfl rfl ?_|refine Ld.o 7 rfl rfl ?_|refine Ld.o 8 rfl rfl ?_|refine Ld.o 9 rfl rfl ?_)|(show Sto _ _ _ _;first|refine Sto.l 0 rfl rfl rfl ?_|refine Sto.l 1 rfl rfl rfl ?_|refine Sto.l 2 rfl rfl rfl ?_|refine Sto.l 3 rfl rfl rfl ?_|refine Sto.l 4 rfl rfl rfl ?_|refine Sto.l 5 rfl rfl rfl ?_|refine Sto.l 6 rfl rfl rfl ?_|refine Sto.l 7 rfl rfl rfl ?_|refine Sto.l 8 rfl rfl rfl ?_|refine Sto.l 9 rfl rfl rfl ?_|refine Sto.l 10 rfl rfl rfl ?_)|refine DrN.run (by decide +kernel) ?_) <;> (conv=>whnf))|(show cnd _ _ _;first|(refine cnd_lt (fun _=>?_) (fun _=>?_) <;> first|(exfalso;omega)|(conv=>whnf))|(refine cnd_le (fun _=>?_) (fun _=>?_) <;> first|(exfalso;omega)|(conv=>whnf))|(refine cnd_eq (fun _=>?_) (fun _=>?_) <;> first|(exfalso;omega)|(conv=>whnf))|(refine cnd_not ?_)|(refine cnd_beq (fun _=>?_) (fun hne=>?_) <;> first|exact absurd rfl hne|(conv=>whnf))|(refine cnd_dec (fun _=>?_) (fun _=>?_) <;> first|(exfalso;omega)|(conv=>whnf))|(refine cnd_bool (fun hb=>?_) (fun hb=>?_) <;> (first|cases hb|subst hb) <;> (conv=>whnf))|(refine cnd_bool (fun _=>?_) (fun _=>?_) <;> (conv=>whnf)))|(refine Both.mk ?_ ?_ <;> (conv=>whnf))
 all_goals try exact RN.a (congrArg Value.bool (t1 (f1 (by omega) (by omega))))
 refine LpN.keepL (fun r ρ hx=>∃j:Nat,r=ks.length-j∧j≤ks.length∧rd ρ 3=.int .i64 j∧Hq (∀(i:Nat) t,i<j→ks[i]?=some t→resT t=none)) ks.length ⟨0,rfl,Nat.zero_le _,rfl,⟨fun i t x=>absurd x (Nat.not_lt_zero _)⟩⟩ ?_
 conv=>whnf
 repeat intro _
 rename_i r hx hle hI
 obtain ⟨j,rfl,hj,e3,hq⟩:=hI
 conv at e3=>lhs;whnf
 subst e3
 have hkx:=hk.mono hle
 by_cases hjl:j=ks.length
 ·conv=>whnf
  repeat ((first|refine oI.z ?_|refine cI.z ?_);conv=>whnf)
  repeat' first|((first|(show SeqN _ _ _ _ _ _ _;refine SeqN.go ?_)|((first|refine oI.z ?_|refine cI.z ?_))|refine ⟨fun _=>HasLe.o (Heap.lr _),?_⟩|refine ⟨fun _=>HasLe.o (by assumption),?_⟩|refine ⟨fun _=>HasLe.cons _,?_⟩|refine ⟨fun hst=>(by cases (show true=false from hst)),?_⟩|intro (_:Nat)|(show WN _ _ _;first|refine WN.i64 (by omega) (by omega) ?_|refine WN.u64 (by omega) (by omega) ?_|refine WN.u32 (by omega) (by omega) ?_|refine WN.u8 (by omega) (by omega) ?_)|(show LdN _ _ _ _ _;first|refine LdN.o 0 rfl rfl ?_|refine LdN.o 1 rfl rfl ?_|refine LdN.o 2 rfl rfl ?_|refine LdN.o 3 rfl rfl ?_|refine LdN.o 4 rfl rfl ?_|refine LdN.o 5 rfl rfl ?_|refine LdN.o 6 rfl rfl ?_|refine LdN.o 7 rfl rfl ?_|refine LdN.o 8 rfl rfl ?_|refine LdN.o 9 rfl rfl ?_|refine LdN.o 10 rfl rfl ?_|refine LdN.o 11 rfl rfl ?_|refine LdN.o 12 rfl rfl ?_|refine LdN.o 13 rfl rfl ?_|refine LdN.o 14 rfl rfl ?_|refine LdN.o 15 rfl rfl ?_|refine LdN.o 16 rfl rfl ?_|refine LdN.o 17 rfl rfl ?_|refine LdN.o 18 rfl rfl ?_|refine LdN.o 19 rfl rfl ?_|refine LdN.o 20 rfl rfl ?_|refine LdN.o 21 rfl rfl ?_|refine LdN.o 22 rfl rfl ?_|refine LdN.o 23 rfl rfl ?_|refine LdN.o 24 rfl rfl ?_|refine LdN.o 25 rfl rfl ?_|refine LdN.o 26 rfl rfl ?_|refine LdN.o 27 rfl rfl ?_)|(show Ld _ _ _ _;first|refine Ld.o 0 rfl rfl ?_|refine Ld.o 1 rfl rfl ?_|refine Ld.o 2 rfl rfl ?_|refine Ld.o 3 rfl rfl ?_|refine Ld.o 4 rfl rfl ?_|refine Ld.o 5 rfl rfl ?_|refine Ld.o 6 rfl rfl ?_|refine Ld.o 7 rfl rfl ?_|refine Ld.o 8 rfl rfl ?_|refine Ld.o 9 rfl rfl ?_)|(show Sto _ _ _ _;first|refine Sto.l 0 rfl rfl rfl ?_|refine Sto.l 1 rfl rfl rfl ?_|refine Sto.l 2 rfl rfl rfl ?_|refine Sto.l 3 rfl rfl rfl ?_|refine Sto.l 4 rfl rfl rfl ?_|refine Sto.l 5 rfl rfl rfl ?_|refine Sto.l 6 rfl rfl rfl ?_|refine Sto.l 7 rfl rfl rfl ?_|refine Sto.l 8 rfl rfl rfl ?_|refine Sto.l 9 rfl rfl rfl ?_|refine Sto.l 10 rfl rfl rfl ?_)|refine DrN.run (by decide +kernel) ?_) <;> (conv=>whnf))|(show cnd _ _ _;first|(refine cnd_lt (fun _=>?_) (fun _=>?_) <;> first|(exfalso;omega)|(conv=>whnf))|(refine cnd_le (fun _=>?_) (fun _=>?_) <;> first|(exfalso;omega)|(conv=>whnf))|(refine cnd_eq (fun _=>?_) (fun _=>?_) <;> first|(exfalso;omega)|(conv=>whnf))|(refine cnd_not ?_)|(refine cnd_beq (fun _=>?_) (fun hne=>?_) <;> first|exact absurd rfl hne|(conv=>whnf))|(refine cnd_dec (fun _=>?_) (fun _=>?_) <;> first|(exfalso;omega)|(conv=>whnf))|(refine cnd_bool (fun hb=>?_) (fun hb=>?_) <;> (first|cases hb|subst hb) <;> (conv=>whnf))|(refine cnd_bool (fun _=>?_) (fun _=>?_) <;> (conv=>whnf)))|(refine Both.mk ?_ ?_ <;> (conv=>whnf))
  exact RN.a (congrArg Value.bool (t2 (f3 (by omega) fun i t e=>hq.out i t (by have:=(List.getElem?_eq_some_iff.1 e).1;omega) e)))
 ·obtain ⟨t,het⟩:∃t,ks[j]?=some t:=⟨_,List.getElem?_eq_getElem (by omega)⟩
  have c2:=fun h vs w=>ih t (szT_kid het) (d+1) (okTs_get hoks het) trivial h vs w
  have f2:=f2 j t het
  have hqo:=hq.out
  obtain ⟨C,hC⟩:∃C,C=resT t:=⟨_,rfl⟩
  rw [← hC] at c2 f2
  conv=>whnf
  repeat ((first|refine oI.z ?_|refine cI.z ?_);conv=>whnf)
  repeat' first|((first|(show SeqN _ _ _ _ _ _ _;refine SeqN.go ?_)|(show Idx _ _ _ _ _;refine Idx.kid hkx j t (by omega) het (fun ad op2 arg2 neg2 a2 b2 name2 s2 hE hld=>?_))|refine hld _ _ _ (Heap.lr _) ?_|((first|refine oI.z ?_|refine cI.z ?_))|refine ⟨fun _=>HasLe.o (Heap.lr _),?_⟩|refine ⟨fun _=>HasLe.o (by assumption),?_⟩|refine ⟨fun _=>HasLe.cons _,?_⟩|refine ⟨fun hst=>(by cases (show true=false from hst)),?_⟩|intro (_:Nat)|(show CN _ _ _ _ _ _;(refine CN.f rfl (c2 _ _ hE) (fun v h' hl2 hr=>?_);subst hr))|(show WN _ _ _;first|refine WN.i64 (by omega) (by omega) ?_|refine WN.u64 (by omega) (by omega) ?_|refine WN.u32 (by omega) (by omega) ?_|refine WN.u8 (by omega) (by omega) ?_)|(show LdN _ _ _ _ _;first|refine LdN.o 0 rfl rfl ?_|refine LdN.o 1 rfl rfl ?_|refine LdN.o 2 rfl rfl ?_|refine LdN.o 3 rfl rfl ?_|refine LdN.o 4 rfl rfl ?_|refine LdN.o 5 rfl rfl ?_|refine LdN.o 6 rfl rfl ?_|refine LdN.o 7 rfl rfl ?_|refine LdN.o 8 rfl rfl ?_|refine LdN.o 9 rfl rfl ?_|refine LdN.o 10 rfl rfl ?_|refine LdN.o 11 rfl rfl ?_|refine LdN.o 12 rfl rfl ?_|refine LdN.o 13 rfl rfl ?_|refine LdN.o 14 rfl rfl ?_|refine LdN.o 15 rfl rfl ?_|refine LdN.o 16 rfl rfl ?_|refine LdN.o 17 rfl rfl ?_|refine LdN.o 18 rfl rfl ?_|refine LdN.o 19 rfl rfl ?_|refine LdN.o 20 rfl rfl ?_|refine LdN.o 21 rfl rfl ?_|refine LdN.o 22 rfl rfl ?_|refine LdN.o 23 rfl rfl ?_|refine LdN.o 24 rfl rfl ?_|refine LdN.o 25 rfl rfl ?_|refine LdN.o 26 rfl rfl ?_|refine LdN.o 27 rfl rfl ?_)|(show Ld _ _ _ _;first|refine Ld.o 0 rfl rfl ?_|refine Ld.o 1 rfl rfl ?_|refine Ld.o 2 rfl rfl ?_|refine Ld.o 3 rfl rfl ?_|refine Ld.o 4 rfl rfl ?_|refine Ld.o 5 rfl rfl ?_|refine Ld.o 6 rfl rfl ?_|refine Ld.o 7 rfl rfl ?_|refine Ld.o 8 rfl rfl ?_|refine Ld.o 9 rfl rfl ?_)|(show Sto _ _ _ _;first|refine Sto.l 0 rfl rfl rfl ?_|refine Sto.l 1 rfl rfl rfl ?_|refine Sto.l 2 rfl rfl rfl ?_|refine Sto.l 3 rfl rfl rfl ?_|refine Sto.l 4 rfl rfl rfl ?_|refine Sto.l 5 rfl rfl rfl ?_|refine Sto.l 6 rfl rfl rfl ?_|refine Sto.l 7 rfl rfl rfl ?_|refine Sto.l 8 rfl rfl rfl ?_|refine Sto.l 9 rfl rfl rfl ?_|refine Sto.l 10 rfl rfl rfl ?_)|refine DrN.run (by decide +kernel) ?_) <;> (conv=>whnf))|(show cnd _ _ _;first|(refine cnd_lt (fun _=>?_) (fun _=>?_) <;> first|(exfalso;omega)|(conv=>whnf))|(refine cnd_le (fun _=>?_) (fun _=>?_) <;> first|(exfalso;omega)|(conv=>whnf))|(refine cnd_eq (fun _=>?_) (fun _=>?_) <;> first|(exfalso;omega)|(conv=>whnf))|(refine cnd_not ?_)|(refine cnd_beq (fun _=>?_) (fun hne=>?_) <;> first|exact absurd rfl hne|(conv=>whnf))|(refine cnd_dec (fun _=>?_) (fun _=>?_) <;> first|(exfalso;omega)|(conv=>whnf))|(refine cnd_bool (fun hb=>?_) (fun hb=>?_) <;> (first|cases hb|subst hb) <;> (conv=>whnf))|(refine cnd_bool (fun _=>?_) (fun _=>?_) <;> (conv=>whnf)))|(refine Both.mk ?_ ?_ <;> (conv=>whnf))
  all_goals first
   | exact RN.a (congrArg Value.bool (t1 (f2 (by assumption))))
   | exact ⟨rfl,ks.length-(j+1),by omega,(by (iterate 30 try first|assumption|exact Heap.lr _|refine Heap.lt ?_ (by assumption));first|done|assumption),rfl,j+1,rfl,by omega,vi (by omega),⟨fun i t' x y=>by
       rcases Nat.lt_succ_iff_lt_or_eq.1 x with x|rfl
       ·exact hqo i t' x y
       ·rw [het] at y;cases y;rw [← hC];assumption⟩⟩
def sizX (t:Tr):Nat × Nat:=if ValT t then (szT t,0) else (0,40)
def smX (t:Tr):Bool × Nat:=if ValT t then (dec (resT t=none),0) else (false,40)
end Go.Proofs.YtbgicephinomlaaGreatDoor