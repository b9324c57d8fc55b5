/- Rows of kids copied, cut and turned; with, replaced (one kid). -/
import Derived.Test.YtbgicephinomlaaGreatDoorE37
import Derived.Test.YtbgicephinomlaaGreatDoorE41
set_option linter.unusedVariables false
set_option linter.unusedSimpArgs false
namespace Go.Vc
open Go Go.Dig
theorem App.zero {T:Tab} {e:TypeId} {size bytes:Nat} {s:Value} {h:Heap} {L:Vc.Own} {k:Value→Heap→Vc.Own→Prop} {z:List Value} {n:Nat} {xs:List Value}
  {c:Nat} {ad:Addr} (hi:T.inf e=some (z,bytes)) (g:GrowS e size s n xs L) (hk:k s h L):App T e size bytes s (.slice (some ad) 0 c) h L k:=by
 refine ⟨fun ok o ρ K Q w0 h0 L0 w ty cc hop hty hca hargs ht hsz2 hd inv hout hK=>?_⟩
 obtain ⟨d,hd1,hd2⟩:=hd
 obtain ⟨i,zv,h1,h2,h3,h4,h5⟩:=ok.inf _ _ _ hi
 have hexec:∀r,(Builtin.append_ #[cc.argTypes.getD 0 0,cc.argTypes.getD 0 0] o.type #[s,.slice (some ad) 0 c]).run T.prog w=r→(execOp ρ.eval o).run T.prog w=r.andThen fun v w=>.ok (.value v) w:=by
  intro r hr
  have he:cc.argTypes=#[cc.argTypes.getD 0 0,cc.argTypes.getD 1 0]:=by
   apply Array.ext
   ·simp [hsz2]
   ·intro j hj1 hj2
    rw [hsz2] at hj1
    match j,hj1 with
    | 0,_=>simp [Array.getD,hsz2]
    | 1,_=>simp [Array.getD,hsz2]
  rw [← hr,← append_types ht hd1 hd2,← he]
  simp only [execOp,hop,resolve,hca,invoke,builtin,Sem.run_bind,Sem.run_pure,Result.andThen_ok,hargs]
 refine .inl (wp_value (hexec (.ok s w) ?_) (hK _ _ _ _ inv hk))
 generalize cc.argTypes.getD 0 0=t at ht ⊢
 obtain ⟨gl,⟨rfl,rfl⟩ | ⟨j,b,cap,zs,rfl,hj,hnc,hlen⟩⟩:=g
 ·simp [Builtin.append_,run_underlying ht,sizeOf,typeInfo,h1,Builtin.lenOf,Builtin.firstCells,loadCells,loadCellsFrom]
 ·simp [Builtin.append_,run_underlying ht,sizeOf,typeInfo,h1,Builtin.lenOf,Builtin.firstCells,loadCells,loadCellsFrom,hnc,storeCells]
theorem GrowS.up {e:TypeId} {size:Nat} {v:Value} {n:Nat} {xs:List Value} {F:Vc.Own} (g:GrowS e size v n xs F) (A tl:Vc.Own):GrowS e size v n xs (A++(F++tl)):=by
 obtain ⟨g1,⟨rfl,rfl⟩ | ⟨i,b,cap,zs,rfl,h2,h3,h4⟩⟩:=g
 ·exact ⟨g1,.inl ⟨rfl,rfl⟩⟩
 ·have hlt:=(List.getElem?_eq_some_iff.1 h2).1
  exact ⟨g1,.inr ⟨A.length+i,b,cap,zs,rfl,by rw [List.getElem?_append_right (by omega),Nat.add_sub_cancel_left,List.getElem?_append_left hlt];exact h2,h3,h4⟩⟩
end Go.Vc
namespace Go.Proofs.YtbgicephinomlaaGreatDoor
open Go Go.Vc Go.Dig
set_option maxRecDepth 20000 in
set_option maxHeartbeats 2000000 in
theorem RCount_ct:∀(t:Tr) (d:Nat),okT d t→szT t≤300→∀(h:Heap) (vs:List Value),IsE h vs t→Fn0 T F.ref04_Count [.agg vs.toArray] h fun v h'=>v=.int .i64 (szT t):=by
 refine tree_ind fun t ih=>?_
 intro d hok hc h vs w
 obtain ⟨op,arg,neg,l,m,name,ks⟩:=t
 obtain ⟨a,b,s,rfl,ho,ha,hv,hb,hk⟩:=w.isK
 rw [okT] at hok
 obtain ⟨hd,hnb,hoks⟩:=hok
 have hkl:=hk.len
 have hkc:=hk.cap
 have hn1:=hnb.1
 have hks:ks.length≤3:=by
  have h2:=kidsN_le op
  omega
 rw [szT] at hc ⊢
 have ht:∀j t,ks[j]?=some t→szTs (ks.take (j+1))=szTs (ks.take j)+szT t∧szTs (ks.take j)+szT t≤szTs ks:=fun j t e=>by
  have e1:=take_tail e
  have e2:szTs ks=szTs (ks.take j)+(szT t+szTs (ks.drop (j+1))):=by
   conv=>lhs;rw [e1]
   rw [szTs_append,szTs]
  refine ⟨?_,by omega⟩
  rw [take_snoc e,szTs_append,szTs,szTs,Nat.add_zero]
 obtain ⟨K,hK⟩:∃K,K=szTs ks:=⟨_,rfl⟩
 have hKl:szTs (ks.take ks.length)=K:=by rw [List.take_length,hK]
 rw [← hK] at hc ht ⊢
 clear hK
 refine fn0_of_codeI ok D.ref04_Count rfl ?_
 conv=>whnf
 repeat ((first | refine opsI.step ?_ | refine codeI.step ?_);conv=>whnf)
 repeat' first | ((first | (show SeqN _ _ _ _ _ _ _;refine SeqN.go ?_) | ((first | refine opsI.step ?_ | refine codeI.step ?_)) | refine ⟨fun _=>HasLe.of_le (Heap.le_refl _),?_⟩ | refine ⟨fun _=>HasLe.of_le (by assumption),?_⟩ | refine ⟨fun _=>HasLe.cons _,?_⟩ | refine ⟨fun hst=>(by cases (show true=false from hst)),?_⟩ | intro (_:Nat) | (show WrapN _ _ _;first | refine WrapN.i64 (by omega) (by omega) ?_ | refine WrapN.u64 (by omega) (by omega) ?_ | refine WrapN.u32 (by omega) (by omega) ?_ | refine WrapN.u8 (by omega) (by omega) ?_) | (show LdN _ _ _ _ _;first | refine LdN.own 0 rfl rfl ?_ | refine LdN.own 1 rfl rfl ?_ | refine LdN.own 2 rfl rfl ?_ | refine LdN.own 3 rfl rfl ?_ | refine LdN.own 4 rfl rfl ?_ | refine LdN.own 5 rfl rfl ?_ | refine LdN.own 6 rfl rfl ?_ | refine LdN.own 7 rfl rfl ?_ | refine LdN.own 8 rfl rfl ?_ | refine LdN.own 9 rfl rfl ?_ | refine LdN.own 10 rfl rfl ?_ | refine LdN.own 11 rfl rfl ?_ | refine LdN.own 12 rfl rfl ?_ | refine LdN.own 13 rfl rfl ?_ | refine LdN.own 14 rfl rfl ?_ | refine LdN.own 15 rfl rfl ?_ | refine LdN.own 16 rfl rfl ?_ | refine LdN.own 17 rfl rfl ?_ | refine LdN.own 18 rfl rfl ?_ | refine LdN.own 19 rfl rfl ?_ | refine LdN.own 20 rfl rfl ?_ | refine LdN.own 21 rfl rfl ?_ | refine LdN.own 22 rfl rfl ?_ | refine LdN.own 23 rfl rfl ?_ | refine LdN.own 24 rfl rfl ?_ | refine LdN.own 25 rfl rfl ?_ | refine LdN.own 26 rfl rfl ?_ | refine LdN.own 27 rfl rfl ?_) | (show Ld _ _ _ _;first | refine Ld.own 0 rfl rfl ?_ | refine Ld.own 1 rfl rfl ?_ | refine Ld.own 2 rfl rfl ?_ | refine Ld.own 3 rfl rfl ?_ | refine Ld.own 4 rfl rfl ?_ | refine Ld.own 5 rfl rfl ?_ | refine Ld.own 6 rfl rfl ?_ | refine Ld.own 7 rfl rfl ?_ | refine Ld.own 8 rfl rfl ?_ | refine Ld.own 9 rfl rfl ?_) | (show Sto _ _ _ _;first | refine Sto.lit 0 rfl rfl rfl ?_ | refine Sto.lit 1 rfl rfl rfl ?_ | refine Sto.lit 2 rfl rfl rfl ?_ | refine Sto.lit 3 rfl rfl rfl ?_ | refine Sto.lit 4 rfl rfl rfl ?_ | refine Sto.lit 5 rfl rfl rfl ?_ | refine Sto.lit 6 rfl rfl rfl ?_ | refine Sto.lit 7 rfl rfl rfl ?_ | refine Sto.lit 8 rfl rfl rfl ?_ | refine Sto.lit 9 rfl rfl rfl ?_ | refine Sto.lit 10 rfl rfl rfl ?_) | refine DrawN.run (by decide +kernel) ?_) <;> (conv=>whnf)) | (show cnd _ _ _;first | (refine cnd_lt (fun _=>?_) (fun _=>?_) <;> first | (exfalso;omega) | (conv=>whnf)) | (refine cnd_le (fun _=>?_) (fun _=>?_) <;> first | (exfalso;omega) | (conv=>whnf)) | (refine cnd_eq (fun _=>?_) (fun _=>?_) <;> first | (exfalso;omega) | (conv=>whnf)) | (refine cnd_not ?_) | (refine cnd_beq (fun _=>?_) (fun hne=>?_) <;> first | exact absurd rfl hne | (conv=>whnf)) | (refine cnd_dec (fun _=>?_) (fun _=>?_) <;> first | (exfalso;omega) | (conv=>whnf)) | (refine cnd_bool (fun hb=>?_) (fun hb=>?_) <;> (first | cases hb | subst hb) <;> (conv=>whnf)) | (refine cnd_bool (fun _=>?_) (fun _=>?_) <;> (conv=>whnf))) | (refine Both.mk ?_ ?_ <;> (conv=>whnf))
 refine LoopN.keepL (fun r ρ hx=>∃j:Nat,r=ks.length-j∧j≤ks.length∧rd ρ 4=.int .i64 j∧rd ρ 3=.int .i64 ((1+szTs (ks.take j):Nat):Int)) ks.length ⟨0,rfl,Nat.zero_le _,rfl,vi (by rw [List.take_zero,szTs];rfl)⟩ ?_
 conv=>whnf
 repeat intro _
 rename_i r hx hle hI
 obtain ⟨j,rfl,hj,e4,e3⟩:=hI
 conv at e4=>lhs;whnf
 subst e4
 obtain ⟨c,hcd⟩:∃c:Nat,c=1+szTs (ks.take j):=⟨_,rfl⟩
 rw [← hcd] at e3
 conv at e3=>lhs;whnf
 subst e3
 have hkx:=hk.mono hle
 by_cases hjl:j=ks.length
 ·conv=>whnf
  repeat ((first | refine opsI.step ?_ | refine codeI.step ?_);conv=>whnf)
  repeat' first | ((first | (show SeqN _ _ _ _ _ _ _;refine SeqN.go ?_) | ((first | refine opsI.step ?_ | refine codeI.step ?_)) | refine ⟨fun _=>HasLe.of_le (Heap.le_refl _),?_⟩ | refine ⟨fun _=>HasLe.of_le (by assumption),?_⟩ | refine ⟨fun _=>HasLe.cons _,?_⟩ | refine ⟨fun hst=>(by cases (show true=false from hst)),?_⟩ | intro (_:Nat) | (show WrapN _ _ _;first | refine WrapN.i64 (by omega) (by omega) ?_ | refine WrapN.u64 (by omega) (by omega) ?_ | refine WrapN.u32 (by omega) (by omega) ?_ | refine WrapN.u8 (by omega) (by omega) ?_) | (show LdN _ _ _ _ _;first | refine LdN.own 0 rfl rfl ?_ | refine LdN.own 1 rfl rfl ?_ | refine LdN.own 2 rfl rfl ?_ | refine LdN.own 3 rfl rfl ?_ | refine LdN.own 4 rfl rfl ?_ | refine LdN.own 5 rfl rfl ?_ | refine LdN.own 6 rfl rfl ?_ | refine LdN.own 7 rfl rfl ?_ | refine LdN.own 8 rfl rfl ?_ | refine LdN.own 9 rfl rfl ?_ | refine LdN.own 10 rfl rfl ?_ | refine LdN.own 11 rfl rfl ?_ | refine LdN.own 12 rfl rfl ?_ | refine LdN.own 13 rfl rfl ?_ | refine LdN.own 14 rfl rfl ?_ | refine LdN.own 15 rfl rfl ?_ | refine LdN.own 16 rfl rfl ?_ | refine LdN.own 17 rfl rfl ?_ | refine LdN.own 18 rfl rfl ?_ | refine LdN.own 19 rfl rfl ?_ | refine LdN.own 20 rfl rfl ?_ | refine LdN.own 21 rfl rfl ?_ | refine LdN.own 22 rfl rfl ?_ | refine LdN.own 23 rfl rfl ?_ | refine LdN.own 24 rfl rfl ?_ | refine LdN.own 25 rfl rfl ?_ | refine LdN.own 26 rfl rfl ?_ | refine LdN.own 27 rfl rfl ?_) | (show Ld _ _ _ _;first | refine Ld.own 0 rfl rfl ?_ | refine Ld.own 1 rfl rfl ?_ | refine Ld.own 2 rfl rfl ?_ | refine Ld.own 3 rfl rfl ?_ | refine Ld.own 4 rfl rfl ?_ | refine Ld.own 5 rfl rfl ?_ | refine Ld.own 6 rfl rfl ?_ | refine Ld.own 7 rfl rfl ?_ | refine Ld.own 8 rfl rfl ?_ | refine Ld.own 9 rfl rfl ?_) | (show Sto _ _ _ _;first | refine Sto.lit 0 rfl rfl rfl ?_ | refine Sto.lit 1 rfl rfl rfl ?_ | refine Sto.lit 2 rfl rfl rfl ?_ | refine Sto.lit 3 rfl rfl rfl ?_ | refine Sto.lit 4 rfl rfl rfl ?_ | refine Sto.lit 5 rfl rfl rfl ?_ | refine Sto.lit 6 rfl rfl rfl ?_ | refine Sto.lit 7 rfl rfl rfl ?_ | refine Sto.lit 8 rfl rfl rfl ?_ | refine Sto.lit 9 rfl rfl rfl ?_ | refine Sto.lit 10 rfl rfl rfl ?_) | refine DrawN.run (by decide +kernel) ?_) <;> (conv=>whnf)) | (show cnd _ _ _;first | (refine cnd_lt (fun _=>?_) (fun _=>?_) <;> first | (exfalso;omega) | (conv=>whnf)) | (refine cnd_le (fun _=>?_) (fun _=>?_) <;> first | (exfalso;omega) | (conv=>whnf)) | (refine cnd_eq (fun _=>?_) (fun _=>?_) <;> first | (exfalso;omega) | (conv=>whnf)) | (refine cnd_not ?_) | (refine cnd_beq (fun _=>?_) (fun hne=>?_) <;> first | exact absurd rfl hne | (conv=>whnf)) | (refine cnd_dec (fun _=>?_) (fun _=>?_) <;> first | (exfalso;omega) | (conv=>whnf)) | (refine cnd_bool (fun hb=>?_) (fun hb=>?_) <;> (first | cases hb | subst hb) <;> (conv=>whnf)) | (refine cnd_bool (fun _=>?_) (fun _=>?_) <;> (conv=>whnf))) | (refine Both.mk ?_ ?_ <;> (conv=>whnf))
  refine RetN.all (vi ?_)
  rw [hcd,hjl,hKl]
 ·obtain ⟨t,het⟩:∃t,ks[j]?=some t:=⟨_,List.getElem?_eq_getElem (by omega)⟩
  obtain ⟨ht1,ht2⟩:=ht j t het
  have c2:=fun h vs w=>ih t (szT_kid het) (d+1) (okTs_get hoks het) (by omega) h vs w
  obtain ⟨C,hC⟩:∃C,C=szT t:=⟨_,rfl⟩
  rw [← hC] at c2 ht1 ht2
  conv=>whnf
  repeat ((first | refine opsI.step ?_ | refine codeI.step ?_);conv=>whnf)
  repeat' first | ((first | (show SeqN _ _ _ _ _ _ _;refine SeqN.go ?_) | (show Idx _ _ _ _ _;refine Idx.kid hkx j t (by omega) het (fun ad op2 arg2 neg2 a2 b2 name2 s2 hE hld=>?_)) | refine hld _ _ _ (Heap.le_refl _) ?_ | ((first | refine opsI.step ?_ | refine codeI.step ?_)) | refine ⟨fun _=>HasLe.of_le (Heap.le_refl _),?_⟩ | refine ⟨fun _=>HasLe.of_le (by assumption),?_⟩ | refine ⟨fun _=>HasLe.cons _,?_⟩ | refine ⟨fun hst=>(by cases (show true=false from hst)),?_⟩ | intro (_:Nat) | (show CallN _ _ _ _ _ _;(refine CallN.fn rfl (c2 _ _ hE) (fun v h' hl2 hr=>?_);subst hr)) | (show WrapN _ _ _;first | refine WrapN.i64 (by omega) (by omega) ?_ | refine WrapN.u64 (by omega) (by omega) ?_ | refine WrapN.u32 (by omega) (by omega) ?_ | refine WrapN.u8 (by omega) (by omega) ?_) | (show LdN _ _ _ _ _;first | refine LdN.own 0 rfl rfl ?_ | refine LdN.own 1 rfl rfl ?_ | refine LdN.own 2 rfl rfl ?_ | refine LdN.own 3 rfl rfl ?_ | refine LdN.own 4 rfl rfl ?_ | refine LdN.own 5 rfl rfl ?_ | refine LdN.own 6 rfl rfl ?_ | refine LdN.own 7 rfl rfl ?_ | refine LdN.own 8 rfl rfl ?_ | refine LdN.own 9 rfl rfl ?_ | refine LdN.own 10 rfl rfl ?_ | refine LdN.own 11 rfl rfl ?_ | refine LdN.own 12 rfl rfl ?_ | refine LdN.own 13 rfl rfl ?_ | refine LdN.own 14 rfl rfl ?_ | refine LdN.own 15 rfl rfl ?_ | refine LdN.own 16 rfl rfl ?_ | refine LdN.own 17 rfl rfl ?_ | refine LdN.own 18 rfl rfl ?_ | refine LdN.own 19 rfl rfl ?_ | refine LdN.own 20 rfl rfl ?_ | refine LdN.own 21 rfl rfl ?_ | refine LdN.own 22 rfl rfl ?_ | refine LdN.own 23 rfl rfl ?_ | refine LdN.own 24 rfl rfl ?_ | refine LdN.own 25 rfl rfl ?_ | refine LdN.own 26 rfl rfl ?_ | refine LdN.own 27 rfl rfl ?_) | (show Ld _ _ _ _;first | refine Ld.own 0 rfl rfl ?_ | refine Ld.own 1 rfl rfl ?_ | refine Ld.own 2 rfl rfl ?_ | refine Ld.own 3 rfl rfl ?_ | refine Ld.own 4 rfl rfl ?_ | refine Ld.own 5 rfl rfl ?_ | refine Ld.own 6 rfl rfl ?_ | refine Ld.own 7 rfl rfl ?_ | refine Ld.own 8 rfl rfl ?_ | refine Ld.own 9 rfl rfl ?_) | (show Sto _ _ _ _;first | refine Sto.lit 0 rfl rfl rfl ?_ | refine Sto.lit 1 rfl rfl rfl ?_ | refine Sto.lit 2 rfl rfl rfl ?_ | refine Sto.lit 3 rfl rfl rfl ?_ | refine Sto.lit 4 rfl rfl rfl ?_ | refine Sto.lit 5 rfl rfl rfl ?_ | refine Sto.lit 6 rfl rfl rfl ?_ | refine Sto.lit 7 rfl rfl rfl ?_ | refine Sto.lit 8 rfl rfl rfl ?_ | refine Sto.lit 9 rfl rfl rfl ?_ | refine Sto.lit 10 rfl rfl rfl ?_) | refine DrawN.run (by decide +kernel) ?_) <;> (conv=>whnf)) | (show cnd _ _ _;first | (refine cnd_lt (fun _=>?_) (fun _=>?_) <;> first | (exfalso;omega) | (conv=>whnf)) | (refine cnd_le (fun _=>?_) (fun _=>?_) <;> first | (exfalso;omega) | (conv=>whnf)) | (refine cnd_eq (fun _=>?_) (fun _=>?_) <;> first | (exfalso;omega) | (conv=>whnf)) | (refine cnd_not ?_) | (refine cnd_beq (fun _=>?_) (fun hne=>?_) <;> first | exact absurd rfl hne | (conv=>whnf)) | (refine cnd_dec (fun _=>?_) (fun _=>?_) <;> first | (exfalso;omega) | (conv=>whnf)) | (refine cnd_bool (fun hb=>?_) (fun hb=>?_) <;> (first | cases hb | subst hb) <;> (conv=>whnf)) | (refine cnd_bool (fun _=>?_) (fun _=>?_) <;> (conv=>whnf))) | (refine Both.mk ?_ ?_ <;> (conv=>whnf))
  exact ⟨rfl,ks.length-(j+1),by omega,(by (iterate 30 (try first | assumption | exact Heap.le_refl _ | refine Heap.le_trans ?_ (by assumption)));first | done | assumption),rfl,j+1,rfl,by omega,vi (by omega),vi (by rw [ht1,hcd];omega)⟩
theorem res_top {op arg:Int} {neg:Bool} {l m name:List Nat} {ks:List Tr} (h:roughB op):resT (.mk op arg neg l m name ks)≠none:=fun e=>by
 have:=resT_none.1 e (op,name) (by rw [tagsT];exact List.mem_cons_self ..)
 exact this h
theorem tagsTs_mem {x:Int × List Nat}:∀{ks:List Tr},x∈tagsTs ks↔∃t∈ks,x∈tagsT t
 | []=>by rw [tagsTs];simp
 | t::ts=>by
  rw [tagsTs,List.mem_append,tagsTs_mem]
  simp
theorem res_kid {op arg:Int} {neg:Bool} {l m name:List Nat} {ks:List Tr} {i:Nat} {t:Tr} (h:ks[i]?=some t) (hn:resT t≠none):resT (.mk op arg neg l m name ks)≠none:=fun e=>hn (resT_none.2 fun x hx=>resT_none.1 e x (by
  rw [tagsT]
  exact List.mem_cons_of_mem _ (tagsTs_mem.2 ⟨t,List.mem_of_getElem? h,hx⟩)))
theorem res_all {op arg:Int} {neg:Bool} {l m name:List Nat} {ks:List Tr} (h:¬roughB op) (hn:∀(i:Nat) t,ks[i]?=some t→resT t=none):resT (.mk op arg neg l m name ks)=none:=resT_none.2 fun x hx=>by
 rw [tagsT] at hx
 rcases List.mem_cons.1 hx with rfl | hx
 ·exact h
 ·obtain ⟨t,ht,hx⟩:=tagsTs_mem.1 hx
  obtain ⟨i,hi,rfl⟩:=List.mem_iff_getElem.1 ht
  exact resT_none.1 (hn i _ (List.getElem?_eq_getElem hi)) x hx
set_option maxRecDepth 20000 in
set_option maxHeartbeats 2000000 in
theorem rrough_ct:∀(t:Tr) (d:Nat),okT d t→True→∀(h:Heap) (vs:List Value),IsE h vs t→Fn0 T F.ref04_rough [.agg vs.toArray] h fun v h'=>v=.bool (!dec (resT t=none)):=by
 refine tree_ind fun t ih=>?_
 intro d hok hc h vs w
 obtain ⟨op,arg,neg,l,m,name,ks⟩:=t
 obtain ⟨a,b,s,rfl,ho,ha,hv,hb,hk⟩:=w.isK
 rw [okT] at hok
 obtain ⟨hd,hnb,hoks⟩:=hok
 have hkl:=hk.len
 have hkc:=hk.cap
 have hn1:=hnb.1
 have hks:ks.length≤3:=by
  have h2:=kidsN_le op
  omega
 have f1:12≤op→op≤15→resT (.mk op arg neg l m name ks)≠none:=fun x y=>res_top ⟨x,y⟩
 have f2:∀i t,ks[i]?=some t→resT t≠none→resT (.mk op arg neg l m name ks)≠none:=fun i t h hn=>res_kid h hn
 have f3:¬(12≤op∧op≤15)→(∀(i:Nat) t,ks[i]?=some t→resT t=none)→resT (.mk op arg neg l m name ks)=none:=fun x y=>res_all x y
 obtain ⟨R,hR⟩:∃R,R=resT (.mk op arg neg l m name ks):=⟨_,rfl⟩
 rw [← hR] at f1 f2 f3 ⊢
 clear hR
 have t1:R≠none→true=!dec (R=none):=fun x=>by rw [dec_false x];rfl
 have t2:R=none→false=!dec (R=none):=fun x=>by rw [dec_true x];rfl
 refine fn0_of_codeI ok D.ref04_rough rfl ?_
 conv=>whnf
 repeat ((first | refine opsI.step ?_ | refine codeI.step ?_);conv=>whnf)
 repeat' first | ((first | (show SeqN _ _ _ _ _ _ _;refine SeqN.go ?_) | ((first | refine opsI.step ?_ | refine codeI.step ?_)) | refine ⟨fun _=>HasLe.of_le (Heap.le_refl _),?_⟩ | refine ⟨fun _=>HasLe.of_le (by assumption),?_⟩ | refine ⟨fun _=>HasLe.cons _,?_⟩ | refine ⟨fun hst=>(by cases (show true=false from hst)),?_⟩ | intro (_:Nat) | (show WrapN _ _ _;first | refine WrapN.i64 (by omega) (by omega) ?_ | refine WrapN.u64 (by omega) (by omega) ?_ | refine WrapN.u32 (by omega) (by omega) ?_ | refine WrapN.u8 (by omega) (by omega) ?_) | (show LdN _ _ _ _ _;first | refine LdN.own 0 rfl rfl ?_ | refine LdN.own 1 rfl rfl ?_ | refine LdN.own 2 rfl rfl ?_ | refine LdN.own 3 rfl rfl ?_ | refine LdN.own 4 rfl rfl ?_ | refine LdN.own 5 rfl rfl ?_ | refine LdN.own 6 rfl rfl ?_ | refine LdN.own 7 rfl rfl ?_ | refine LdN.own 8 rfl rfl ?_ | refine LdN.own 9 rfl rfl ?_ | refine LdN.own 10 rfl rfl ?_ | refine LdN.own 11 rfl rfl ?_ | refine LdN.own 12 rfl rfl ?_ | refine LdN.own 13 rfl rfl ?_ | refine LdN.own 14 rfl rfl ?_ | refine LdN.own 15 rfl rfl ?_ | refine LdN.own 16 rfl rfl ?_ | refine LdN.own 17 rfl rfl ?_ | refine LdN.own 18 rfl rfl ?_ | refine LdN.own 19 rfl rfl ?_ | refine LdN.own 20 rfl rfl ?_ | refine LdN.own 21 rfl rfl ?_ | refine LdN.own 22 rfl rfl ?_ | refine LdN.own 23 rfl rfl ?_ | refine LdN.own 24 rfl rfl ?_ | refine LdN.own 25 rfl rfl ?_ | refine LdN.own 26 rfl rfl ?_ | refine LdN.own 27 rfl rfl ?_) | (show Ld _ _ _ _;first | refine Ld.own 0 rfl rfl ?_ | refine Ld.own 1 rfl rfl ?_ | refine Ld.own 2 rfl rfl ?_ | refine Ld.own 3 rfl rfl ?_ | refine Ld.own 4 rfl rfl ?_ | refine Ld.own 5 rfl rfl ?_ | refine Ld.own 6 rfl rfl ?_ | refine Ld.own 7 rfl rfl ?_ | refine Ld.own 8 rfl rfl ?_ | refine Ld.own 9 rfl rfl ?_) | (show Sto _ _ _ _;first | refine Sto.lit 0 rfl rfl rfl ?_ | refine Sto.lit 1 rfl rfl rfl ?_ | refine Sto.lit 2 rfl rfl rfl ?_ | refine Sto.lit 3 rfl rfl rfl ?_ | refine Sto.lit 4 rfl rfl rfl ?_ | refine Sto.lit 5 rfl rfl rfl ?_ | refine Sto.lit 6 rfl rfl rfl ?_ | refine Sto.lit 7 rfl rfl rfl ?_ | refine Sto.lit 8 rfl rfl rfl ?_ | refine Sto.lit 9 rfl rfl rfl ?_ | refine Sto.lit 10 rfl rfl rfl ?_) | refine DrawN.run (by decide +kernel) ?_) <;> (conv=>whnf)) | (show cnd _ _ _;first | (refine cnd_lt (fun _=>?_) (fun _=>?_) <;> first | (exfalso;omega) | (conv=>whnf)) | (refine cnd_le (fun _=>?_) (fun _=>?_) <;> first | (exfalso;omega) | (conv=>whnf)) | (refine cnd_eq (fun _=>?_) (fun _=>?_) <;> first | (exfalso;omega) | (conv=>whnf)) | (refine cnd_not ?_) | (refine cnd_beq (fun _=>?_) (fun hne=>?_) <;> first | exact absurd rfl hne | (conv=>whnf)) | (refine cnd_dec (fun _=>?_) (fun _=>?_) <;> first | (exfalso;omega) | (conv=>whnf)) | (refine cnd_bool (fun hb=>?_) (fun hb=>?_) <;> (first | cases hb | subst hb) <;> (conv=>whnf)) | (refine cnd_bool (fun _=>?_) (fun _=>?_) <;> (conv=>whnf))) | (refine Both.mk ?_ ?_ <;> (conv=>whnf))
 all_goals try exact RetN.all (congrArg Value.bool (t1 (f1 (by omega) (by omega))))
 refine LoopN.keepL (fun r ρ hx=>∃j:Nat,r=ks.length-j∧j≤ks.length∧rd ρ 3=.int .i64 j∧Hq (∀(i:Nat) t,i<j→ks[i]?=some t→resT t=none)) ks.length ⟨0,rfl,Nat.zero_le _,rfl,⟨fun i t x=>absurd x (Nat.not_lt_zero _)⟩⟩ ?_
 conv=>whnf
 repeat intro _
 rename_i r hx hle hI
 obtain ⟨j,rfl,hj,e3,hq⟩:=hI
 conv at e3=>lhs;whnf
 subst e3
 have hkx:=hk.mono hle
 by_cases hjl:j=ks.length
 ·conv=>whnf
  repeat ((first | refine opsI.step ?_ | refine codeI.step ?_);conv=>whnf)
  repeat' first | ((first | (show SeqN _ _ _ _ _ _ _;refine SeqN.go ?_) | ((first | refine opsI.step ?_ | refine codeI.step ?_)) | refine ⟨fun _=>HasLe.of_le (Heap.le_refl _),?_⟩ | refine ⟨fun _=>HasLe.of_le (by assumption),?_⟩ | refine ⟨fun _=>HasLe.cons _,?_⟩ | refine ⟨fun hst=>(by cases (show true=false from hst)),?_⟩ | intro (_:Nat) | (show WrapN _ _ _;first | refine WrapN.i64 (by omega) (by omega) ?_ | refine WrapN.u64 (by omega) (by omega) ?_ | refine WrapN.u32 (by omega) (by omega) ?_ | refine WrapN.u8 (by omega) (by omega) ?_) | (show LdN _ _ _ _ _;first | refine LdN.own 0 rfl rfl ?_ | refine LdN.own 1 rfl rfl ?_ | refine LdN.own 2 rfl rfl ?_ | refine LdN.own 3 rfl rfl ?_ | refine LdN.own 4 rfl rfl ?_ | refine LdN.own 5 rfl rfl ?_ | refine LdN.own 6 rfl rfl ?_ | refine LdN.own 7 rfl rfl ?_ | refine LdN.own 8 rfl rfl ?_ | refine LdN.own 9 rfl rfl ?_ | refine LdN.own 10 rfl rfl ?_ | refine LdN.own 11 rfl rfl ?_ | refine LdN.own 12 rfl rfl ?_ | refine LdN.own 13 rfl rfl ?_ | refine LdN.own 14 rfl rfl ?_ | refine LdN.own 15 rfl rfl ?_ | refine LdN.own 16 rfl rfl ?_ | refine LdN.own 17 rfl rfl ?_ | refine LdN.own 18 rfl rfl ?_ | refine LdN.own 19 rfl rfl ?_ | refine LdN.own 20 rfl rfl ?_ | refine LdN.own 21 rfl rfl ?_ | refine LdN.own 22 rfl rfl ?_ | refine LdN.own 23 rfl rfl ?_ | refine LdN.own 24 rfl rfl ?_ | refine LdN.own 25 rfl rfl ?_ | refine LdN.own 26 rfl rfl ?_ | refine LdN.own 27 rfl rfl ?_) | (show Ld _ _ _ _;first | refine Ld.own 0 rfl rfl ?_ | refine Ld.own 1 rfl rfl ?_ | refine Ld.own 2 rfl rfl ?_ | refine Ld.own 3 rfl rfl ?_ | refine Ld.own 4 rfl rfl ?_ | refine Ld.own 5 rfl rfl ?_ | refine Ld.own 6 rfl rfl ?_ | refine Ld.own 7 rfl rfl ?_ | refine Ld.own 8 rfl rfl ?_ | refine Ld.own 9 rfl rfl ?_) | (show Sto _ _ _ _;first | refine Sto.lit 0 rfl rfl rfl ?_ | refine Sto.lit 1 rfl rfl rfl ?_ | refine Sto.lit 2 rfl rfl rfl ?_ | refine Sto.lit 3 rfl rfl rfl ?_ | refine Sto.lit 4 rfl rfl rfl ?_ | refine Sto.lit 5 rfl rfl rfl ?_ | refine Sto.lit 6 rfl rfl rfl ?_ | refine Sto.lit 7 rfl rfl rfl ?_ | refine Sto.lit 8 rfl rfl rfl ?_ | refine Sto.lit 9 rfl rfl rfl ?_ | refine Sto.lit 10 rfl rfl rfl ?_) | refine DrawN.run (by decide +kernel) ?_) <;> (conv=>whnf)) | (show cnd _ _ _;first | (refine cnd_lt (fun _=>?_) (fun _=>?_) <;> first | (exfalso;omega) | (conv=>whnf)) | (refine cnd_le (fun _=>?_) (fun _=>?_) <;> first | (exfalso;omega) | (conv=>whnf)) | (refine cnd_eq (fun _=>?_) (fun _=>?_) <;> first | (exfalso;omega) | (conv=>whnf)) | (refine cnd_not ?_) | (refine cnd_beq (fun _=>?_) (fun hne=>?_) <;> first | exact absurd rfl hne | (conv=>whnf)) | (refine cnd_dec (fun _=>?_) (fun _=>?_) <;> first | (exfalso;omega) | (conv=>whnf)) | (refine cnd_bool (fun hb=>?_) (fun hb=>?_) <;> (first | cases hb | subst hb) <;> (conv=>whnf)) | (refine cnd_bool (fun _=>?_) (fun _=>?_) <;> (conv=>whnf))) | (refine Both.mk ?_ ?_ <;> (conv=>whnf))
  exact RetN.all (congrArg Value.bool (t2 (f3 (by omega) fun i t e=>hq.out i t (by have:=(List.getElem?_eq_some_iff.1 e).1;omega) e)))
 ·obtain ⟨t,het⟩:∃t,ks[j]?=some t:=⟨_,List.getElem?_eq_getElem (by omega)⟩
  have c2:=fun h vs w=>ih t (szT_kid het) (d+1) (okTs_get hoks het) trivial h vs w
  have f2:=f2 j t het
  have hqo:=hq.out
  obtain ⟨C,hC⟩:∃C,C=resT t:=⟨_,rfl⟩
  rw [← hC] at c2 f2
  conv=>whnf
  repeat ((first | refine opsI.step ?_ | refine codeI.step ?_);conv=>whnf)
  repeat' first | ((first | (show SeqN _ _ _ _ _ _ _;refine SeqN.go ?_) | (show Idx _ _ _ _ _;refine Idx.kid hkx j t (by omega) het (fun ad op2 arg2 neg2 a2 b2 name2 s2 hE hld=>?_)) | refine hld _ _ _ (Heap.le_refl _) ?_ | ((first | refine opsI.step ?_ | refine codeI.step ?_)) | refine ⟨fun _=>HasLe.of_le (Heap.le_refl _),?_⟩ | refine ⟨fun _=>HasLe.of_le (by assumption),?_⟩ | refine ⟨fun _=>HasLe.cons _,?_⟩ | refine ⟨fun hst=>(by cases (show true=false from hst)),?_⟩ | intro (_:Nat) | (show CallN _ _ _ _ _ _;(refine CallN.fn rfl (c2 _ _ hE) (fun v h' hl2 hr=>?_);subst hr)) | (show WrapN _ _ _;first | refine WrapN.i64 (by omega) (by omega) ?_ | refine WrapN.u64 (by omega) (by omega) ?_ | refine WrapN.u32 (by omega) (by omega) ?_ | refine WrapN.u8 (by omega) (by omega) ?_) | (show LdN _ _ _ _ _;first | refine LdN.own 0 rfl rfl ?_ | refine LdN.own 1 rfl rfl ?_ | refine LdN.own 2 rfl rfl ?_ | refine LdN.own 3 rfl rfl ?_ | refine LdN.own 4 rfl rfl ?_ | refine LdN.own 5 rfl rfl ?_ | refine LdN.own 6 rfl rfl ?_ | refine LdN.own 7 rfl rfl ?_ | refine LdN.own 8 rfl rfl ?_ | refine LdN.own 9 rfl rfl ?_ | refine LdN.own 10 rfl rfl ?_ | refine LdN.own 11 rfl rfl ?_ | refine LdN.own 12 rfl rfl ?_ | refine LdN.own 13 rfl rfl ?_ | refine LdN.own 14 rfl rfl ?_ | refine LdN.own 15 rfl rfl ?_ | refine LdN.own 16 rfl rfl ?_ | refine LdN.own 17 rfl rfl ?_ | refine LdN.own 18 rfl rfl ?_ | refine LdN.own 19 rfl rfl ?_ | refine LdN.own 20 rfl rfl ?_ | refine LdN.own 21 rfl rfl ?_ | refine LdN.own 22 rfl rfl ?_ | refine LdN.own 23 rfl rfl ?_ | refine LdN.own 24 rfl rfl ?_ | refine LdN.own 25 rfl rfl ?_ | refine LdN.own 26 rfl rfl ?_ | refine LdN.own 27 rfl rfl ?_) | (show Ld _ _ _ _;first | refine Ld.own 0 rfl rfl ?_ | refine Ld.own 1 rfl rfl ?_ | refine Ld.own 2 rfl rfl ?_ | refine Ld.own 3 rfl rfl ?_ | refine Ld.own 4 rfl rfl ?_ | refine Ld.own 5 rfl rfl ?_ | refine Ld.own 6 rfl rfl ?_ | refine Ld.own 7 rfl rfl ?_ | refine Ld.own 8 rfl rfl ?_ | refine Ld.own 9 rfl rfl ?_) | (show Sto _ _ _ _;first | refine Sto.lit 0 rfl rfl rfl ?_ | refine Sto.lit 1 rfl rfl rfl ?_ | refine Sto.lit 2 rfl rfl rfl ?_ | refine Sto.lit 3 rfl rfl rfl ?_ | refine Sto.lit 4 rfl rfl rfl ?_ | refine Sto.lit 5 rfl rfl rfl ?_ | refine Sto.lit 6 rfl rfl rfl ?_ | refine Sto.lit 7 rfl rfl rfl ?_ | refine Sto.lit 8 rfl rfl rfl ?_ | refine Sto.lit 9 rfl rfl rfl ?_ | refine Sto.lit 10 rfl rfl rfl ?_) | refine DrawN.run (by decide +kernel) ?_) <;> (conv=>whnf)) | (show cnd _ _ _;first | (refine cnd_lt (fun _=>?_) (fun _=>?_) <;> first | (exfalso;omega) | (conv=>whnf)) | (refine cnd_le (fun _=>?_) (fun _=>?_) <;> first | (exfalso;omega) | (conv=>whnf)) | (refine cnd_eq (fun _=>?_) (fun _=>?_) <;> first | (exfalso;omega) | (conv=>whnf)) | (refine cnd_not ?_) | (refine cnd_beq (fun _=>?_) (fun hne=>?_) <;> first | exact absurd rfl hne | (conv=>whnf)) | (refine cnd_dec (fun _=>?_) (fun _=>?_) <;> first | (exfalso;omega) | (conv=>whnf)) | (refine cnd_bool (fun hb=>?_) (fun hb=>?_) <;> (first | cases hb | subst hb) <;> (conv=>whnf)) | (refine cnd_bool (fun _=>?_) (fun _=>?_) <;> (conv=>whnf))) | (refine Both.mk ?_ ?_ <;> (conv=>whnf))
  all_goals first
   | exact RetN.all (congrArg Value.bool (t1 (f2 (by assumption))))
   | exact ⟨rfl,ks.length-(j+1),by omega,(by (iterate 30 (try first | assumption | exact Heap.le_refl _ | refine Heap.le_trans ?_ (by assumption)));first | done | assumption),rfl,j+1,rfl,by omega,vi (by omega),⟨fun i t' x y=>by
       rcases Nat.lt_succ_iff_lt_or_eq.1 x with x | rfl
       ·exact hqo i t' x y
       ·rw [het] at y;cases y;rw [← hC];assumption⟩⟩
def sizX (t:Tr):Nat × Nat:=if ValT t then (szT t,0) else (0,40)
def smX (t:Tr):Bool × Nat:=if ValT t then (dec (resT t=none),0) else (false,40)
set_option maxRecDepth 20000 in
theorem Size_ct (t:Tr) (h:Heap) (vs:List Value) (tb:Tb h) (w:IsE h vs t):Fn0 T F.expr_Size [.agg vs.toArray] h fun v h'=>v=.tuple #[.int .i64 (sizX t).1,.int .i64 (sizX t).2]:=by
 have hv:=cntT_val t
 have hz:=fun x=>cntT_sz (t:=t) x
 have c1:=fun h tb w=>count_ct t h vs 1 0 tb w (by omega) (by omega)
 have r1:ValT t→sizX t=(szT t,0):=fun x=>if_pos x
 have r2:¬ValT t→sizX t=(0,40):=fun x=>if_neg x
 obtain ⟨C,hC⟩:∃C,C=cntT 1 0 t:=⟨_,rfl⟩
 rw [← hC] at c1 hv hz
 have hC1:C≤301:=by rw [hC];unfold cntT;split <;> omega
 clear hC
 obtain ⟨⟨op,arg,neg,l,m,name,ks⟩,ht⟩:∃x,x=t:=⟨_,rfl⟩
 obtain ⟨a,b,s,hvs,-⟩:=(ht.symm▸w:IsE h vs (.mk op arg neg l m name ks)).isK
 subst hvs
 refine fn0_of_codeI ok D.expr_Size rfl ?_
 conv=>whnf
 repeat ((first | refine opsI.step ?_ | refine codeI.step ?_);conv=>whnf)
 repeat' first | ((first | (show SeqN _ _ _ _ _ _ _;refine SeqN.go ?_) | (show CallN _ _ _ _ _ _;(refine CallN.fn rfl (c1 _ (by (iterate 30 (try first | assumption | refine IsNat.mono ?_ (by assumption) | refine IsRef.mono ?_ (by assumption) | refine Ws.mono ?_ (by assumption) | refine Tb.mono ?_ (by assumption) | refine IsFr.mono ?_ (by assumption) | refine IsQ.mono ?_ (by assumption) | refine IsRat.mono ?_ (by assumption) | refine IsVal.mono ?_ (by assumption) | refine IsTxt.mono ?_ (by assumption) | refine IsNum.mono ?_ (by assumption) | refine IsP.mono ?_ (by assumption) | refine Whs.mono ?_ (by assumption) | refine Toks.mono ?_ (by assumption) | refine IsE.mono ?_ (by assumption) | refine KC.mono ?_ (by assumption) | refine IsK.mono ?_ (by assumption)));first | done | assumption) (by (iterate 30 (try first | assumption | refine IsNat.mono ?_ (by assumption) | refine IsRef.mono ?_ (by assumption) | refine Ws.mono ?_ (by assumption) | refine Tb.mono ?_ (by assumption) | refine IsFr.mono ?_ (by assumption) | refine IsQ.mono ?_ (by assumption) | refine IsRat.mono ?_ (by assumption) | refine IsVal.mono ?_ (by assumption) | refine IsTxt.mono ?_ (by assumption) | refine IsNum.mono ?_ (by assumption) | refine IsP.mono ?_ (by assumption) | refine Whs.mono ?_ (by assumption) | refine Toks.mono ?_ (by assumption) | refine IsE.mono ?_ (by assumption) | refine KC.mono ?_ (by assumption) | refine IsK.mono ?_ (by assumption)));first | done | assumption)) (fun v h' hl2 hr=>?_);subst hr)) | ((first | refine opsI.step ?_ | refine codeI.step ?_)) | refine ⟨fun _=>HasLe.of_le (Heap.le_refl _),?_⟩ | refine ⟨fun _=>HasLe.of_le (by assumption),?_⟩ | refine ⟨fun _=>HasLe.cons _,?_⟩ | refine ⟨fun hst=>(by cases (show true=false from hst)),?_⟩ | intro (_:Nat) | (show WrapN _ _ _;first | refine WrapN.i64 (by omega) (by omega) ?_ | refine WrapN.u64 (by omega) (by omega) ?_ | refine WrapN.u32 (by omega) (by omega) ?_ | refine WrapN.u8 (by omega) (by omega) ?_) | (show LdN _ _ _ _ _;first | refine LdN.own 0 rfl rfl ?_ | refine LdN.own 1 rfl rfl ?_ | refine LdN.own 2 rfl rfl ?_ | refine LdN.own 3 rfl rfl ?_ | refine LdN.own 4 rfl rfl ?_ | refine LdN.own 5 rfl rfl ?_ | refine LdN.own 6 rfl rfl ?_ | refine LdN.own 7 rfl rfl ?_ | refine LdN.own 8 rfl rfl ?_ | refine LdN.own 9 rfl rfl ?_ | refine LdN.own 10 rfl rfl ?_ | refine LdN.own 11 rfl rfl ?_ | refine LdN.own 12 rfl rfl ?_ | refine LdN.own 13 rfl rfl ?_ | refine LdN.own 14 rfl rfl ?_ | refine LdN.own 15 rfl rfl ?_ | refine LdN.own 16 rfl rfl ?_ | refine LdN.own 17 rfl rfl ?_ | refine LdN.own 18 rfl rfl ?_ | refine LdN.own 19 rfl rfl ?_ | refine LdN.own 20 rfl rfl ?_ | refine LdN.own 21 rfl rfl ?_ | refine LdN.own 22 rfl rfl ?_ | refine LdN.own 23 rfl rfl ?_ | refine LdN.own 24 rfl rfl ?_ | refine LdN.own 25 rfl rfl ?_ | refine LdN.own 26 rfl rfl ?_ | refine LdN.own 27 rfl rfl ?_) | (show Ld _ _ _ _;first | refine Ld.own 0 rfl rfl ?_ | refine Ld.own 1 rfl rfl ?_ | refine Ld.own 2 rfl rfl ?_ | refine Ld.own 3 rfl rfl ?_ | refine Ld.own 4 rfl rfl ?_ | refine Ld.own 5 rfl rfl ?_ | refine Ld.own 6 rfl rfl ?_ | refine Ld.own 7 rfl rfl ?_ | refine Ld.own 8 rfl rfl ?_ | refine Ld.own 9 rfl rfl ?_) | (show Sto _ _ _ _;first | refine Sto.lit 0 rfl rfl rfl ?_ | refine Sto.lit 1 rfl rfl rfl ?_ | refine Sto.lit 2 rfl rfl rfl ?_ | refine Sto.lit 3 rfl rfl rfl ?_ | refine Sto.lit 4 rfl rfl rfl ?_ | refine Sto.lit 5 rfl rfl rfl ?_ | refine Sto.lit 6 rfl rfl rfl ?_ | refine Sto.lit 7 rfl rfl rfl ?_ | refine Sto.lit 8 rfl rfl rfl ?_ | refine Sto.lit 9 rfl rfl rfl ?_ | refine Sto.lit 10 rfl rfl rfl ?_) | refine DrawN.run (by decide +kernel) ?_) <;> (conv=>whnf)) | (show cnd _ _ _;first | (refine cnd_lt (fun _=>?_) (fun _=>?_) <;> first | (exfalso;omega) | (conv=>whnf)) | (refine cnd_le (fun _=>?_) (fun _=>?_) <;> first | (exfalso;omega) | (conv=>whnf)) | (refine cnd_eq (fun _=>?_) (fun _=>?_) <;> first | (exfalso;omega) | (conv=>whnf)) | (refine cnd_not ?_) | (refine cnd_beq (fun _=>?_) (fun hne=>?_) <;> first | exact absurd rfl hne | (conv=>whnf)) | (refine cnd_dec (fun _=>?_) (fun _=>?_) <;> first | (exfalso;omega) | (conv=>whnf)) | (refine cnd_bool (fun hb=>?_) (fun hb=>?_) <;> (first | cases hb | subst hb) <;> (conv=>whnf)) | (refine cnd_bool (fun _=>?_) (fun _=>?_) <;> (conv=>whnf))) | (refine Both.mk ?_ ?_ <;> (conv=>whnf))
 all_goals first
  | (rw [r2 (fun x=>by have:=hv.2 x;omega)];exact RetN.all rfl)
  | (have x:=hv.1 (by omega);rw [r1 x,← hz x];exact RetN.all rfl)
set_option maxRecDepth 20000 in
theorem RSize_ct (t:Tr) (h:Heap) (vs:List Value) (w:IsE h vs t):Fn0 T F.ref04_Size [.agg vs.toArray] h fun v h'=>v=.tuple #[.int .i64 (sizX t).1,.int .i64 (sizX t).2]:=by
 have c1:=fun h w=>RValid_ct t h vs w
 have c2:=fun h w (x:ValT t)=>RCount_ct t 1 x.1 x.2 h vs w
 have r1:ValT t→sizX t=(szT t,0):=fun x=>if_pos x
 have r2:¬ValT t→sizX t=(0,40):=fun x=>if_neg x
 obtain ⟨⟨op,arg,neg,l,m,name,ks⟩,ht⟩:∃x,x=t:=⟨_,rfl⟩
 obtain ⟨a,b,s,hvs,-⟩:=(ht.symm▸w:IsE h vs (.mk op arg neg l m name ks)).isK
 subst hvs
 refine fn0_of_codeI ok D.ref04_Size rfl ?_
 conv=>whnf
 repeat ((first | refine opsI.step ?_ | refine codeI.step ?_);conv=>whnf)
 repeat' first | ((first | (show SeqN _ _ _ _ _ _ _;refine SeqN.go ?_) | (show CallN _ _ _ _ _ _;first | (refine CallN.fn rfl (c1 _ (by (iterate 30 (try first | assumption | refine IsNat.mono ?_ (by assumption) | refine IsRef.mono ?_ (by assumption) | refine Ws.mono ?_ (by assumption) | refine Tb.mono ?_ (by assumption) | refine IsFr.mono ?_ (by assumption) | refine IsQ.mono ?_ (by assumption) | refine IsRat.mono ?_ (by assumption) | refine IsVal.mono ?_ (by assumption) | refine IsTxt.mono ?_ (by assumption) | refine IsNum.mono ?_ (by assumption) | refine IsP.mono ?_ (by assumption) | refine Whs.mono ?_ (by assumption) | refine Toks.mono ?_ (by assumption) | refine IsE.mono ?_ (by assumption) | refine KC.mono ?_ (by assumption) | refine IsK.mono ?_ (by assumption)));first | done | assumption)) (fun v h' hl2 hr=>?_);subst hr) | (refine CallN.fn rfl (c2 _ (by (iterate 30 (try first | assumption | refine IsNat.mono ?_ (by assumption) | refine IsRef.mono ?_ (by assumption) | refine Ws.mono ?_ (by assumption) | refine Tb.mono ?_ (by assumption) | refine IsFr.mono ?_ (by assumption) | refine IsQ.mono ?_ (by assumption) | refine IsRat.mono ?_ (by assumption) | refine IsVal.mono ?_ (by assumption) | refine IsTxt.mono ?_ (by assumption) | refine IsNum.mono ?_ (by assumption) | refine IsP.mono ?_ (by assumption) | refine Whs.mono ?_ (by assumption) | refine Toks.mono ?_ (by assumption) | refine IsE.mono ?_ (by assumption) | refine KC.mono ?_ (by assumption) | refine IsK.mono ?_ (by assumption)));first | done | assumption) (by assumption)) (fun v h' hl2 hr=>?_);subst hr)) | ((first | refine opsI.step ?_ | refine codeI.step ?_)) | refine ⟨fun _=>HasLe.of_le (Heap.le_refl _),?_⟩ | refine ⟨fun _=>HasLe.of_le (by assumption),?_⟩ | refine ⟨fun _=>HasLe.cons _,?_⟩ | refine ⟨fun hst=>(by cases (show true=false from hst)),?_⟩ | intro (_:Nat) | (show WrapN _ _ _;first | refine WrapN.i64 (by omega) (by omega) ?_ | refine WrapN.u64 (by omega) (by omega) ?_ | refine WrapN.u32 (by omega) (by omega) ?_ | refine WrapN.u8 (by omega) (by omega) ?_) | (show LdN _ _ _ _ _;first | refine LdN.own 0 rfl rfl ?_ | refine LdN.own 1 rfl rfl ?_ | refine LdN.own 2 rfl rfl ?_ | refine LdN.own 3 rfl rfl ?_ | refine LdN.own 4 rfl rfl ?_ | refine LdN.own 5 rfl rfl ?_ | refine LdN.own 6 rfl rfl ?_ | refine LdN.own 7 rfl rfl ?_ | refine LdN.own 8 rfl rfl ?_ | refine LdN.own 9 rfl rfl ?_ | refine LdN.own 10 rfl rfl ?_ | refine LdN.own 11 rfl rfl ?_ | refine LdN.own 12 rfl rfl ?_ | refine LdN.own 13 rfl rfl ?_ | refine LdN.own 14 rfl rfl ?_ | refine LdN.own 15 rfl rfl ?_ | refine LdN.own 16 rfl rfl ?_ | refine LdN.own 17 rfl rfl ?_ | refine LdN.own 18 rfl rfl ?_ | refine LdN.own 19 rfl rfl ?_ | refine LdN.own 20 rfl rfl ?_ | refine LdN.own 21 rfl rfl ?_ | refine LdN.own 22 rfl rfl ?_ | refine LdN.own 23 rfl rfl ?_ | refine LdN.own 24 rfl rfl ?_ | refine LdN.own 25 rfl rfl ?_ | refine LdN.own 26 rfl rfl ?_ | refine LdN.own 27 rfl rfl ?_) | (show Ld _ _ _ _;first | refine Ld.own 0 rfl rfl ?_ | refine Ld.own 1 rfl rfl ?_ | refine Ld.own 2 rfl rfl ?_ | refine Ld.own 3 rfl rfl ?_ | refine Ld.own 4 rfl rfl ?_ | refine Ld.own 5 rfl rfl ?_ | refine Ld.own 6 rfl rfl ?_ | refine Ld.own 7 rfl rfl ?_ | refine Ld.own 8 rfl rfl ?_ | refine Ld.own 9 rfl rfl ?_) | (show Sto _ _ _ _;first | refine Sto.lit 0 rfl rfl rfl ?_ | refine Sto.lit 1 rfl rfl rfl ?_ | refine Sto.lit 2 rfl rfl rfl ?_ | refine Sto.lit 3 rfl rfl rfl ?_ | refine Sto.lit 4 rfl rfl rfl ?_ | refine Sto.lit 5 rfl rfl rfl ?_ | refine Sto.lit 6 rfl rfl rfl ?_ | refine Sto.lit 7 rfl rfl rfl ?_ | refine Sto.lit 8 rfl rfl rfl ?_ | refine Sto.lit 9 rfl rfl rfl ?_ | refine Sto.lit 10 rfl rfl rfl ?_) | refine DrawN.run (by decide +kernel) ?_) <;> (conv=>whnf)) | (show cnd _ _ _;first | (refine cnd_lt (fun _=>?_) (fun _=>?_) <;> first | (exfalso;omega) | (conv=>whnf)) | (refine cnd_le (fun _=>?_) (fun _=>?_) <;> first | (exfalso;omega) | (conv=>whnf)) | (refine cnd_eq (fun _=>?_) (fun _=>?_) <;> first | (exfalso;omega) | (conv=>whnf)) | (refine cnd_not ?_) | (refine cnd_beq (fun _=>?_) (fun hne=>?_) <;> first | exact absurd rfl hne | (conv=>whnf)) | (refine cnd_dec (fun _=>?_) (fun _=>?_) <;> first | (exfalso;omega) | (conv=>whnf)) | (refine cnd_bool (fun hb=>?_) (fun hb=>?_) <;> (first | cases hb | subst hb) <;> (conv=>whnf)) | (refine cnd_bool (fun _=>?_) (fun _=>?_) <;> (conv=>whnf))) | (refine Both.mk ?_ ?_ <;> (conv=>whnf))
 all_goals first
  | (rw [r2 (by assumption)];exact RetN.all rfl)
  | (rw [r1 (by assumption)];exact RetN.all rfl)
set_option maxRecDepth 20000 in
theorem SmoothX_ct (t:Tr) (h:Heap) (vs:List Value) (tb:Tb h) (w:IsE h vs t):Fn0 T F.expr_Smooth [.agg vs.toArray] h fun v h'=>v=.tuple #[.bool (smX t).1,.int .i64 (smX t).2]:=by
 have c1:=fun h tb w=>Valid_ct t h vs tb w
 have c2:=fun h w (x:ValT t)=>smooth_ct t h vs w x.1
 have r1:ValT t→smX t=(dec (resT t=none),0):=fun x=>if_pos x
 have r2:¬ValT t→smX t=(false,40):=fun x=>if_neg x
 obtain ⟨⟨op,arg,neg,l,m,name,ks⟩,ht⟩:∃x,x=t:=⟨_,rfl⟩
 obtain ⟨a,b,s,hvs,-⟩:=(ht.symm▸w:IsE h vs (.mk op arg neg l m name ks)).isK
 subst hvs
 refine fn0_of_codeI ok D.expr_Smooth rfl ?_
 conv=>whnf
 repeat ((first | refine opsI.step ?_ | refine codeI.step ?_);conv=>whnf)
 repeat' first | ((first | (show SeqN _ _ _ _ _ _ _;refine SeqN.go ?_) | (show CallN _ _ _ _ _ _;first | (refine CallN.fn rfl (c1 _ (by (iterate 30 (try first | assumption | refine IsNat.mono ?_ (by assumption) | refine IsRef.mono ?_ (by assumption) | refine Ws.mono ?_ (by assumption) | refine Tb.mono ?_ (by assumption) | refine IsFr.mono ?_ (by assumption) | refine IsQ.mono ?_ (by assumption) | refine IsRat.mono ?_ (by assumption) | refine IsVal.mono ?_ (by assumption) | refine IsTxt.mono ?_ (by assumption) | refine IsNum.mono ?_ (by assumption) | refine IsP.mono ?_ (by assumption) | refine Whs.mono ?_ (by assumption) | refine Toks.mono ?_ (by assumption) | refine IsE.mono ?_ (by assumption) | refine KC.mono ?_ (by assumption) | refine IsK.mono ?_ (by assumption)));first | done | assumption) (by (iterate 30 (try first | assumption | refine IsNat.mono ?_ (by assumption) | refine IsRef.mono ?_ (by assumption) | refine Ws.mono ?_ (by assumption) | refine Tb.mono ?_ (by assumption) | refine IsFr.mono ?_ (by assumption) | refine IsQ.mono ?_ (by assumption) | refine IsRat.mono ?_ (by assumption) | refine IsVal.mono ?_ (by assumption) | refine IsTxt.mono ?_ (by assumption) | refine IsNum.mono ?_ (by assumption) | refine IsP.mono ?_ (by assumption) | refine Whs.mono ?_ (by assumption) | refine Toks.mono ?_ (by assumption) | refine IsE.mono ?_ (by assumption) | refine KC.mono ?_ (by assumption) | refine IsK.mono ?_ (by assumption)));first | done | assumption)) (fun v h' hl2 hr=>?_);subst hr) | (refine CallN.fn rfl (c2 _ (by (iterate 30 (try first | assumption | refine IsNat.mono ?_ (by assumption) | refine IsRef.mono ?_ (by assumption) | refine Ws.mono ?_ (by assumption) | refine Tb.mono ?_ (by assumption) | refine IsFr.mono ?_ (by assumption) | refine IsQ.mono ?_ (by assumption) | refine IsRat.mono ?_ (by assumption) | refine IsVal.mono ?_ (by assumption) | refine IsTxt.mono ?_ (by assumption) | refine IsNum.mono ?_ (by assumption) | refine IsP.mono ?_ (by assumption) | refine Whs.mono ?_ (by assumption) | refine Toks.mono ?_ (by assumption) | refine IsE.mono ?_ (by assumption) | refine KC.mono ?_ (by assumption) | refine IsK.mono ?_ (by assumption)));first | done | assumption) (by assumption)) (fun v h' hl2 hr=>?_);obtain ⟨rfl,rfl⟩:=hr;clear hl2)) | ((first | refine opsI.step ?_ | refine codeI.step ?_)) | refine ⟨fun _=>HasLe.of_le (Heap.le_refl _),?_⟩ | refine ⟨fun _=>HasLe.of_le (by assumption),?_⟩ | refine ⟨fun _=>HasLe.cons _,?_⟩ | refine ⟨fun hst=>(by cases (show true=false from hst)),?_⟩ | intro (_:Nat) | (show WrapN _ _ _;first | refine WrapN.i64 (by omega) (by omega) ?_ | refine WrapN.u64 (by omega) (by omega) ?_ | refine WrapN.u32 (by omega) (by omega) ?_ | refine WrapN.u8 (by omega) (by omega) ?_) | (show LdN _ _ _ _ _;first | refine LdN.own 0 rfl rfl ?_ | refine LdN.own 1 rfl rfl ?_ | refine LdN.own 2 rfl rfl ?_ | refine LdN.own 3 rfl rfl ?_ | refine LdN.own 4 rfl rfl ?_ | refine LdN.own 5 rfl rfl ?_ | refine LdN.own 6 rfl rfl ?_ | refine LdN.own 7 rfl rfl ?_ | refine LdN.own 8 rfl rfl ?_ | refine LdN.own 9 rfl rfl ?_ | refine LdN.own 10 rfl rfl ?_ | refine LdN.own 11 rfl rfl ?_ | refine LdN.own 12 rfl rfl ?_ | refine LdN.own 13 rfl rfl ?_ | refine LdN.own 14 rfl rfl ?_ | refine LdN.own 15 rfl rfl ?_ | refine LdN.own 16 rfl rfl ?_ | refine LdN.own 17 rfl rfl ?_ | refine LdN.own 18 rfl rfl ?_ | refine LdN.own 19 rfl rfl ?_ | refine LdN.own 20 rfl rfl ?_ | refine LdN.own 21 rfl rfl ?_ | refine LdN.own 22 rfl rfl ?_ | refine LdN.own 23 rfl rfl ?_ | refine LdN.own 24 rfl rfl ?_ | refine LdN.own 25 rfl rfl ?_ | refine LdN.own 26 rfl rfl ?_ | refine LdN.own 27 rfl rfl ?_) | (show Ld _ _ _ _;first | refine Ld.own 0 rfl rfl ?_ | refine Ld.own 1 rfl rfl ?_ | refine Ld.own 2 rfl rfl ?_ | refine Ld.own 3 rfl rfl ?_ | refine Ld.own 4 rfl rfl ?_ | refine Ld.own 5 rfl rfl ?_ | refine Ld.own 6 rfl rfl ?_ | refine Ld.own 7 rfl rfl ?_ | refine Ld.own 8 rfl rfl ?_ | refine Ld.own 9 rfl rfl ?_) | (show Sto _ _ _ _;first | refine Sto.lit 0 rfl rfl rfl ?_ | refine Sto.lit 1 rfl rfl rfl ?_ | refine Sto.lit 2 rfl rfl rfl ?_ | refine Sto.lit 3 rfl rfl rfl ?_ | refine Sto.lit 4 rfl rfl rfl ?_ | refine Sto.lit 5 rfl rfl rfl ?_ | refine Sto.lit 6 rfl rfl rfl ?_ | refine Sto.lit 7 rfl rfl rfl ?_ | refine Sto.lit 8 rfl rfl rfl ?_ | refine Sto.lit 9 rfl rfl rfl ?_ | refine Sto.lit 10 rfl rfl rfl ?_) | refine DrawN.run (by decide +kernel) ?_) <;> (conv=>whnf)) | (show cnd _ _ _;first | (refine cnd_lt (fun _=>?_) (fun _=>?_) <;> first | (exfalso;omega) | (conv=>whnf)) | (refine cnd_le (fun _=>?_) (fun _=>?_) <;> first | (exfalso;omega) | (conv=>whnf)) | (refine cnd_eq (fun _=>?_) (fun _=>?_) <;> first | (exfalso;omega) | (conv=>whnf)) | (refine cnd_not ?_) | (refine cnd_beq (fun _=>?_) (fun hne=>?_) <;> first | exact absurd rfl hne | (conv=>whnf)) | (refine cnd_dec (fun _=>?_) (fun _=>?_) <;> first | (exfalso;omega) | (conv=>whnf)) | (refine cnd_bool (fun hb=>?_) (fun hb=>?_) <;> (first | cases hb | subst hb) <;> (conv=>whnf)) | (refine cnd_bool (fun _=>?_) (fun _=>?_) <;> (conv=>whnf))) | (refine Both.mk ?_ ?_ <;> (conv=>whnf))
 all_goals first
  | (rw [r2 (by assumption)];exact RetN.all rfl)
  | (rw [r1 (by assumption)];exact RetN.all rfl)
set_option maxRecDepth 20000 in
theorem RSmooth_ct (t:Tr) (h:Heap) (vs:List Value) (w:IsE h vs t):Fn0 T F.ref04_Smooth [.agg vs.toArray] h fun v h'=>v=.tuple #[.bool (smX t).1,.int .i64 (smX t).2]:=by
 have c1:=fun h w=>RValid_ct t h vs w
 have c2:=fun h w (x:ValT t)=>rrough_ct t 1 x.1 trivial h vs w
 have r1:ValT t→smX t=(dec (resT t=none),0):=fun x=>if_pos x
 have r2:¬ValT t→smX t=(false,40):=fun x=>if_neg x
 obtain ⟨⟨op,arg,neg,l,m,name,ks⟩,ht⟩:∃x,x=t:=⟨_,rfl⟩
 obtain ⟨a,b,s,hvs,-⟩:=(ht.symm▸w:IsE h vs (.mk op arg neg l m name ks)).isK
 subst hvs
 refine fn0_of_codeI ok D.ref04_Smooth rfl ?_
 conv=>whnf
 repeat ((first | refine opsI.step ?_ | refine codeI.step ?_);conv=>whnf)
 repeat' first | ((first | (show SeqN _ _ _ _ _ _ _;refine SeqN.go ?_) | (show CallN _ _ _ _ _ _;first | (refine CallN.fn rfl (c1 _ (by (iterate 30 (try first | assumption | refine IsNat.mono ?_ (by assumption) | refine IsRef.mono ?_ (by assumption) | refine Ws.mono ?_ (by assumption) | refine Tb.mono ?_ (by assumption) | refine IsFr.mono ?_ (by assumption) | refine IsQ.mono ?_ (by assumption) | refine IsRat.mono ?_ (by assumption) | refine IsVal.mono ?_ (by assumption) | refine IsTxt.mono ?_ (by assumption) | refine IsNum.mono ?_ (by assumption) | refine IsP.mono ?_ (by assumption) | refine Whs.mono ?_ (by assumption) | refine Toks.mono ?_ (by assumption) | refine IsE.mono ?_ (by assumption) | refine KC.mono ?_ (by assumption) | refine IsK.mono ?_ (by assumption)));first | done | assumption)) (fun v h' hl2 hr=>?_);subst hr) | (refine CallN.fn rfl (c2 _ (by (iterate 30 (try first | assumption | refine IsNat.mono ?_ (by assumption) | refine IsRef.mono ?_ (by assumption) | refine Ws.mono ?_ (by assumption) | refine Tb.mono ?_ (by assumption) | refine IsFr.mono ?_ (by assumption) | refine IsQ.mono ?_ (by assumption) | refine IsRat.mono ?_ (by assumption) | refine IsVal.mono ?_ (by assumption) | refine IsTxt.mono ?_ (by assumption) | refine IsNum.mono ?_ (by assumption) | refine IsP.mono ?_ (by assumption) | refine Whs.mono ?_ (by assumption) | refine Toks.mono ?_ (by assumption) | refine IsE.mono ?_ (by assumption) | refine KC.mono ?_ (by assumption) | refine IsK.mono ?_ (by assumption)));first | done | assumption) (by assumption)) (fun v h' hl2 hr=>?_);subst hr)) | ((first | refine opsI.step ?_ | refine codeI.step ?_)) | refine ⟨fun _=>HasLe.of_le (Heap.le_refl _),?_⟩ | refine ⟨fun _=>HasLe.of_le (by assumption),?_⟩ | refine ⟨fun _=>HasLe.cons _,?_⟩ | refine ⟨fun hst=>(by cases (show true=false from hst)),?_⟩ | intro (_:Nat) | (show WrapN _ _ _;first | refine WrapN.i64 (by omega) (by omega) ?_ | refine WrapN.u64 (by omega) (by omega) ?_ | refine WrapN.u32 (by omega) (by omega) ?_ | refine WrapN.u8 (by omega) (by omega) ?_) | (show LdN _ _ _ _ _;first | refine LdN.own 0 rfl rfl ?_ | refine LdN.own 1 rfl rfl ?_ | refine LdN.own 2 rfl rfl ?_ | refine LdN.own 3 rfl rfl ?_ | refine LdN.own 4 rfl rfl ?_ | refine LdN.own 5 rfl rfl ?_ | refine LdN.own 6 rfl rfl ?_ | refine LdN.own 7 rfl rfl ?_ | refine LdN.own 8 rfl rfl ?_ | refine LdN.own 9 rfl rfl ?_ | refine LdN.own 10 rfl rfl ?_ | refine LdN.own 11 rfl rfl ?_ | refine LdN.own 12 rfl rfl ?_ | refine LdN.own 13 rfl rfl ?_ | refine LdN.own 14 rfl rfl ?_ | refine LdN.own 15 rfl rfl ?_ | refine LdN.own 16 rfl rfl ?_ | refine LdN.own 17 rfl rfl ?_ | refine LdN.own 18 rfl rfl ?_ | refine LdN.own 19 rfl rfl ?_ | refine LdN.own 20 rfl rfl ?_ | refine LdN.own 21 rfl rfl ?_ | refine LdN.own 22 rfl rfl ?_ | refine LdN.own 23 rfl rfl ?_ | refine LdN.own 24 rfl rfl ?_ | refine LdN.own 25 rfl rfl ?_ | refine LdN.own 26 rfl rfl ?_ | refine LdN.own 27 rfl rfl ?_) | (show Ld _ _ _ _;first | refine Ld.own 0 rfl rfl ?_ | refine Ld.own 1 rfl rfl ?_ | refine Ld.own 2 rfl rfl ?_ | refine Ld.own 3 rfl rfl ?_ | refine Ld.own 4 rfl rfl ?_ | refine Ld.own 5 rfl rfl ?_ | refine Ld.own 6 rfl rfl ?_ | refine Ld.own 7 rfl rfl ?_ | refine Ld.own 8 rfl rfl ?_ | refine Ld.own 9 rfl rfl ?_) | (show Sto _ _ _ _;first | refine Sto.lit 0 rfl rfl rfl ?_ | refine Sto.lit 1 rfl rfl rfl ?_ | refine Sto.lit 2 rfl rfl rfl ?_ | refine Sto.lit 3 rfl rfl rfl ?_ | refine Sto.lit 4 rfl rfl rfl ?_ | refine Sto.lit 5 rfl rfl rfl ?_ | refine Sto.lit 6 rfl rfl rfl ?_ | refine Sto.lit 7 rfl rfl rfl ?_ | refine Sto.lit 8 rfl rfl rfl ?_ | refine Sto.lit 9 rfl rfl rfl ?_ | refine Sto.lit 10 rfl rfl rfl ?_) | refine DrawN.run (by decide +kernel) ?_) <;> (conv=>whnf)) | (show cnd _ _ _;first | (refine cnd_lt (fun _=>?_) (fun _=>?_) <;> first | (exfalso;omega) | (conv=>whnf)) | (refine cnd_le (fun _=>?_) (fun _=>?_) <;> first | (exfalso;omega) | (conv=>whnf)) | (refine cnd_eq (fun _=>?_) (fun _=>?_) <;> first | (exfalso;omega) | (conv=>whnf)) | (refine cnd_not ?_) | (refine cnd_beq (fun _=>?_) (fun hne=>?_) <;> first | exact absurd rfl hne | (conv=>whnf)) | (refine cnd_dec (fun _=>?_) (fun _=>?_) <;> first | (exfalso;omega) | (conv=>whnf)) | (refine cnd_bool (fun hb=>?_) (fun hb=>?_) <;> (first | cases hb | subst hb) <;> (conv=>whnf)) | (refine cnd_bool (fun _=>?_) (fun _=>?_) <;> (conv=>whnf))) | (refine Both.mk ?_ ?_ <;> (conv=>whnf))
 all_goals first
  | (rw [r2 (by assumption)];exact RetN.all rfl)
  | (rw [r1 (by assumption)];exact RetN.all (by rw [Bool.not_not];rfl))
end Go.Proofs.YtbgicephinomlaaGreatDoor
/- The names of a tree's variables in ascending order: plain words, and the document's side. -/
namespace Go.Dig
open Go
def b8 (n:List Nat):List UInt8:=n.map UInt8.ofNat
def putL:List (List UInt8)→List UInt8→List (List UInt8)
 | [],x=>[x]
 | y::ys,x=>if y<x then y::putL ys x else if y=x then y::ys else x::y::ys
theorem putL_mem {z x:List UInt8}:∀{xs:List (List UInt8)},z∈putL xs x↔z∈xs∨z=x
 | []=>by simp [putL]
 | y::ys=>by
  unfold putL
  split
  ·rw [List.mem_cons,putL_mem,List.mem_cons,or_assoc]
  ·split
   ·rename_i h
    subst h
    exact ⟨.inl,fun h=>h.elim id fun e=>by rw [e];exact List.mem_cons_self⟩
   ·rw [List.mem_cons];exact Or.comm
theorem lt8_of {x y:List UInt8} (h:¬y<x) (hne:y≠x):x<y:=Decidable.byContradiction fun g=>hne (List.le_antisymm (List.not_lt.1 g) (List.not_lt.1 h))
abbrev Srt (xs:List (List UInt8)):Prop:=xs.Pairwise (· < ·)
theorem putL_srt {x:List UInt8}:∀{xs:List (List UInt8)},Srt xs→Srt (putL xs x)
 | [],_=>by simp [putL,Srt]
 | y::ys,h=>by
  have h':=List.pairwise_cons.1 h
  unfold putL
  split
  ·rename_i hyx
   refine List.pairwise_cons.2 ⟨fun z hz=>?_,putL_srt h'.2⟩
   rcases putL_mem.1 hz with hz | rfl
   ·exact h'.1 z hz
   ·exact hyx
  ·rename_i hyx
   split
   ·exact h
   ·rename_i hne
    have hxy:=lt8_of hyx hne
    refine List.pairwise_cons.2 ⟨fun z hz=>?_,h⟩
    rcases List.mem_cons.1 hz with rfl | hz
    ·exact hxy
    ·exact List.lt_trans hxy (h'.1 z hz)
theorem putL_len {x:List UInt8}:∀{xs:List (List UInt8)},(putL xs x).length≤xs.length+1
 | []=>by simp [putL]
 | y::ys=>by
  unfold putL
  have:=putL_len (x:=x) (xs:=ys)
  split
  ·simp only [List.length_cons];omega
  ·split <;> simp only [List.length_cons] <;> omega
theorem putL_at {x:List UInt8}:∀{xs:List (List UInt8)} {k:Nat},k≤xs.length→(∀i y,i<k→xs[i]?=some y→y<x)→(∀y,xs[k]?=some y→¬y<x)→putL xs x=if xs[k]?=some x then xs else xs.take k++(x::xs.drop k)
 | [],k,hk,_,_=>by
  obtain rfl:k=0:=by simpa using hk
  simp [putL]
 | y::ys,0,_,_,h2=>by
  have:=h2 y rfl
  unfold putL
  rw [if_neg this]
  simp
 | y::ys,k+1,hk,h1,h2=>by
  unfold putL
  rw [if_pos (h1 0 y (by omega) rfl),putL_at (k:=k) (by simpa using hk) (fun i z hi hz=>h1 (i+1) z (by omega) (by simpa using hz)) (fun z hz=>h2 z (by simpa using hz))]
  simp only [List.getElem?_cons_succ,List.take_succ_cons,List.drop_succ_cons,List.cons_append]
  split <;> rfl
def varsL (l:List (Int × List Nat)):List (List UInt8):=(l.filter fun x=>decide (x.1=2)).map fun x=>b8 x.2
theorem varsL_app (a b:List (Int × List Nat)):varsL (a++b)=varsL a++varsL b:=by unfold varsL;rw [List.filter_append,List.map_append]
theorem varsL_len (l:List (Int × List Nat)):(varsL l).length≤l.length:=by unfold varsL;rw [List.length_map];exact List.length_filter_le _ _
theorem foldP_len:∀(l xs:List (List UInt8)),(l.foldl putL xs).length≤xs.length+l.length
 | [],xs=>by simp
 | x::l,xs=>by
  have h1:=foldP_len l (putL xs x)
  have h2:=putL_len (x:=x) (xs:=xs)
  rw [List.foldl_cons,List.length_cons];omega
theorem foldP_srt:∀(l:List (List UInt8)) {xs:List (List UInt8)},Srt xs→Srt (l.foldl putL xs)
 | [],_,h=>h
 | _::l,_,h=>foldP_srt l (putL_srt h)
theorem foldP_mem {z:List UInt8}:∀(l xs:List (List UInt8)),z∈l.foldl putL xs↔z∈xs∨z∈l
 | [],xs=>by simp
 | x::l,xs=>by rw [List.foldl_cons,foldP_mem l,putL_mem,List.mem_cons,or_assoc]
end Go.Dig
namespace Go.Vc
open Go Go.Dig
def sv (x:List UInt8):Value:=.string ⟨x.toArray⟩
theorem blt_eq:∀x y:List UInt8,Op.bytesLess x y=decide (x<y)
 | [],[]=>by simp [Op.bytesLess]
 | _::_,[]=>by simp [Op.bytesLess]
 | [],_::_=>by simp [Op.bytesLess]
 | a::x,b::y=>by
  simp only [Op.bytesLess,blt_eq x y,List.cons_lt_cons_iff]
  by_cases h2:a=b
  ·by_cases h1:a<b <;> simp [h1,h2]
  ·by_cases h1:a<b <;> simp [h1,h2]
theorem toList_mk (x:List UInt8):(⟨x.toArray⟩:ByteArray).toList=x:=by rw [ByteArray.toList_eq]
theorem cnd_slt {x y:List UInt8} {p q:Prop} (hp:x<y→p) (hq:¬x<y→q):cnd (slt ⟨x.toArray⟩ ⟨y.toArray⟩) p q:=by
 unfold slt
 rw [toList_mk,toList_mk,blt_eq]
 by_cases h:x<y
 ·rw [decide_eq_true h];exact hp h
 ·rw [decide_eq_false h];exact hq h
theorem cnd_sv {x y:List UInt8} {p q:Prop} (hp:x=y→p) (hq:x≠y→q):cnd (seq ⟨x.toArray⟩ ⟨y.toArray⟩) p q:=by
 refine cnd_seq (fun h=>hp ?_) (fun h=>hq fun e=>h (by rw [e]))
 have:=congrArg ByteArray.toList h
 rwa [toList_mk,toList_mk] at this
theorem Idx.sv {h:Heap} {s:Sl} {xs:List (List UInt8)} (w:Rw h s 1 (xs.map Vc.sv)) {i:Int} {k:Addr→Prop} (j:Nat) (x:List UInt8) (hi:i=j) (hx:xs[j]?=some x) (hk:∀ad,(∀L,Has h L ad (Vc.sv x))→k ad):Idx s.a i s.l 1 k:=by
 have hj:=(List.getElem?_eq_some_iff.1 hx).1
 obtain ⟨b,off,c,T,fz,h1,h2,h3⟩:=w.mem (fun e=>by have:=congrArg List.length e;rw [List.length_map,List.length_nil] at this;omega)
 have hlen:=w.len
 rw [List.length_map] at hlen
 refine Idx.of j h1 hi (by omega) ?_
 rw [Nat.mul_one]
 refine hk _ fun L=>Has.imm h2 ?_
 rw [h3 j (by rw [List.length_map];exact hj),List.getElem?_map,hx];rfl
theorem Rw.front {h:Heap} {s:Sl} {cs:List Value} (w:Rw h s 1 cs) {i:Nat} (hi:i≤cs.length):Rw h ⟨s.a,i,s.c⟩ 1 (cs.take i):=by
 have h1:=w.len
 have h2:=w.cap
 refine ⟨by rw [List.length_take];show i*1=_;omega,by show i≤s.c;omega,fun hn=>?_⟩
 obtain ⟨b,off,c,T,fz,e1,e2,e3⟩:=w.mem (fun e=>hn (by rw [e,List.take_nil]))
 refine ⟨b,off,c,T,fz,e1,e2,fun j hj=>?_⟩
 rw [List.length_take] at hj
 rw [e3 j (by omega),List.getElem?_take]
 rw [if_pos (by omega)]
theorem Rw.back {h:Heap} {s:Sl} {cs:List Value} (w:Rw h s 1 cs) {q:Nat} (hq:q≤cs.length):Rw h ⟨(if s.c=q then s.a else s.a.map (·.add (q*1))),s.l-q,s.c-q⟩ 1 (cs.drop q):=by
 have h1:=w.len
 have h2:=w.cap
 refine ⟨by rw [List.length_drop];show (s.l-q)*1=_;omega,by show s.l-q≤s.c-q;omega,fun hn=>?_⟩
 have hlt:q<cs.length:=by
  by_cases e:q=cs.length
  ·exact absurd (by rw [e,List.drop_length]) hn
  ·omega
 obtain ⟨b,off,c,T,fz,e1,e2,e3⟩:=w.mem (fun e=>by subst e;simp at hlt)
 refine ⟨b,off+q,c,T,fz,?_,e2,fun j hj=>?_⟩
 ·show (if s.c=q then s.a else s.a.map (·.add (q*1)))=_
  rw [if_neg (by omega),e1]
  show some (Addr.add ⟨b,off,none⟩ (q*1))=_
  rw [add_lit,Nat.mul_one]
 ·rw [List.length_drop] at hj
  rw [Nat.add_assoc,e3 (q+j) (by omega),List.getElem?_drop]
theorem CutA.row {h:Heap} {s:Sl} {cs:List Value} (w:Rw h s 1 cs) {lo hi:Int} {k:Option Addr→Nat→Nat→Prop} (q:Nat) (hlo:lo=q) (hhi:hi=s.l) (hq:q≤cs.length) (hk:∀s':Sl,Rw h s' 1 (cs.drop q)→k s'.a s'.l s'.c):CutA s.a lo hi s.c 1 k:=by
 have h1:=w.len
 have h2:=w.cap
 exact ⟨q,s.l,_,_,_,hlo,hhi,by omega,by omega,rfl,rfl,rfl,hk _ (w.back hq)⟩
theorem App.row {T:Tab} {h0 h:Heap} {s:Value} {n bytes:Nat} {xs cs:List Value} {A F tl:Vc.Own} {t:Sl} {k:Value→Heap→Vc.Own→Prop} {z:List Value} {e:TypeId} (hi:T.inf e=some (z,bytes)) (hz:z.length=1) (hby:bytes≤16) (g:GrowS e 1 s n xs F) (w:Rw h0 t 1 cs) (hone:cs.all isOne=true) (hle:h0.le h) (hn:n+cs.length≤1048576)
  (hk:∀v' F',GrowS e 1 v' (n+cs.length) (xs++cs) F'→k v' h (A++(F'++tl))):App T e 1 bytes s t.val h (A++(F++tl)) k:=by
 obtain ⟨ta,tl',tc⟩:=t
 have hl:tl'*1=cs.length:=w.len
 obtain rfl:tl'=cs.length:=by omega
 by_cases hne:cs=[]
 ·subst hne
  have:=hk s F (by simpa using g)
  cases ta with
  | none=>exact App.nil hi (g.up A tl) this
  | some ad=>exact App.zero hi (g.up A tl) this
 ·obtain ⟨bl,off,c,T0,fz,e1,e2,e3⟩:=w.mem hne
  have e1':ta=some ⟨bl,off,none⟩:=e1
  subst e1'
  refine App.growK hi hz g ⟨bl,off,none⟩ cs.length tc cs (by omega) (fun j hj=>?_) hone (List.length_pos_iff.2 hne) (by omega) ?_ (by decide) hk
  ·rw [add_lit]
   refine Has.imm (hle _ _ e2) ?_
   rw [e3 j hj,List.getD_eq_getElem?_getD,List.getElem?_eq_getElem hj];rfl
  ·calc (n+cs.length)*bytes≤1048576*16:=Nat.mul_le_mul hn hby
    _≤140737488355328:=by decide
theorem sv_one:∀xs:List (List UInt8),(xs.map sv).all isOne=true
 | []=>rfl
 | _::xs=>by rw [List.map_cons,List.all_cons,sv_one xs];rfl
end Go.Vc
namespace Go.Proofs.YtbgicephinomlaaGreatDoor
open Go Go.Vc Go.Dig
def namesT (t:Tr):List (List UInt8):=(varsL (tagsT t)).foldl putL []
set_option maxRecDepth 20000 in
set_option maxHeartbeats 1000000 in
theorem put_ct (h:Heap) (s:Sl) (xs:List (List UInt8)) (x:List UInt8) (w:Rw h s 1 (xs.map sv)) (hn:xs.length≤1000):Fn0 T F.ref04_put [s.val,.string ⟨x.toArray⟩] h fun v h'=>∃s':Sl,v=s'.val∧Rw h' s' 1 ((putL xs x).map sv):=by
 have hlen:=w.len
 rw [List.length_map] at hlen
 have hcap:=w.cap
 have hat:=fun (k:Nat) (h1:k≤xs.length) h2 h3=>putL_at (x:=x) (xs:=xs) (k:=k) h1 h2 h3
 obtain ⟨P,hP⟩:∃P,P=putL xs x:=⟨_,rfl⟩
 rw [← hP] at hat ⊢
 clear hP
 replace hat:=Hq.mk hat
 refine fn0_of_codeI ok D.ref04_put rfl ?_
 conv=>whnf
 repeat ((first | refine opsI.step ?_ | refine codeI.step ?_);conv=>whnf)
 skip
 refine LoopN.keepL (fun r ρ hx=>∃j:Nat,r=xs.length-j∧j≤xs.length∧rd ρ 5=.int .i64 j∧Hq (∀i y,i<j→xs[i]?=some y→y<x)) xs.length ⟨0,rfl,Nat.zero_le _,rfl,⟨fun i t y=>absurd y (Nat.not_lt_zero _)⟩⟩ ?_
 conv=>whnf
 repeat intro _
 rename_i r hx hle hI
 obtain ⟨j,rfl,hj,e5,hq⟩:=hI
 conv at e5=>lhs;whnf
 subst e5
 have wx:=w.mono hle
 have hfr:=wx.front (i:=j) (by rw [List.length_map];exact hj)
 have l1:((xs.map sv).take j).length=j:=by rw [List.length_take,List.length_map];omega
 have l2:((xs.map sv).drop j).length=xs.length-j:=by rw [List.length_drop,List.length_map]
 have one1:((xs.map sv).take j).all isOne=true:=by rw [← List.map_take];exact sv_one _
 have one2:((xs.map sv).drop j).all isOne=true:=by rw [← List.map_drop];exact sv_one _
 have hfin:xs[j]?≠some x→(∀y,xs[j]?=some y→¬y<x)→[]++(xs.map sv).take j++[Value.string ⟨x.toArray⟩]++(xs.map sv).drop j=P.map sv:=fun h1 h2=>by
  rw [hat.out j hj hq.out h2,if_neg h1,List.map_append,List.map_take,List.map_cons,List.map_drop,List.nil_append,List.append_assoc];rfl
 have hfin2:xs[j]?=some x→(∀y,xs[j]?=some y→¬y<x)→xs=P:=fun h1 h2=>by
  rw [hat.out j hj hq.out h2,if_pos h1]
 replace hfin:=Hq.mk hfin
 replace hfin2:=Hq.mk hfin2
 obtain ⟨P1,hP1⟩:∃P1,P1=(xs.map sv).take j:=⟨_,rfl⟩
 obtain ⟨Q1,hQ1⟩:∃Q1,Q1=(xs.map sv).drop j:=⟨_,rfl⟩
 rw [← hP1] at l1 one1 hfr hfin
 rw [← hQ1] at l2 one2 hfin
 by_cases hjl:j=xs.length
 ·have hno:xs[j]?=none:=List.getElem?_eq_none (by omega)
  conv=>whnf
  repeat ((first | refine opsI.step ?_ | refine codeI.step ?_);conv=>whnf)
  repeat' first | ((first | (show CutA _ _ _ _ _ _;first | refine CutA.front j rfl (by omega) ?_ | (refine CutA.row wx j rfl (by omega) (by rw [List.length_map];omega) (fun sd hsd=>?_);rw [← hQ1] at hsd)) | (show App _ _ _ _ _ _ _ _ _;first | refine App.row (A:=[]) (F:=[]) (tl:=[]) (z:=[.string (txt [])]) (bytes:=16) rfl rfl (by decide) (GrowS.nil _ _ _) hfr one1 (Heap.le_refl _) (by omega) (fun v' F1 g1=>?_) | refine App.growK (A:=[_]) (F:=F1) (size:=1) (z:=[.string (txt [])]) (bytes:=16) rfl rfl g1 ⟨_,0,none⟩ 1 1 [_] rfl (Has.front _) rfl (by decide) (by omega) (by omega) (by decide) (fun v' F2 g2=>?_) | refine App.row (A:=[_]) (F:=F2) (tl:=[]) (z:=[.string (txt [])]) (bytes:=16) rfl rfl (by decide) g2 hsd one2 (Heap.le_refl _) (by omega) (fun v' F3 g3=>?_)) | ((first | refine opsI.step ?_ | refine codeI.step ?_)) | intro (_:Nat)) <;> (conv=>whnf)) | (refine cnd_lt (fun _=>?_) (fun _=>?_) <;> first | (exfalso;omega) | (conv=>whnf))
  refine RetN.growR (by decide) (g3.up [_] _) fun h'' s' hl hs hr=>⟨s',hs,?_⟩
  rw [hfin.out (by rw [hno];simp) (fun y e=>by rw [hno] at e;cases e)] at hr
  exact hr
 ·obtain ⟨y,hy⟩:∃y,xs[j]?=some y:=⟨_,List.getElem?_eq_getElem (by omega)⟩
  have step:y<x→∀i z,i<j+1→xs[i]?=some z→z<x:=fun g i z hi hz=>by
   by_cases e:i=j
   ·subst e;rw [hy] at hz;cases hz;exact g
   ·exact hq.out i z (by omega) hz
  have stay:¬y<x→∀z,xs[j]?=some z→¬z<x:=fun g z hz=>by rw [hy] at hz;cases hz;exact g
  replace step:=Hq.mk step
  replace stay:=Hq.mk stay
  conv=>whnf
  repeat ((first | refine opsI.step ?_ | refine codeI.step ?_);conv=>whnf)
  repeat' first | ((first | (show CutA _ _ _ _ _ _;first | refine CutA.front j rfl (by omega) ?_ | (refine CutA.row wx j rfl (by omega) (by rw [List.length_map];omega) (fun sd hsd=>?_);rw [← hQ1] at hsd)) | (show App _ _ _ _ _ _ _ _ _;first | refine App.row (A:=[]) (F:=[]) (tl:=[]) (z:=[.string (txt [])]) (bytes:=16) rfl rfl (by decide) (GrowS.nil _ _ _) hfr one1 (Heap.le_refl _) (by omega) (fun v' F1 g1=>?_) | refine App.growK (A:=[_]) (F:=F1) (size:=1) (z:=[.string (txt [])]) (bytes:=16) rfl rfl g1 ⟨_,0,none⟩ 1 1 [_] rfl (Has.front _) rfl (by decide) (by omega) (by omega) (by decide) (fun v' F2 g2=>?_) | refine App.row (A:=[_]) (F:=F2) (tl:=[]) (z:=[.string (txt [])]) (bytes:=16) rfl rfl (by decide) g2 hsd one2 (Heap.le_refl _) (by omega) (fun v' F3 g3=>?_)) | (show Idx _ _ _ _ _;refine Idx.sv wx j y (by omega) hy (fun ad hv=>?_)) | (show Ld _ _ _ _;(refine Ld.of (by first | exact hv _ | (rename_i hv;exact hv _)) ?_)) | ((first | refine opsI.step ?_ | refine codeI.step ?_)) | intro (_:Nat) | refine WrapN.i64 (by omega) (by omega) ?_) <;> (conv=>whnf)) | (show cnd _ _ _;first | (refine cnd_slt (fun hlt=>?_) (fun hlt=>?_) <;> (conv=>whnf)) | (refine cnd_sv (fun hxy=>?_) (fun hxy=>?_) <;> (conv=>whnf)) | (refine cnd_lt (fun _=>?_) (fun _=>?_) <;> first | (exfalso;omega) | (conv=>whnf)))
  all_goals first
   | exact ⟨rfl,xs.length-(j+1),by omega,(by assumption),rfl,j+1,rfl,by omega,vi (by omega),⟨step.out (by assumption)⟩⟩
   | (refine RetN.all ⟨s,rfl,?_⟩;rw [← hfin2.out (by rw [hy,hxy]) (stay.out (by assumption))];exact wx)
   | (refine RetN.growR (by decide) (g3.up [_] _) fun h'' s' hl hs hr=>⟨s',hs,?_⟩;rw [hfin.out (by rw [hy];exact fun e=>hxy (Option.some.inj e)) (stay.out (by assumption))] at hr;exact hr)
theorem varsL_cons (op:Int) (name:List Nat) (r:List (Int × List Nat)):varsL ((op,name)::r)=(if op=2 then [b8 name] else [])++varsL r:=by
 unfold varsL
 by_cases h:op=2
 ·rw [if_pos h,List.filter_cons_of_pos (by simpa using h)];rfl
 ·rw [if_neg h,List.filter_cons_of_neg (by simpa using h)];rfl
set_option maxRecDepth 20000 in
set_option maxHeartbeats 1000000 in
theorem Names_ct:∀(t:Tr) (d:Nat),okT d t→∀(h:Heap) (vs:List Value) (s:Sl) (xs:List (List UInt8)),IsE h vs t→Rw h s 1 (xs.map sv)→xs.length+szT t≤1000→
  Fn0 T F.ref04_Names [.agg vs.toArray,s.val] h fun v h'=>∃s':Sl,v=s'.val∧Rw h' s' 1 (((varsL (tagsT t)).foldl putL xs).map sv):=by
 refine tree_ind fun t ih=>?_
 intro d hok h vs s0 xs w wr hsz
 obtain ⟨op,arg,neg,l,m,name,ks⟩:=t
 obtain ⟨a,b,s,rfl,ho,ha,hv,hb,hk⟩:=w.isK
 rw [okT] at hok
 obtain ⟨hd,hnb,hoks⟩:=hok
 have hkl:=hk.len
 have hkc:=hk.cap
 have hn1:=hnb.1
 have hks:ks.length≤3:=by
  have h2:=kidsN_le op
  omega
 rw [szT] at hsz
 have f2:op=2→(varsL (tagsT (.mk op arg neg l m name ks))).foldl putL xs=putL xs (b8 name):=fun e=>by
  have h0:ks=[]:=List.eq_nil_of_length_eq_zero (by rw [e,show kidsN 2=0 from rfl] at hn1;omega)
  rw [tagsT,varsL_cons,if_pos e,h0,tagsTs];rfl
 have f1:op≠2→varsL (tagsT (.mk op arg neg l m name ks))=varsL (tagsTs ks):=fun e=>by rw [tagsT,varsL_cons,if_neg e];rfl
 obtain ⟨G,hG⟩:∃G:Nat→List (List UInt8),G=fun j=>(varsL (tagsTs (ks.take j))).foldl putL xs:=⟨_,rfl⟩
 have g0:xs=G 0:=by rw [hG];show xs=(varsL (tagsTs (ks.take 0))).foldl putL xs;rw [List.take_zero,tagsTs];rfl
 have g1:op≠2→G ks.length=(varsL (tagsT (.mk op arg neg l m name ks))).foldl putL xs:=fun e=>by rw [f1 e,hG];show (varsL (tagsTs (ks.take ks.length))).foldl putL xs=_;rw [List.take_length]
 have g2:∀j t,ks[j]?=some t→G (j+1)=(varsL (tagsT t)).foldl putL (G j):=fun j t e=>by
  rw [hG]
  show (varsL (tagsTs (ks.take (j+1)))).foldl putL xs=(varsL (tagsT t)).foldl putL ((varsL (tagsTs (ks.take j))).foldl putL xs)
  rw [take_snoc e,tagsTs_append,tagsTs,tagsTs,List.append_nil,varsL_app,List.foldl_append]
 have g3:∀j t,ks[j]?=some t→(G j).length+szT t≤1000:=fun j t e=>by
  have h1:=foldP_len (varsL (tagsTs (ks.take j))) xs
  have h2:=varsL_len (tagsTs (ks.take j))
  have h3:=tagsTs_len (ks.take j)
  have e1:=congrArg szTs (take_tail e)
  rw [szTs_append,szTs] at e1
  rw [hG]
  show ((varsL (tagsTs (ks.take j))).foldl putL xs).length+szT t≤1000
  omega
 obtain ⟨R,hR⟩:∃R,R=(varsL (tagsT (.mk op arg neg l m name ks))).foldl putL xs:=⟨_,rfl⟩
 rw [← hR] at f2 g1 ⊢
 clear hR f1 hG
 have c0:=fun h w=>put_ct h s0 xs (b8 name) w (by omega)
 replace g1:=Hq.mk g1
 replace f2:=Hq.mk f2
 refine fn0_of_codeI ok D.ref04_Names rfl ?_
 conv=>whnf
 repeat ((first | refine opsI.step ?_ | refine codeI.step ?_);conv=>whnf)
 repeat' first | ((first | (show CallN _ _ _ _ _ _;(refine CallN.fn rfl (c0 _ (by first | exact wr | exact wr.mono (by assumption))) (fun v h' hl2 hr=>?_);obtain ⟨s1,rfl,hs1⟩:=hr)) | ((first | refine opsI.step ?_ | refine codeI.step ?_)) | intro (_:Nat) | refine Ld.own 0 rfl rfl ?_) <;> (conv=>whnf)) | (refine cnd_eq (fun _=>?_) (fun _=>?_) <;> first | (exfalso;omega) | (conv=>whnf))
 ·rw [f2.out (by assumption)]
  exact RetN.all ⟨_,rfl,hs1⟩
 refine LoopN.keepL (fun r ρ hx=>∃(j:Nat) (s1:Sl),r=ks.length-j∧j≤ks.length∧rd ρ 5=.int .i64 j∧rd ρ 1=s1.val∧Rw hx s1 1 ((G j).map sv)) ks.length ⟨0,s0,rfl,Nat.zero_le _,rfl,rfl,by rw [← g0];exact wr⟩ ?_
 conv=>whnf
 repeat intro _
 rename_i r hx hle hI
 obtain ⟨j,s1,rfl,hj,e5,e1,hs1⟩:=hI
 conv at e5=>lhs;whnf
 subst e5
 conv at e1=>lhs;whnf
 subst e1
 have hkx:=hk.mono hle
 by_cases hjl:j=ks.length
 ·subst hjl
  conv=>whnf
  repeat ((first | refine opsI.step ?_ | refine codeI.step ?_);conv=>whnf)
  repeat' first | ((first | ((first | refine opsI.step ?_ | refine codeI.step ?_)) | refine Ld.own 0 rfl rfl ?_) <;> (conv=>whnf)) | (refine cnd_lt (fun _=>?_) (fun _=>?_) <;> first | (exfalso;omega) | (conv=>whnf))
  rw [← g1.out (by assumption)]
  exact RetN.all ⟨_,rfl,hs1⟩
 ·obtain ⟨t,het⟩:∃t,ks[j]?=some t:=⟨_,List.getElem?_eq_getElem (by omega)⟩
  have c2:=fun h vs w wr=>ih t (szT_kid het) (d+1) (okTs_get hoks het) h vs s1 (G j) w wr (g3 j t het)
  rw [← g2 j t het] at c2
  conv=>whnf
  repeat ((first | refine opsI.step ?_ | refine codeI.step ?_);conv=>whnf)
  repeat' first | ((first | (show Idx _ _ _ _ _;refine Idx.kid hkx j t (by omega) het (fun ad op2 arg2 neg2 a2 b2 name2 s2 hE hld=>?_)) | refine hld _ _ _ (Heap.le_refl _) ?_ | ((first | refine opsI.step ?_ | refine codeI.step ?_)) | (show CallN _ _ _ _ _ _;(refine CallN.fn rfl (c2 _ _ hE hs1) (fun v h' hl2 hr=>?_);obtain ⟨s3,rfl,hs3⟩:=hr)) | refine WrapN.i64 (by omega) (by omega) ?_ | refine Ld.own 0 rfl rfl ?_) <;> (conv=>whnf)) | (refine cnd_lt (fun _=>?_) (fun _=>?_) <;> first | (exfalso;omega) | (conv=>whnf))
  exact ⟨rfl,ks.length-(j+1),by omega,(by (iterate 30 (try first | assumption | refine Heap.le_trans ?_ (by assumption)));first | done | assumption),rfl,j+1,s3,rfl,by omega,vi (by omega),rfl,hs3⟩
end Go.Proofs.YtbgicephinomlaaGreatDoor