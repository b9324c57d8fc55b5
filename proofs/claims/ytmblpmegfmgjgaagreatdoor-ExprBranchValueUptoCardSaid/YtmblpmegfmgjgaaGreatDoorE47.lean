/- Rows of kids copied, cut and turned; with, replaced (one kid). -/
import Derived.Test.YtmblpmegfmgjgaaGreatDoorE37
import Derived.Test.YtmblpmegfmgjgaaGreatDoorE42
set_option linter.unusedVariables false
set_option linter.unusedSimpArgs false
namespace Go.Vc
open Go Go.Dig
theorem App.zero {T:Tab} {e:TypeId} {size bytes:Nat} {s:Value} {h:Heap} {L:Vc.Own} {k:Value→Heap→Vc.Own→Prop} {z:List Value} {n:Nat} {xs:List Value}
  {c:Nat} {ad:Addr} (hi:T.inf e=some (z,bytes)) (g:GrowS e size s n xs L) (hk:k s h L):App T e size bytes s (.slice (some ad) 0 c) h L k:=by
 refine ⟨fun ok o ρ K Q w0 h0 L0 w ty cc hop hty hca hargs ht hsz2 hd inv hout hK=>?_⟩
 obtain ⟨d,hd1,hd2⟩:=hd
 obtain ⟨i,zv,h1,h2,h3,h4,h5⟩:=ok.inf _ _ _ hi
 have hexec:∀r,(Builtin.append_ #[cc.argTypes.getD 0 0,cc.argTypes.getD 0 0] o.type #[s,.slice (some ad) 0 c]).run T.prog w=r→(execOp ρ.eval o).run T.prog w=r.andThen fun v w=>.ok (.value v) w:=by
  intro r hr
  have he:cc.argTypes=#[cc.argTypes.getD 0 0,cc.argTypes.getD 1 0]:=by
   apply Array.ext
   ·simp [hsz2]
   ·intro j hj1 hj2
    rw [hsz2] at hj1
    match j,hj1 with
    | 0,_=>simp [Array.getD,hsz2]
    | 1,_=>simp [Array.getD,hsz2]
  rw [← hr,← append_types ht hd1 hd2,← he]
  simp only [execOp,hop,resolve,hca,invoke,builtin,Sem.run_bind,Sem.run_pure,Result.andThen_ok,hargs]
 refine .inl (wp_value (hexec (.ok s w) ?_) (hK _ _ _ _ inv hk))
 generalize cc.argTypes.getD 0 0=t at ht ⊢
 obtain ⟨gl,⟨rfl,rfl⟩ | ⟨j,b,cap,zs,rfl,hj,hnc,hlen⟩⟩:=g
 ·simp [Builtin.append_,run_underlying ht,sizeOf,typeInfo,h1,Builtin.lenOf,Builtin.firstCells,loadCells,loadCellsFrom]
 ·simp [Builtin.append_,run_underlying ht,sizeOf,typeInfo,h1,Builtin.lenOf,Builtin.firstCells,loadCells,loadCellsFrom,hnc,storeCells]
theorem GrowS.up {e:TypeId} {size:Nat} {v:Value} {n:Nat} {xs:List Value} {F:Vc.Own} (g:GrowS e size v n xs F) (A tl:Vc.Own):GrowS e size v n xs (A++(F++tl)):=by
 obtain ⟨g1,⟨rfl,rfl⟩ | ⟨i,b,cap,zs,rfl,h2,h3,h4⟩⟩:=g
 ·exact ⟨g1,.inl ⟨rfl,rfl⟩⟩
 ·have hlt:=(List.getElem?_eq_some_iff.1 h2).1
  exact ⟨g1,.inr ⟨A.length+i,b,cap,zs,rfl,by rw [List.getElem?_append_right (by omega),Nat.add_sub_cancel_left,List.getElem?_append_left hlt];exact h2,h3,h4⟩⟩
theorem GrowS.mk0 {e:TypeId} {size b:Nat}:GrowS e size (.slice (some ⟨b,0,Option.none⟩) 0 0) 0 [] [(b,.cells [].toArray e (0,0))]:=
 ⟨by simp,.inr ⟨0,b,0,[],rfl,rfl,Nat.le_refl _,by simp⟩⟩
theorem GrowS.pos {e:TypeId} {size:Nat} {v:Value} {n:Nat} {xs:List Value} {F:Vc.Own} (g:GrowS e size v n xs F) (hn:0<n):∃b cap,v=.slice (some ⟨b,0,Option.none⟩) n cap:=by
 obtain ⟨g1,⟨rfl,rfl⟩ | ⟨i,b,cap,zs,rfl,h2,h3,h4⟩⟩:=g
 ·omega
 ·exact ⟨b,cap,rfl⟩
theorem setsL_eq:∀(vs l:List Value) (o:Nat),o+vs.length≤l.length→setsL vs l o=l.take o++vs++l.drop (o+vs.length)
 | [],l,o,_=>by simp [setsL]
 | v::vs,l,o,h=>by
  rw [List.length_cons] at h
  rw [setsL,setsL_eq vs (l.set o v) (o+1) (by rw [List.length_set];omega)]
  rw [List.take_set,List.drop_set_of_lt (by omega),List.length_cons,show o+1+vs.length=o+(vs.length+1) by omega]
  have:(List.take (o+1) l).set o v=l.take o++[v]:=by
   rw [List.take_add_one,List.getElem?_eq_getElem (by omega)]
   rw [List.set_append_right _ _ (by rw [List.length_take];omega)]
   simp [List.length_take,Nat.min_eq_left (show o≤l.length by omega)]
  rw [this];simp
theorem Sto.grow {e:TypeId} {size:Nat} {v:Value} {n:Nat} {xs:List Value} {A F tl:Vc.Own} {b cap:Nat} {ws:List Value} {k:Vc.Own→Prop} (g:GrowS e size v n xs F) (hv:v=.slice (some ⟨b,0,none⟩) n cap) (hw:ws.length=size) (ho:ws.all isOne=true)
  (i:Nat) (hi:i<n) (hk:∀F',GrowS e size v n (xs.take (i*size)++ws++xs.drop (i*size+size)) F'→k (A++(F'++tl))):Sto (A++(F++tl)) ⟨b,0+i*size,none⟩ ws k:=by
 obtain ⟨g1,⟨rfl,rfl⟩ | ⟨j,b',cap',zs,rfl,h2,h3,h4⟩⟩:=g
 ·cases hv
 ·cases hv
  have hlt:=(List.getElem?_eq_some_iff.1 h2).1
  have hle:i*size+size≤xs.length:=by
   rw [g1]
   calc i*size+size=(i+1)*size:=by rw [Nat.add_mul,Nat.one_mul]
    _≤n*size:=Nat.mul_le_mul_right _ hi
  have hle2:i*size+size≤(xs++zs).length:=by rw [List.length_append];omega
  refine ⟨rfl,A.length+j,(xs++zs).toArray,e,?_,?_,ho,?_⟩
  ·rw [List.getElem?_append_right (by omega),Nat.add_sub_cancel_left,List.getElem?_append_left hlt];exact h2
  ·rw [Nat.zero_add,hw];simpa using hle2
  ·rw [List.set_append_right _ _ (by omega),Nat.add_sub_cancel_left,List.set_append_left _ _ hlt]
   refine hk _ ⟨?_,.inr ⟨j,b,cap,zs,rfl,?_,h3,?_⟩⟩
   ·rw [List.length_append,List.length_append,List.length_take,List.length_drop,hw];omega
   ·rw [List.getElem?_set_self hlt,setMany_eq,Nat.zero_add,setsL_eq _ _ _ (by rw [hw];exact hle2),hw,List.take_append_of_le_length (show i*size≤xs.length by omega),List.drop_append_of_le_length hle];simp only [List.append_assoc]
   ·rw [← h4,List.length_append,List.length_append,List.length_append,List.length_append,List.length_take,List.length_drop,hw];omega
end Go.Vc
namespace Go.Proofs.YtmblpmegfmgjgaaGreatDoor
open Go Go.Vc Go.Dig
theorem IsKs.kc {h:Heap} {c:Array Value}:∀{ts:List Tr} {off:Nat},IsKs h c off ts→∃xs,KC h xs ts∧∀(j:Nat) v,xs[j]?=some v→c[off+j]?=some v
 | [],_,_=>⟨[],rfl,fun j v h=>by simp at h⟩
 | t::ts,off,w=>by
  rw [IsKs] at w
  obtain ⟨⟨vs,h1,h2,h3⟩,r⟩:=w
  obtain ⟨ys,k,hy⟩:=IsKs.kc r
  refine ⟨vs++ys,⟨vs,ys,rfl,h1,h3,k⟩,fun j v hv=>?_⟩
  by_cases hj:j<7
  ·rw [List.getElem?_append_left (by omega)] at hv
   rw [h2 j hj,hv]
  ·rw [List.getElem?_append_right (by omega),h1] at hv
   have:=hy _ _ hv
   rw [show off+7+(j-7)=off+j by omega] at this
   exact this
theorem KC.one {h:Heap}:∀{ts:List Tr} {xs:List Value},KC h xs ts→xs.all isOne=true
 | [],xs,k=>by obtain rfl:xs=[]:=k;rfl
 | .mk op arg neg l m name ks::ts,xs,⟨vs,ys,e,l1,w,r⟩=>by
  obtain ⟨a,b,s,rfl,-⟩:=w.isK
  rw [e,List.all_append,KC.one r];rfl
theorem KC.turn {h:Heap} {t:Tr} {ws:List Value} (w:IsE h ws t) (hw:ws.length=7):∀{ts:List Tr} {xs:List Value} {i:Nat},KC h xs ts→i<ts.length→KC h (xs.take (i*7)++ws++xs.drop (i*7+7)) (ts.set i t)
 | u::ts,xs,0,⟨vs,ys,e,l1,w1,r⟩,_=>by
  subst e
  rw [Nat.zero_mul,Nat.zero_add,List.take_zero,List.nil_append,List.drop_append_of_le_length (by omega),List.drop_of_length_le (by omega),List.nil_append]
  exact ⟨ws,ys,rfl,hw,w,r⟩
 | u::ts,xs,i+1,⟨vs,ys,e,l1,w1,r⟩,hi=>by
  subst e
  have:=KC.turn w hw (i:=i) r (by simpa using hi)
  rw [List.set_cons_succ,show (i+1)*7=vs.length+i*7 by omega,List.take_length_add_append,show vs.length+i*7+7=vs.length+(i*7+7) by omega,List.drop_length_add_append,List.append_assoc,List.append_assoc]
  exact ⟨vs,_,rfl,l1,w1,by rw [← List.append_assoc];exact this⟩
theorem IsK.front {h:Heap} {s:Sl} {ks:List Tr} (w:IsK h s ks) {i:Nat} (hi:i≤ks.length):IsK h ⟨s.a,i,s.c⟩ (ks.take i):=by
 refine ⟨by rw [List.length_take];show i=_;omega,?_,?_⟩
 ·have h1:=w.len
  have h2:=w.cap
  show i≤s.c;omega
 ·rcases w.mem with e | ⟨bl,off,c,T,fz,e1,e2,e3⟩
  ·left;rw [e];simp
  ·right
   refine ⟨bl,off,c,T,fz,e1,e2,?_⟩
   have:∀{ts:List Tr} {off i:Nat},IsKs h c off ts→IsKs h c off (ts.take i):=by
    intro ts
    induction ts with
    | nil=>intro off i x;simpa using x
    | cons t ts ih=>
     intro off i x
     cases i with
     | zero=>rw [List.take_zero,IsKs];trivial
     | succ i=>
      rw [IsKs] at x
      rw [List.take_succ_cons,IsKs]
      exact ⟨x.1,ih x.2⟩
   exact this e3
theorem App.kids {h0 h:Heap} {s:Value} {n:Nat} {xs:List Value} {A F tl:Vc.Own} {t:Sl} {ks:List Tr} {k:Value→Heap→Vc.Own→Prop} {z:List Value} {e:TypeId} (hi:T.inf e=some (z,112)) (hz:z.length=7) (g:GrowS e 7 s n xs F) (w:IsK h0 t ks) (hle:h0.le h) (hn:n+ks.length≤1048576)
  (hk:∀v' F' ys,GrowS e 7 v' (n+ks.length) (xs++ys) F'→KC h ys ks→k v' h (A++(F'++tl))):App T e 7 112 s t.val h (A++(F++tl)) k:=by
 obtain ⟨ta,tl',tc⟩:=t
 have hl:tl'=ks.length:=w.len
 subst hl
 by_cases hne:ks=[]
 ·subst hne
  have:=hk s F [] (by simpa using g) rfl
  cases ta with
  | none=>exact App.nil hi (g.up A tl) this
  | some ad=>exact App.zero hi (g.up A tl) this
 ·rcases w.mem with e0 | ⟨bl,off,c,T0,fz,e1,e2,e3⟩
  ·exact absurd e0 hne
  ·obtain ⟨ys,kc,hy⟩:=e3.kc
   have e1':ta=some ⟨bl,off,none⟩:=e1
   subst e1'
   refine App.growK hi hz g ⟨bl,off,none⟩ ks.length tc ys kc.len (fun j hj=>?_) kc.one (List.length_pos_iff.2 hne) (by omega) (by omega) (by decide) (fun v' F' g'=>hk v' F' ys g' (kc.mono hle))
   rw [add_lit]
   refine Has.imm (hle _ _ e2) (hy j _ ?_)
   rw [List.getD_eq_getElem?_getD,List.getElem?_eq_getElem hj];rfl
end Go.Proofs.YtmblpmegfmgjgaaGreatDoor
/- One kid turned, on both sides; nodes made. -/
namespace Go.Vc
open Go Go.Dig
end Go.Vc
namespace Go.Proofs.YtmblpmegfmgjgaaGreatDoor
open Go Go.Vc Go.Dig
set_option maxRecDepth 20000 in
set_option maxHeartbeats 1000000 in
theorem with_ct (op arg:Int) (neg:Bool) (l m name:List Nat) (ks:List Tr) (i:Nat) (hi:i<ks.length) (hks:ks.length≤3) (t:Tr) (h:Heap) (vs us:List Value) (w:IsE h vs (.mk op arg neg l m name ks)) (w':IsE h us t):
  Fn0 T F.expr_with [.agg vs.toArray,.int .i64 i,.agg us.toArray] h fun v h'=>VE h' v (.mk op arg neg l m name (ks.set i t)):=by
 obtain ⟨a,b,s,rfl,ho,ha,hv,hb,hk⟩:=w.isK
 obtain ⟨⟨op1,arg1,neg1,l1,m1,name1,ks1⟩,hu⟩:∃x,x=t:=⟨_,rfl⟩
 obtain ⟨a1,b1,s1,hus,-⟩:=(hu.symm▸w':IsE h us (.mk op1 arg1 neg1 l1 m1 name1 ks1)).isK
 subst hus
 have hkl:=hk.len
 refine fn0_of_codeI ok D.expr_with rfl ?_
 conv=>whnf
 repeat ((first | refine opsI.step ?_ | refine codeI.step ?_);conv=>whnf)
 repeat' first | ((first | (show App _ _ _ _ _ _ _ _ _;(refine App.kids (A:=[]) (F:=[_]) (z:=[.int .i64 0,.int .i64 0,.bool false,.slice none 0 0,.slice none 0 0,.string (txt []),.slice none 0 0]) rfl rfl GrowS.mk0 hk (Heap.le_refl _) (by omega) (fun v' F' ys g0 k0=>?_);obtain ⟨bb,cap,rfl⟩:=g0.pos (by omega))) | (show Idx _ _ _ _ _;refine Idx.of i rfl rfl (by omega) ?_) | (show LdN _ _ _ _ _;first | refine LdN.tl (A:=F') (F:=[_]) rfl ?_ | refine LdN.tl (A:=F2) (F:=[_,_]) rfl ?_ | refine LdN.tl (A:=[]) (F:=F2) rfl ?_) | (show Sto _ _ _ _;first | refine Sto.grow (A:=[]) g0 rfl rfl rfl i (by omega) (fun F2 g2=>?_) | refine Sto.tl (A:=F2) (X:=[_,_]) rfl rfl ?_ | refine Sto.tl (A:=[]) (X:=F2) rfl rfl ?_) | (show Ld _ _ _ _;refine Ld.tl (A:=[]) (F:=[_,_,_]) rfl ?_) | ((first | refine opsI.step ?_ | refine codeI.step ?_)) | intro (_:Nat)) <;> (conv=>whnf))
 have k2:=KC.turn w' rfl (i:=i) k0 hi
 refine RetN.rowA (X:=F2) g2 k2 (by rw [List.length_set];omega) fun h'' s' hl hs hk'=>?_
 rw [hs]
 exact ⟨op,arg,neg,a,b,name,s',rfl,IsE.mkK ho ha (hv.mono hl) hb hk'⟩
set_option maxRecDepth 20000 in
theorem enode_ct (op arg:Int) (ho:-9223372036854775808≤op∧op≤9223372036854775807) (ha:-9223372036854775808≤arg∧arg≤9223372036854775807) (ks:List Tr) (s:Sl) (h:Heap) (hk:IsK h s ks):Fn0 T F.expr_node [.int .i64 op,.int .i64 arg,s.val] h fun v h'=>VE h' v (nodeT op arg ks):=by
 refine fn0_of_codeI ok D.expr_node rfl ?_
 conv=>whnf
 repeat ((first | refine opsI.step ?_ | refine codeI.step ?_);conv=>whnf)
 repeat' first | ((first | ((first | refine opsI.step ?_ | refine codeI.step ?_)) | intro (_:Nat) | refine LdN.own 0 rfl rfl ?_ | refine Sto.lit 0 rfl rfl rfl ?_) <;> (conv=>whnf))
 exact RetN.all (VE.node ho ha hk)
set_option maxRecDepth 20000 in
theorem rone_ct (op arg:Int) (ho:-9223372036854775808≤op∧op≤9223372036854775807) (ha:-9223372036854775808≤arg∧arg≤9223372036854775807) (t:Tr) (h:Heap) (vs:List Value) (w:IsE h vs t):Fn0 T F.ref04_one [.int .i64 op,.int .i64 arg,.agg vs.toArray] h fun v h'=>VE h' v (nodeT op arg [t]):=by
 obtain ⟨⟨op0,arg0,neg,l,m,name,ks⟩,ht⟩:∃x,x=t:=⟨_,rfl⟩
 obtain ⟨a,b,s,hvs,-⟩:=(ht.symm▸w:IsE h vs (.mk op0 arg0 neg l m name ks)).isK
 subst hvs
 refine fn0_of_codeI ok D.ref04_one rfl ?_
 conv=>whnf
 repeat ((first | refine opsI.step ?_ | refine codeI.step ?_);conv=>whnf)
 repeat' first | ((first | ((first | refine opsI.step ?_ | refine codeI.step ?_)) | intro (_:Nat) | refine LdN.own 1 rfl rfl ?_ | refine Sto.lit 1 rfl rfl rfl ?_) <;> (conv=>whnf))
 exact RetN.keep 0 rfl fun hle=>RetN.all (VE.node ho ha (IsK.one w rfl hle))
set_option maxRecDepth 20000 in
theorem rtwo_ct (op:Int) (ho:-9223372036854775808≤op∧op≤9223372036854775807) (t u:Tr) (h:Heap) (vs us:List Value) (w:IsE h vs t) (w':IsE h us u):Fn0 T F.ref04_two [.int .i64 op,.agg vs.toArray,.agg us.toArray] h fun v h'=>VE h' v (nodeT op 0 [t,u]):=by
 obtain ⟨⟨op0,arg,neg,l,m,name,ks⟩,ht⟩:∃x,x=t:=⟨_,rfl⟩
 obtain ⟨a,b,s,hvs,-⟩:=(ht.symm▸w:IsE h vs (.mk op0 arg neg l m name ks)).isK
 obtain ⟨⟨op1,arg1,neg1,l1,m1,name1,ks1⟩,hu⟩:∃x,x=u:=⟨_,rfl⟩
 obtain ⟨a1,b1,s1,hus,-⟩:=(hu.symm▸w':IsE h us (.mk op1 arg1 neg1 l1 m1 name1 ks1)).isK
 subst hvs hus
 refine fn0_of_codeI ok D.ref04_two rfl ?_
 conv=>whnf
 repeat ((first | refine opsI.step ?_ | refine codeI.step ?_);conv=>whnf)
 repeat' first | ((first | ((first | refine opsI.step ?_ | refine codeI.step ?_)) | intro (_:Nat) | (show LdN _ _ _ _ _;first | refine LdN.own 1 rfl rfl ?_ | refine LdN.own 2 rfl rfl ?_) | refine Sto.lit 1 rfl rfl rfl ?_) <;> (conv=>whnf))
 exact RetN.keep 0 rfl fun hle=>RetN.all (VE.node ho (by decide) (IsK.two w w' rfl rfl hle))
end Go.Proofs.YtmblpmegfmgjgaaGreatDoor