/- The values of trees at values of the variables: plain. -/
import Derived.Test.YtbgicephinomlaaGreatDoorE53
import Derived.Test.YtbgicephinomlaaGreatDoorRt3
import Derived.Test.YtbgicephinomlaaGreatDoorU2
import Derived.Test.YtbgicephinomlaaGreatDoorL4
set_option linter.unusedVariables false
set_option linter.unusedSimpArgs false
set_option maxHeartbeats 1000000
set_option maxRecDepth 20000
namespace Go.Proofs.YtbgicephinomlaaGreatDoor
open Go Go.Vc Go.Dig
def fitO (q:Rat):Option Rat:=if fits q then some q else none
def callQ (fn:Int) (q:Rat):Option Rat:=
 if fn=1∨fn=4 then (if q=0 then some 1 else none) else if fn=2∨fn=7 then (if q=1 then some 0 else none) else if q=0 then some 0 else none
def unQ (op arg:Int) (q:Rat):Option Rat:=
 if op=4 then fitO (-q) else if op=9 then (if arg<0∧q=0 then none else fitO (powQ q arg)) else if op=12 then fitO (absQ q)
 else if op=10 then (if (exactQ q arg.toNat).2 then fitO (exactQ q arg.toNat).1 else none) else callQ arg q
def biQ (op:Int) (q r:Rat):Option Rat:=
 if op=5 then fitO (q+r) else if op=6 then fitO (q-r) else if op=7 then fitO (q*r) else if op=8 then (if r=0 then none else fitO (q / r))
 else if op=13 then some (if r<q then r else q) else some (if q<r then r else q)
def combQ (op arg:Int):List (Option Rat)→Option Rat
 | [a]=>a.bind (unQ op arg)
 | [a,b]=>a.bind fun x=>b.bind fun y=>biQ op x y
 | [a,y,z]=>a.bind fun c=>if 0≤c then y else z
 | _=>none
mutual
def valT (vals:List (List Nat × Rat)):Tr→Option Rat
 | .mk op arg neg l m name ks=>if op=1 then some (ratOf neg l m) else if op=2 then findB vals name else if op=3 then none else combQ op arg (valTs vals ks)
def valTs (vals:List (List Nat × Rat)):List Tr→List (Option Rat)
 | []=>[]
 | t::ts=>valT vals t::valTs vals ts
end
theorem rat_asymm {q r:Rat} (h:q<r) (h':r<q):False:=absurd (Rat.le_of_lt h') (Rat.not_le.2 h)
theorem fitO_fits {q r:Rat} (h:fitO q=some r):fits r:=by
 unfold fitO at h
 split at h
 ·cases h;assumption
 ·cases h
theorem fits_one:fits 1:=by
 have:=fits_int 1 (by decide) (by decide)
 exact this
theorem callQ_fits {fn:Int} {q r:Rat} (h:callQ fn q=some r):fits r:=by
 unfold callQ at h
 repeat' split at h
 all_goals first
  | (cases h;done)
  | (cases h;first|exact fits_one|exact fits_zero)
theorem unQ_fits {op arg:Int} {q r:Rat} (h:unQ op arg q=some r):fits r:=by
 unfold unQ at h
 repeat' split at h
 all_goals first
  | (cases h;done)
  | exact fitO_fits h
  | exact callQ_fits h
theorem biQ_fits {op:Int} {q r s:Rat} (hq:fits q) (hr:fits r) (h:biQ op q r=some s):fits s:=by
 unfold biQ at h
 repeat' split at h
 all_goals first
  | (cases h;done)
  | exact fitO_fits h
  | (cases h;assumption)
theorem findB_fits {name:List Nat} {q:Rat}:∀{l:List (List Nat × Rat)},(∀b∈l,fits b.2)→findB l name=some q→fits q
 | [],_,h=>by cases h
 | (n,r)::l,hl,h=>by
  rw [findB] at h
  split at h
  ·cases h;exact hl _ (List.mem_cons_self ..)
  ·exact findB_fits (fun b hb=>hl b (List.mem_cons_of_mem _ hb)) h
theorem comb_fits {vals:List (List Nat × Rat)} {op arg:Int} {q:Rat}:∀{ks:List Tr},(∀t∈ks,∀q,valT vals t=some q→fits q)→combQ op arg (valTs vals ks)=some q→fits q
 | [],_,h=>by rw [valTs] at h;cases h
 | [a],hs,h=>by
  rw [valTs,valTs] at h
  obtain ⟨x,-,h⟩:=Option.bind_eq_some_iff.1 h
  exact unQ_fits h
 | [a,b],hs,h=>by
  rw [valTs,valTs,valTs] at h
  obtain ⟨x,ha,h⟩:=Option.bind_eq_some_iff.1 h
  obtain ⟨y,hb,h⟩:=Option.bind_eq_some_iff.1 h
  exact biQ_fits (hs a (List.mem_cons_self ..) x ha) (hs b (List.mem_cons_of_mem _ (List.mem_cons_self ..)) y hb) h
 | [a,b,c],hs,h=>by
  rw [valTs,valTs,valTs,valTs] at h
  obtain ⟨x,-,h⟩:=Option.bind_eq_some_iff.1 h
  split at h
  ·exact hs b (List.mem_cons_of_mem _ (List.mem_cons_self ..)) q h
  ·exact hs c (List.mem_cons_of_mem _ (List.mem_cons_of_mem _ (List.mem_cons_self ..))) q h
 | a::b::c::e::ks,hs,h=>by
  rw [valTs,valTs,valTs,valTs] at h
  simp only [combQ] at h
  cases h
theorem valT_fits {vals:List (List Nat × Rat)} (hv:∀b∈vals,fits b.2):∀(t:Tr) (d:Nat),okT d t→∀q,valT vals t=some q→fits q:=by
 refine tree_ind fun t ih=>?_
 intro d hok q h
 obtain ⟨op,arg,neg,l,m,name,ks⟩:=t
 rw [okT] at hok
 rw [valT] at h
 split at h
 ·rename_i e
  cases h
  have hn:=hok.2.1.2.2.2.2
  rw [if_pos e] at hn
  exact hn.1.2.2
 split at h
 ·exact findB_fits hv h
 split at h
 ·cases h
 refine comb_fits (vals:=vals) (fun t ht q hq=>?_) h
 obtain ⟨i,hi,rfl⟩:=List.mem_iff_getElem.1 ht
 have e:=List.getElem?_eq_getElem hi
 exact ih _ (szT_kid e) (d+1) (okTs_get hok.2.2 e) q hq
theorem ratI0:((0:Int):Rat)=0:=rfl
theorem ratI1:((1:Int):Rat)=1:=rfl
theorem IsNum.of {h:Heap} {n:Bool} {a b:Sl} {q:Rat} (w:IsNum h n a b (some q)):∃l m,IsVal h a b l m∧okR n l m∧ratOf n l m=q:=by
 obtain ⟨l,m,v,e⟩:=w.ex
 unfold valOf at e
 split at e
 ·exact ⟨l,m,v,by assumption,(Option.some.inj e).symm⟩
 ·cases e
theorem IsNum.fits {h:Heap} {n:Bool} {a b:Sl} {q:Rat} (w:IsNum h n a b (some q)):fits q:=by
 obtain ⟨l,m,v,k,rfl⟩:=w.of
 exact k.2.2
def NumV (h:Heap) (v:Value) (q:Rat):Prop:=∃n,∃a b:Sl,v=.agg #[.bool n,a.val,b.val]∧IsNum h n a b (some q)
instance:UpV NumV:=⟨fun hl ⟨n,a,b,e,w⟩=>⟨n,a,b,e,by obtain ⟨l,m,v,e2⟩:=w.ex;exact ⟨l,m,v.mono hl,e2⟩⟩⟩
def VQ (h:Heap) (v:Value) (x:Option Rat):Prop:=∃n,∃a b:Sl,∃bb,v=.tuple #[.agg #[.bool n,a.val,b.val],.bool bb]∧(bb=true→∃q,x=some q∧IsNum h n a b (some q))∧(bb=false→x=none)
def NQ (h:Heap) (v:Value) (p:Rat × Int):Prop:=∃n,∃a b:Sl,v=.tuple #[.agg #[.bool n,a.val,b.val],.int .i64 p.2]∧IsNum h n a b (some p.1)
theorem ResN.nq {h:Heap} {v:Value} {p:Rat × Int}:ResN h v p→NQ h v p:=fun ⟨a,b,e,_,w⟩=>⟨_,a,b,e,w⟩
def OutX (p:Rat × Int) (x:Option Rat):Prop:=(p.2=0→x=some p.1)∧(p.2≠0→x=none)
theorem OutX.out (q:Rat):OutX (outR q) (fitO q):=by
 unfold outR fitO
 split
 ·exact ⟨fun _=>rfl,fun h=>absurd rfl h⟩
 ·exact ⟨fun h=>absurd h (by decide),fun _=>rfl⟩
theorem OutX.err (e:Int) (h:e≠0):OutX (0,e) none:=⟨fun x=>absurd x h,fun _=>rfl⟩
theorem VQ.out {h:Heap} {p:Rat × Int} {x:Option Rat} {n:Bool} {a b:Sl} (ox:OutX p x) (w:IsNum h n a b (some p.1)):VQ h (.tuple #[.agg #[.bool n,a.val,b.val],.bool (eq p.2 0)]) x:=by
 refine ⟨n,a,b,_,rfl,fun e=>⟨p.1,ox.1 ?_,w⟩,fun e=>ox.2 fun y=>?_⟩
 ·by_cases y:p.2=0
  ·exact y
  ·rw [eq_dec,dec_false y] at e;cases e
 ·rw [eq_dec,dec_true y] at e;cases e
theorem done_ct (h:Heap) (n:Bool) (a b:Sl) (e:Int):Fn0 T F.expr_done [.agg #[.bool n,a.val,b.val],.int .i64 e] h fun v h'=>h'=h∧v=.tuple #[.agg #[.bool n,a.val,b.val],.bool (eq e 0)]:=by
 refine f0C ok D.expr_done rfl ?_
 conv=>whnf
 repeat ((first|refine oI.z ?_|refine cI.z ?_);conv=>whnf)
 repeat' first|((first|((first|refine oI.z ?_|refine cI.z ?_))|intro (_:Nat)|(show LdN _ _ _ _ _;first|refine LdN.o 0 rfl rfl ?_|refine LdN.o 1 rfl rfl ?_)|refine Sto.l 0 rfl rfl rfl ?_) <;> (conv=>whnf))
 all_goals exact RN.a ⟨rfl,rfl⟩
theorem NegP (h:Heap) (tb:Tb h) (n:Bool) (a b:Sl) (q:Rat) (w:IsNum h n a b (some q)):Fn0 T F.number_Neg [.agg #[.bool n,a.val,b.val]] h fun v h'=>NQ h' v (outR (-q)):=by
 obtain ⟨l,m,v,k,rfl⟩:=w.of
 exact (NNeg_ct h tb n a b l m v).mono fun v h' _ r=>by
  rw [show spec1 (fun q=>-q) n l m=outR (-(ratOf n l m)) from if_pos k] at r
  exact (r.isn (Fok.out _)).nq
theorem AbsP (h:Heap) (tb:Tb h) (n:Bool) (a b:Sl) (q:Rat) (w:IsNum h n a b (some q)):Fn0 T F.number_Abs [.agg #[.bool n,a.val,b.val]] h fun v h'=>NQ h' v (outR (absQ q)):=by
 obtain ⟨l,m,v,k,rfl⟩:=w.of
 exact (NAbs_ct h tb n a b l m v).mono fun v h' _ r=>by
  rw [show spec1 absQ n l m=outR (absQ (ratOf n l m)) from if_pos k] at r
  exact (r.isn (Fok.out _)).nq
def powR (q:Rat) (arg:Int):Rat × Int:=if arg<0∧q=0 then (0,10) else outR (powQ q arg)
theorem OutX.pow (q:Rat) (arg:Int):OutX (powR q arg) (if arg<0∧q=0 then none else fitO (powQ q arg)):=by
 unfold powR
 split
 ·exact OutX.err 10 (by decide)
 ·exact OutX.out _
theorem PowP (h:Heap) (tb:Tb h) (n:Bool) (a b:Sl) (q:Rat) (arg:Int) (h1:-32≤arg) (h2:arg≤32) (w:IsNum h n a b (some q)):Fn0 T F.number_Pow [.agg #[.bool n,a.val,b.val],.int .i64 arg] h fun v h'=>NQ h' v (powR q arg):=by
 obtain ⟨l,m,v,k,rfl⟩:=w.of
 exact (NPow_ct h tb n a b l m v arg (by omega) (by omega)).mono fun v h' _ r=>by
  rw [show specPow n l m arg=powR (ratOf n l m) arg from (if_pos k).trans ((if_neg (by omega)).trans (by unfold powR;simp only [nu_eq_zero]))] at r
  refine (r.isn ?_).nq
  unfold powR
  split
  ·exact Fok.err1 10
  ·exact Fok.out _
theorem exactQ_fits {q:Rat} (hq:fits q) {n:Nat} (hn:1≤n):fits (exactQ q n).1:=by
 unfold exactQ
 split
 ·exact fits_zero
 split
 ·rename_i e
  obtain ⟨-,e2,e3⟩:=root_parts (q:=q) hn e.1 e.2
  have g:∀x,rt x n^n=x→rt x n≤x:=fun x y=>by
   have:=Nat.le_self_pow (Nat.ne_of_gt hn) (rt x n)
   rwa [y] at this
  show fits (mkQ (sg q) (rt (nu q) n) (rt q.den n))
  exact ⟨by rw [e2];exact Nat.le_trans (ln_le_of_le (g _ e.1)) hq.1,by rw [e3];exact Nat.le_trans (ln_le_of_le (g _ e.2)) hq.2⟩
 ·exact fits_zero
theorem RootP (h:Heap) (tb:Tb h) (n:Bool) (a b:Sl) (q:Rat) (arg:Int) (h1:2≤arg) (h2:arg≤8) (w:IsNum h n a b (some q)):Fn0 T F.number_Root [.agg #[.bool n,a.val,b.val],.int .i64 arg] h fun v h'=>
  ∃n',∃c d:Sl,∃bb,v=.tuple #[.agg #[.bool n',c.val,d.val],.bool bb,.int .i64 0]∧(bb=true→∃r,(if (exactQ q arg.toNat).2 then fitO (exactQ q arg.toNat).1 else none)=some r∧IsNum h' n' c d (some r))∧(bb=false→(if (exactQ q arg.toNat).2 then fitO (exactQ q arg.toNat).1 else none)=none):=by
 have hf:=w.fits
 obtain ⟨l,m,v,k,rfl⟩:=w.of
 exact (NRoot_ct h tb n a b l m v arg (by omega) (by omega)).mono fun v h' _ r=>by
  rw [show specRoot n l m arg=((exactQ (ratOf n l m) arg.toNat).1,(exactQ (ratOf n l m) arg.toNat).2,0) from (if_pos k).trans (if_neg (by omega))] at r
  have ft:=exactQ_fits hf (n:=arg.toNat) (by omega)
  obtain ⟨c,d,rfl,hr⟩:=r
  refine ⟨_,c,d,_,rfl,fun e=>⟨_,(if_pos e).trans (if_pos ft),hr.isnum ft⟩,fun e=>if_neg ?_⟩
  show ¬(exactQ (ratOf n l m) arg.toNat).2=true
  rw [show (exactQ (ratOf n l m) arg.toNat).2=false from e]
  decide
theorem CanonP (h:Heap) (tb:Tb h) (n:Bool) (a b:Sl) (q:Rat) (w:IsNum h n a b (some q)):Fn0 T F.number_Canon [.agg #[.bool n,a.val,b.val]] h fun v h'=>∃c d:Sl,v=.tuple #[.agg #[.bool (sg q),c.val,d.val],.int .i64 0]∧IsRat h' c d q:=by
 obtain ⟨l,m,v,k,rfl⟩:=w.of
 exact (NCanon_ct h tb n a b l m v).mono fun v h' _ r=>by
  rw [show spec1 (fun q=>q) n l m=(ratOf n l m,0) from (if_pos k).trans (if_pos k.2.2)] at r
  obtain ⟨c,d,rfl,hr⟩:=r
  exact ⟨c,d,rfl,hr⟩
theorem CanonV (h:Heap) (tb:Tb h) (n:Bool) (a b:Sl) (x:Option Rat) (w:IsNum h n a b x):Fn0 T F.number_Canon [.agg #[.bool n,a.val,b.val]] h fun v h'=>∃n',∃c d:Sl,∃e,v=.tuple #[.agg #[.bool n',c.val,d.val],.int .i64 e]∧IsNum h' n' c d (some (x.getD 0))∧(e=0↔x.isSome=true):=by
 obtain ⟨l,m,v,rfl⟩:=w.ex
 exact (NCanon_ct h tb n a b l m v).mono fun v h' _ r=>by
  by_cases k:okR n l m
  ·rw [show spec1 (fun q=>q) n l m=(ratOf n l m,0) from (if_pos k).trans (if_pos k.2.2)] at r
   obtain ⟨c,d,rfl,hr⟩:=r
   rw [show valOf n l m=some (ratOf n l m) from if_pos k]
   exact ⟨_,c,d,0,rfl,hr.isnum k.2.2,by simp⟩
  ·rw [show spec1 (fun q=>q) n l m=(0,1) from if_neg k] at r
   obtain ⟨c,d,rfl,hr⟩:=r
   rw [show valOf n l m=none from if_neg k]
   exact ⟨_,c,d,1,rfl,hr.isnum fits_zero,by simp⟩
theorem one_iff (q:Rat):q=1↔sg q=false∧q.den=1∧nu q=1:=by
 constructor
 ·rintro rfl;exact ⟨by unfold sg;decide,by decide,by unfold nu;decide⟩
 ·rintro ⟨h1,h2,h3⟩
  have:q.num=1:=by
   unfold sg at h1
   unfold nu at h3
   have:=of_decide_eq_false h1
   omega
  exact Rat.ext (by rw [this];rfl) (by rw [h2];rfl)
theorem isOne_ct (h:Heap) (a b:Sl) (q:Rat) (hf:fits q) (w:IsRat h a b q):Fn0 T F.elem_isOne [.agg #[.bool (sg q),a.val,b.val]] h fun v h'=>v=.bool (dec (q=1)):=by
 have h1:=w.num
 have h2:=w.den.len
 have h3:=dg_lt tlB (nu q)
 have f1:sg q=true→q≠1:=fun x y=>by rw [(one_iff q).1 y |>.1] at x;cases x
 have f2:b.l≠0→q≠1:=fun x y=>x (by rw [h2,if_pos ((one_iff q).1 y).2.1,ln_zero])
 have f3:sg q=false→b.l=0→(q=1↔nu q=1):=fun x y=>by
  have hd:q.den=1:=by
   by_cases z:q.den=1
   ·exact z
   ·rw [if_neg z] at h2
    have:=(ln_eq_zero tlB).1 (h2.symm.trans y)
    exact absurd this q.den_nz
  exact ⟨fun z=>((one_iff q).1 z).2.2,fun z=>(one_iff q).2 ⟨x,hd,z⟩⟩
 have h5:=hf.1
 have h6:(dg 4294967296 (nu q)).length≤64:=h5
 have h7:=evl_dg tlB (nu q)
 obtain ⟨N,hN⟩:∃N,N=nu q:=⟨_,rfl⟩
 rw [← hN] at f3 h7
 clear h2
 refine f0C ok D.elem_isOne rfl ?_
 conv=>whnf
 repeat ((first|refine oI.z ?_|refine cI.z ?_);conv=>whnf)
 repeat' first|((first|(show CN _ _ _ _ _ _;first|(refine CN.f rfl (Of_ct _ _ _ h1 h3 (by omega)) (fun v h' hl hr=>?_);rw [← hN,h7] at hr;obtain ⟨s1,rfl,hs1⟩:=hr)|(refine CN.quiet rfl (One_ct _ _ _ (by assumption) (by rw [hN];omega)) ?_))|((first|refine oI.z ?_|refine cI.z ?_))|intro (_:Nat)|refine Ld.o 0 rfl rfl ?_) <;> (conv=>whnf))|(show cnd _ _ _;first|(refine cnd_eq (fun _=>?_) (fun _=>?_) <;> first|(exfalso;omega)|(conv=>whnf))|(refine cnd_not ?_)|(refine cnd_bool (fun _=>?_) (fun _=>?_) <;> (conv=>whnf)))
 all_goals first
  | (rw [dec_false (f1 (by assumption))];exact RN.a rfl)
  | (rw [dec_false (f2 (by omega))];exact RN.a rfl)
  | (rw [dec_congr (f3 (by assumption) (by omega))];exact RN.a rfl)
theorem known_ct (h:Heap) (tb:Tb h) (fn:Int) (n:Bool) (a b:Sl) (q:Rat) (h1:1≤fn) (h2:fn≤8) (w:IsNum h n a b (some q)):Fn0 T F.elem_known [.int .i64 fn,.agg #[.bool n,a.val,b.val]] h fun v h'=>∃c d:Sl,v=.tuple #[.agg #[.bool (sg q),c.val,d.val],.int .i64 0]∧IsRat h' c d q:=by
 refine f0C ok D.elem_known rfl ?_
 conv=>whnf
 repeat ((first|refine oI.z ?_|refine cI.z ?_);conv=>whnf)
 repeat' first|((first|(show CN _ _ _ _ _ _;(refine CN.f rfl (CanonP _ (by assumption) n a b q (by assumption)) (fun v h' hl hr=>?_);obtain ⟨c,d,rfl,hr'⟩:=hr))|((first|refine oI.z ?_|refine cI.z ?_))|intro (_:Nat)|(show LdN _ _ _ _ _;first|refine LdN.o 0 rfl rfl ?_|refine LdN.o 1 rfl rfl ?_)|(show Sto _ _ _ _;first|refine Sto.l 0 rfl rfl rfl ?_|refine Sto.l 1 rfl rfl rfl ?_)) <;> (conv=>whnf))|(show cnd _ _ _;first|(refine cnd_lt (fun _=>?_) (fun _=>?_) <;> first|(exfalso;omega)|(conv=>whnf))|(refine cnd_eq (fun _=>?_) (fun _=>?_) <;> first|(exfalso;omega)|(conv=>whnf)))
 all_goals exact RN.a ⟨_,_,rfl,(by assumption)⟩
theorem zero_len {h:Heap} {a b:Sl} {q:Rat} (w:IsRat h a b q):(a.l=0→q=0)∧(a.l≠0→q≠0):=by
 have h1:=w.num.len
 rw [← nu_eq_zero]
 exact ⟨fun x=>(ln_eq_zero tlB).1 (h1.symm.trans x),fun x y=>x (by rw [h1,y,nu_zero,ln_zero])⟩
theorem exact_ct (h:Heap) (fn:Int) (a b:Sl) (q:Rat) (h1:1≤fn) (h2:fn≤8) (hf:fits q) (w:IsRat h a b q):Fn0 T F.elem_exact [.int .i64 fn,.agg #[.bool (sg q),a.val,b.val]] h fun v h'=>VQ h' v (callQ fn q):=by
 obtain ⟨z1,z2⟩:=zero_len w
 have r1:fn=1∨fn=4→q=0→callQ fn q=some 1:=fun x y=>(if_pos x).trans (if_pos y)
 have r2:fn=1∨fn=4→q≠0→callQ fn q=none:=fun x y=>(if_pos x).trans (if_neg y)
 have r3:fn=2∨fn=7→callQ fn q=if q=1 then some 0 else none:=fun x=>(if_neg (by omega)).trans (if_pos x)
 have r4:¬(fn=1∨fn=4)→¬(fn=2∨fn=7)→callQ fn q=if q=0 then some 0 else none:=fun x y=>(if_neg x).trans (if_neg y)
 obtain ⟨R,hR⟩:∃R,R=callQ fn q:=⟨_,rfl⟩
 rw [← hR] at r1 r2 r3 r4 ⊢
 clear hR
 have zz:∀h',IsNum h' false ⟨none,0,0⟩ ⟨none,0,0⟩ (some 0):=fun h'=>by
  have:=(IsRat.zero h').isnum fits_zero
  rwa [sg_zero] at this
 have f1:=fits_one
 have k1:=fun h=>NFromInt_ct h 1 (by decide) (by decide)
 simp only [ratI1] at k1
 refine f0C ok D.elem_exact rfl ?_
 conv=>whnf
 repeat ((first|refine oI.z ?_|refine cI.z ?_);conv=>whnf)
 repeat' first|((first|(show DrN _ _ _ _ _ _;refine DrN.own [_] (by exact List.Sublist.cons _ (List.Sublist.cons_cons _ (List.nil_sublist _))) (by decide +kernel) ?_)|(refine ⟨fun _=>⟨HasLe.o (by first|exact Heap.lr _|assumption|exact Heap.lt (by assumption) (by assumption)),by repeat first|exact List.nil_sublist _|apply List.Sublist.cons_cons|refine List.Sublist.trans ?_ (List.sublist_append_right _ _)|apply List.Sublist.cons⟩,?_⟩)|((first|refine oI.z ?_|refine cI.z ?_))|intro (_:Nat)|(show SeqN _ _ _ _ _ _ _;refine SeqN.go ?_)|(show CN _ _ _ _ _ _;first|(refine CN.f rfl (isOne_ct _ _ _ q hf (by assumption)) (fun v h' hl hr=>?_);subst hr)|(refine CN.f rfl (k1 _) (fun v h' hl hr=>?_);obtain ⟨c,d,rfl,hr'⟩:=hr))|(show LdN _ _ _ _ _;first|refine LdN.o 0 rfl rfl ?_|refine LdN.o 1 rfl rfl ?_)|(show Ld _ _ _ _;first|refine Ld.o 0 rfl rfl ?_|refine Ld.o 1 rfl rfl ?_)|refine Sto.l 0 rfl rfl rfl ?_) <;> (conv=>whnf))|(refine cnd_eq (fun _=>?_) (fun _=>?_) <;> first|(exfalso;omega)|(conv=>whnf))
 all_goals first
  | (rw [r1 (by omega) (z1 (by omega))];exact RN.a ⟨_,_,_,true,rfl,fun _=>⟨1,rfl,IsRat.isnum (by assumption) f1⟩,fun x=>(by cases x)⟩)
  | (rw [r2 (by omega) (z2 (by omega))];exact RN.a ⟨_,⟨none,0,0⟩,⟨none,0,0⟩,false,rfl,fun x=>(by cases x),fun _=>rfl⟩)
  | (rw [r3 (by omega)];exact RN.a ⟨_,⟨none,0,0⟩,⟨none,0,0⟩,_,rfl,fun x=>⟨0,if_pos (by by_cases y:q=1;exact y;rw [dec_false y] at x;cases x),zz _⟩,fun x=>if_neg fun y=>by rw [dec_true y] at x;cases x⟩)
  | (rw [r4 (by omega) (by omega)];exact RN.a ⟨_,⟨none,0,0⟩,⟨none,0,0⟩,_,rfl,fun x=>⟨0,if_pos (z1 (by by_cases y:a.l=0;exact y;rw [Vc.eq_false' (by omega)] at x;cases x)),zz _⟩,fun x=>if_neg fun y=>by rw [Vc.eq_true' (by by_cases z:a.l=0;omega;exact absurd y (z2 z))] at x;cases x⟩)
theorem Exact2_ct (h:Heap) (tb:Tb h) (fn:Int) (n:Bool) (a b:Sl) (q:Rat) (h1:1≤fn) (h2:fn≤8) (w:IsNum h n a b (some q)):Fn0 T F.elem_Exact [.int .i64 fn,.agg #[.bool n,a.val,b.val]] h fun v h'=>
  ∃n',∃c d:Sl,∃bb,v=.tuple #[.agg #[.bool n',c.val,d.val],.bool bb,.int .i64 0]∧(bb=true→∃r,callQ fn q=some r∧IsNum h' n' c d (some r))∧(bb=false→callQ fn q=none):=by
 have hf:=w.fits
 refine f0C ok D.elem_Exact rfl ?_
 conv=>whnf
 repeat ((first|refine oI.z ?_|refine cI.z ?_);conv=>whnf)
 repeat' first|((first|(show CN _ _ _ _ _ _;first|(refine CN.f rfl (known_ct _ (by assumption) fn n a b q h1 h2 (by assumption)) (fun v h' hl hr=>?_);obtain ⟨c,d,rfl,hr'⟩:=hr)|(refine CN.f rfl (exact_ct _ fn _ _ q h1 h2 hf (by assumption)) (fun v h' hl hr=>?_);obtain ⟨n1,c1,d1,b1,rfl,g1,g2⟩:=hr))|((first|refine oI.z ?_|refine cI.z ?_))|intro (_:Nat)|(show LdN _ _ _ _ _;first|refine LdN.o 0 rfl rfl ?_|refine LdN.o 1 rfl rfl ?_)|(show Sto _ _ _ _;first|refine Sto.l 0 rfl rfl rfl ?_|refine Sto.l 1 rfl rfl rfl ?_)) <;> (conv=>whnf))|(show cnd _ _ _;first|(refine cnd_eq (fun _=>?_) (fun _=>?_) <;> first|(exfalso;omega)|(conv=>whnf))|(refine cnd_not ?_))
 all_goals exact RN.a ⟨_,_,_,_,rfl,g1,g2⟩
theorem unary_ct (q:Rat) (h:Heap) (tb:Tb h) (op arg:Int) (neg:Bool) (a b s:Sl) (name:List Nat) (n:Bool) (c d:Sl) (hop:op=4∨op=9∧-32≤arg∧arg≤32∨op=10∧2≤arg∧arg≤8∨op=11∧1≤arg∧arg≤8∨op=12) (w:IsNum h n c d (some q)):
  Fn0 T F.expr_unary [.agg #[.int .i64 op,.int .i64 arg,.bool neg,a.val,b.val,.string (txt name),s.val],.agg #[.bool n,c.val,d.val]] h fun v h'=>VQ h' v (unQ op arg q):=by
 have r1:op=4→unQ op arg q=fitO (-q):=fun e=>if_pos e
 have r2:op=9→unQ op arg q=if arg<0∧q=0 then none else fitO (powQ q arg):=fun e=>(if_neg (by omega)).trans (if_pos e)
 have r3:op=12→unQ op arg q=fitO (absQ q):=fun e=>(if_neg (by omega)).trans ((if_neg (by omega)).trans (if_pos e))
 have r4:op=10→unQ op arg q=if (exactQ q arg.toNat).2 then fitO (exactQ q arg.toNat).1 else none:=fun e=>(if_neg (by omega)).trans ((if_neg (by omega)).trans ((if_neg (by omega)).trans (if_pos e)))
 have r5:op=11→unQ op arg q=callQ arg q:=fun e=>(if_neg (by omega)).trans ((if_neg (by omega)).trans ((if_neg (by omega)).trans (if_neg (by omega))))
 obtain ⟨R,hR⟩:∃R,R=unQ op arg q:=⟨_,rfl⟩
 rw [← hR] at r1 r2 r3 r4 r5 ⊢
 clear hR
 have c1:=fun h tb w=>NegP h tb n c d q w
 have c2:=fun h tb w=>AbsP h tb n c d q w
 have c3:=fun h tb w h1 h2=>PowP h tb n c d q arg h1 h2 w
 have c4:=fun h tb w h1 h2=>RootP h tb n c d q arg h1 h2 w
 have c5:=fun h tb w h1 h2=>Exact2_ct h tb arg n c d q h1 h2 w
 have o1:=OutX.out (-q)
 have o2:=OutX.out (absQ q)
 have o3:=OutX.pow q arg
 obtain ⟨P1,hP1⟩:∃P,P=outR (-q):=⟨_,rfl⟩
 obtain ⟨P2,hP2⟩:∃P,P=outR (absQ q):=⟨_,rfl⟩
 obtain ⟨P3,hP3⟩:∃P,P=powR q arg:=⟨_,rfl⟩
 obtain ⟨X4,hX4⟩:∃P,P=if (exactQ q arg.toNat).2 then fitO (exactQ q arg.toNat).1 else none:=⟨_,rfl⟩
 rw [← hP1] at o1
 rw [← hP2] at o2
 rw [← hP3] at o3
 rw [← hX4] at r4
 simp only [← hP1] at c1
 simp only [← hP2] at c2
 simp only [← hP3] at c3
 simp only [← hX4] at c4
 clear hP1 hP2 hP3 hX4
 refine f0C ok D.expr_unary rfl ?_
 conv=>whnf
 repeat ((first|refine oI.z ?_|refine cI.z ?_);conv=>whnf)
 repeat' first|((first|(show CN _ _ _ _ _ _;first|((first|refine CN.f rfl (c1 _ (by assumption) (by assumption)) (fun v h' hl hr=>?_)|refine CN.f rfl (c2 _ (by assumption) (by assumption)) (fun v h' hl hr=>?_)|refine CN.f rfl (c3 _ (by assumption) (by assumption) (by omega) (by omega)) (fun v h' hl hr=>?_));obtain ⟨n1,c1',d1,rfl,hn1⟩:=hr)|((first|refine CN.f rfl (c4 _ (by assumption) (by assumption) (by omega) (by omega)) (fun v h' hl hr=>?_)|refine CN.f rfl (c5 _ (by assumption) (by assumption) (by omega) (by omega)) (fun v h' hl hr=>?_));obtain ⟨n1,c1',d1,b1,rfl,g1,g2⟩:=hr)|refine CN.quiet rfl (done_ct _ _ _ _ _) ?_)|((first|refine oI.z ?_|refine cI.z ?_))|intro (_:Nat)|(show LdN _ _ _ _ _;first|refine LdN.o 0 rfl rfl ?_|refine LdN.o 1 rfl rfl ?_)|refine Ld.o 2 rfl rfl ?_|(show Sto _ _ _ _;first|refine Sto.l 0 rfl rfl rfl ?_|refine Sto.l 1 rfl rfl rfl ?_)) <;> (conv=>whnf))|(show cnd _ _ _;first|(refine cnd_eq (fun _=>?_) (fun _=>?_) <;> first|(exfalso;omega)|(conv=>whnf))|(refine cnd_bool (fun hb=>?_) (fun hb=>?_) <;> (first|cases hb|subst hb) <;> (conv=>whnf)))
 all_goals first
  | (rw [r1 (by omega)];exact RN.a (VQ.out o1 (by assumption)))
  | (rw [r2 (by omega)];exact RN.a (VQ.out o3 (by assumption)))
  | (rw [r3 (by omega)];exact RN.a (VQ.out o2 (by assumption)))
  | (rw [r4 (by omega)];exact RN.a ⟨n1,c1',d1,true,by rw [Vc.eq_true' rfl],fun _=>g1 rfl,fun x=>by cases x⟩)
  | (rw [r5 (by omega)];exact RN.a ⟨n1,c1',d1,true,by rw [Vc.eq_true' rfl],fun _=>g1 rfl,fun x=>by cases x⟩)
  | (rw [r4 (by omega)];exact RN.a ⟨n1,c1',d1,false,rfl,fun x=>(by cases x),fun _=>g2 rfl⟩)
  | (rw [r5 (by omega)];exact RN.a ⟨n1,c1',d1,false,rfl,fun x=>(by cases x),fun _=>g2 rfl⟩)
theorem OutX.div (q r:Rat):OutX (divR (some q) (some r)) (if r=0 then none else fitO (q / r)):=by
 show OutX (if nu r=0 then (0,10) else outR (q / r)) _
 by_cases h:r=0
 ·rw [if_pos h,if_pos (nu_eq_zero.2 h)];exact OutX.err 10 (by decide)
 ·rw [if_neg h,if_neg fun x=>h (nu_eq_zero.1 x)];exact OutX.out _
theorem binary_ct (q r:Rat) (h:Heap) (tb:Tb h) (op:Int) (n:Bool) (c d:Sl) (n':Bool) (c' d':Sl) (hop:op=5∨op=6∨op=7∨op=8∨op=13∨op=14) (w:IsNum h n c d (some q)) (w':IsNum h n' c' d' (some r)):
  Fn0 T F.expr_binary [.int .i64 op,.agg #[.bool n,c.val,d.val],.agg #[.bool n',c'.val,d'.val]] h fun v h'=>VQ h' v (biQ op q r):=by
 have r1:op=5→biQ op q r=fitO (q+r):=fun e=>if_pos e
 have r2:op=6→biQ op q r=fitO (q-r):=fun e=>(if_neg (by omega)).trans (if_pos e)
 have r3:op=7→biQ op q r=fitO (q*r):=fun e=>(if_neg (by omega)).trans ((if_neg (by omega)).trans (if_pos e))
 have r4:op=8→biQ op q r=if r=0 then none else fitO (q / r):=fun e=>(if_neg (by omega)).trans ((if_neg (by omega)).trans ((if_neg (by omega)).trans (if_pos e)))
 have r5:op=13→biQ op q r=some (if r<q then r else q):=fun e=>(if_neg (by omega)).trans ((if_neg (by omega)).trans ((if_neg (by omega)).trans ((if_neg (by omega)).trans (if_pos e))))
 have r6:op=14→biQ op q r=some (if q<r then r else q):=fun e=>(if_neg (by omega)).trans ((if_neg (by omega)).trans ((if_neg (by omega)).trans ((if_neg (by omega)).trans (if_neg (by omega)))))
 have tri:=cmp_tri q r
 have m1:op=13→cmpQ q r<0→biQ op q r=some q:=fun x y=>by
  rw [r5 x,if_neg]
  rcases tri with t|t|t
  ·exact fun z=>rat_asymm z t.2
  ·omega
  ·omega
 have m2:op=13→¬cmpQ q r<0→biQ op q r=some r:=fun x y=>by
  rw [r5 x]
  rcases tri with t|t|t
  ·omega
  ·rw [t.2];split <;> rfl
  ·rw [if_pos t.2]
 have m3:op=14→cmpQ q r<0→biQ op q r=some r:=fun x y=>by
  rw [r6 x]
  rcases tri with t|t|t
  ·rw [if_pos t.2]
  ·omega
  ·omega
 have m4:op=14→¬cmpQ q r<0→biQ op q r=some q:=fun x y=>by
  rw [r6 x,if_neg]
  rcases tri with t|t|t
  ·omega
  ·rw [t.2];exact Rat.lt_irrefl
  ·exact fun z=>rat_asymm z t.2
 have mq:lt (cmpQ q r) 0=eq op 13→op=13∨op=14→biQ op q r=some q:=fun x y=>by
  by_cases z:cmpQ q r<0
  ·rw [Vc.lt_true' z,eq_dec] at x
   rcases y with y|y
   ·exact m1 y z
   ·rw [dec_false (by omega)] at x;cases x
  ·rw [Vc.lt_false' (by omega),eq_dec] at x
   rcases y with y|y
   ·rw [dec_true y] at x;cases x
   ·exact m4 y z
 have mr:¬(lt (cmpQ q r) 0=eq op 13)→op=13∨op=14→biQ op q r=some r:=fun x y=>by
  by_cases z:cmpQ q r<0
  ·rw [Vc.lt_true' z,eq_dec] at x
   rcases y with y|y
   ·rw [dec_true y] at x;exact absurd rfl x
   ·exact m3 y z
  ·rw [Vc.lt_false' (by omega),eq_dec] at x
   rcases y with y|y
   ·exact m2 y z
   ·rw [dec_false (by omega)] at x;exact absurd rfl x
 clear r5 r6 tri m1 m2 m3 m4
 obtain ⟨R,hR⟩:∃R,R=biQ op q r:=⟨_,rfl⟩
 rw [← hR] at r1 r2 r3 r4 mq mr ⊢
 clear hR
 have c1:=fun h tb w w'=>(AddN h n c d n' c' d' (some q) (some r) tb w w').mono fun v h' _ r=>r.nq
 have c2:=fun h tb w w'=>(SubN h n c d n' c' d' (some q) (some r) tb w w').mono fun v h' _ r=>r.nq
 have c3:=fun h tb w w'=>(MulN h n c d n' c' d' (some q) (some r) tb w w').mono fun v h' _ r=>r.nq
 have c4:=fun h tb w w'=>(DivN h n c d n' c' d' (some q) (some r) tb w w').mono fun v h' _ r=>r.nq
 have c5:=fun h tb w w'=>CompareN h n c d n' c' d' (some q) (some r) tb w w'
 replace c5:∀h,Tb h→IsNum h n c d (some q)→IsNum h n' c' d' (some r)→Fn0 T F.number_Compare [.agg #[.bool n,c.val,d.val],.agg #[.bool n',c'.val,d'.val]] h fun v _=>v=.tuple #[.int .i64 (cmpQ q r),.int .i64 0]:=c5
 have o1:OutX (opR (·+·) (some q) (some r)) (fitO (q+r)):=OutX.out (q+r)
 have o2:OutX (opR (· - ·) (some q) (some r)) (fitO (q-r)):=OutX.out (q-r)
 have o3:OutX (opR (·*·) (some q) (some r)) (fitO (q*r)):=OutX.out (q*r)
 have o4:=OutX.div q r
 obtain ⟨P1,hP1⟩:∃P,P=opR (·+·) (some q) (some r):=⟨_,rfl⟩
 obtain ⟨P2,hP2⟩:∃P,P=opR (· - ·) (some q) (some r):=⟨_,rfl⟩
 obtain ⟨P3,hP3⟩:∃P,P=opR (·*·) (some q) (some r):=⟨_,rfl⟩
 obtain ⟨P4,hP4⟩:∃P,P=divR (some q) (some r):=⟨_,rfl⟩
 obtain ⟨C,hC⟩:∃C,C=cmpQ q r:=⟨_,rfl⟩
 rw [← hP1] at o1
 rw [← hP2] at o2
 rw [← hP3] at o3
 rw [← hP4] at o4
 simp only [← hP1] at c1
 simp only [← hP2] at c2
 simp only [← hP3] at c3
 simp only [← hP4] at c4
 simp only [← hC] at c5 mq mr
 clear hP1 hP2 hP3 hP4 hC
 refine f0C ok D.expr_binary rfl ?_
 conv=>whnf
 repeat ((first|refine oI.z ?_|refine cI.z ?_);conv=>whnf)
 repeat' first|((first|(show CN _ _ _ _ _ _;first|((first|refine CN.f rfl (c1 _ (by assumption) (by assumption) (by assumption)) (fun v h' hl hr=>?_)|refine CN.f rfl (c2 _ (by assumption) (by assumption) (by assumption)) (fun v h' hl hr=>?_)|refine CN.f rfl (c3 _ (by assumption) (by assumption) (by assumption)) (fun v h' hl hr=>?_)|refine CN.f rfl (c4 _ (by assumption) (by assumption) (by assumption)) (fun v h' hl hr=>?_));obtain ⟨n1,a1,b1,rfl,hn1⟩:=hr)|(refine CN.f rfl (c5 _ (by assumption) (by assumption) (by assumption)) (fun v h' hl hr=>?_);subst hr)|refine CN.quiet rfl (done_ct _ _ _ _ _) ?_)|((first|refine oI.z ?_|refine cI.z ?_))|intro (_:Nat)|(show LdN _ _ _ _ _;first|refine LdN.o 0 rfl rfl ?_|refine LdN.o 1 rfl rfl ?_|refine LdN.o 2 rfl rfl ?_)|refine Sto.l 0 rfl rfl rfl ?_) <;> (conv=>whnf))|(show cnd _ _ _;first|(refine cnd_eq (fun _=>?_) (fun _=>?_) <;> first|(exfalso;omega)|(conv=>whnf))|(refine cnd_beq (fun _=>?_) (fun hne=>?_) <;> first|exact absurd rfl hne|(conv=>whnf)))
 all_goals first
  | (rw [r1 (by omega)];exact RN.a (VQ.out o1 (by assumption)))
  | (rw [r2 (by omega)];exact RN.a (VQ.out o2 (by assumption)))
  | (rw [r3 (by omega)];exact RN.a (VQ.out o3 (by assumption)))
  | (rw [r4 (by omega)];exact RN.a (VQ.out o4 (by assumption)))
  | (rw [mq (by assumption) (by omega)];exact RN.a ⟨n,c,d,true,by rw [Vc.eq_true' rfl],fun _=>⟨q,rfl,by assumption⟩,fun x=>by cases x⟩)
  | (rw [mq (by assumption) (by omega)];exact RN.a ⟨n,c,d,true,by rw [Vc.eq_true' rfl],fun _=>⟨q,rfl,IsNum.mono (by assumption) (by assumption)⟩,fun x=>by cases x⟩)
  | (rw [mr (by assumption) (by omega)];exact RN.a ⟨n',c',d',true,by rw [Vc.eq_true' rfl],fun _=>⟨r,rfl,IsNum.mono (by assumption) (by assumption)⟩,fun x=>by cases x⟩)
end Go.Proofs.YtbgicephinomlaaGreatDoor
/- Values of variables that come in: a slice of them in memory. -/
namespace Go.Vc
open Go Go.Dig
theorem LdN.hasN {h:Heap} {L:Vc.Own} {b o m:Nat} {k:Value→Prop} (vs:List Value) (hl:vs.length=m) (hv:∀(i:Nat) v,vs[i]?=some v→Has h L ⟨b,o+i,none⟩ v) (hk:k (.agg vs.toArray)):LdN h L ⟨b,o,none⟩ m k:=
 ⟨vs,hl,fun i hi=>by
   rw [add_lit]
   exact hv i _ (by rw [List.getD_eq_getElem?_getD,List.getElem?_eq_getElem (by omega)];rfl),hk⟩
theorem LdN.hasC {h:Heap} {L:Vc.Own} {b o m:Nat} {k:Value→Prop} {x:Value} (vs:List Value) (hl:vs.length+1=m) (hx:Has h L ⟨b,o,none⟩ x) (hv:∀(i:Nat) v,vs[i]?=some v→Has h L ⟨b,o+1+i,none⟩ v) (hk:k (.agg (x::vs).toArray)):LdN h L ⟨b,o,none⟩ m k:=
 LdN.hasN (x::vs) hl (fun i v e=>by
   cases i with
   | zero=>cases e;exact hx
   | succ i=>
     rw [show o+(i+1)=o+1+i by omega]
     exact hv i v (by simpa using e)) hk
end Go.Vc
namespace Go.Proofs.YtbgicephinomlaaGreatDoor
open Go Go.Vc Go.Dig
def IsVs (h:Heap) (c:Array Value):Nat→List (List Nat × Option Rat)→Prop
 | _,[]=>True
 | off,(n,x)::bs=>(c[off]?=some (.string (txt n))∧(∀y∈n,y<256)∧∃ng,∃a b:Sl,(∀i v,[Value.bool ng,a.val,b.val][i]?=some v→c[off+1+i]?=some v)∧IsNum h ng a b x)∧IsVs h c (off+4) bs
structure IsV (h:Heap) (s:Sl) (bs:List (List Nat × Option Rat)):Prop where
 len:s.l=bs.length
 cap:s.l≤s.c
 mem:bs=[]∨∃bl off c T fz,s.a=some ⟨bl,off,none⟩∧h bl=some (.cells c T fz)∧IsVs h c off bs
theorem IsVs.up {h h':Heap} (hl:h.le h') {c:Array Value}:∀{bs:List (List Nat × Option Rat)} {off:Nat},IsVs h c off bs→IsVs h' c off bs
 | [],_,_=>trivial
 | (_,_)::_,_,⟨⟨h1,h2,ng,a,b,h4,h5⟩,r⟩=>⟨⟨h1,h2,ng,a,b,h4,h5.mono hl⟩,IsVs.up hl r⟩
theorem IsV.mono {h h':Heap} {s:Sl} {bs:List (List Nat × Option Rat)} (w:IsV h s bs) (hl:h.le h'):IsV h' s bs:=
 ⟨w.len,w.cap,w.mem.elim .inl fun ⟨bl,off,c,T,fz,k1,k2,k3⟩=>.inr ⟨bl,off,c,T,fz,k1,hl _ _ k2,IsVs.up hl k3⟩⟩
theorem IsV.nil (h:Heap):IsV h ⟨none,0,0⟩ []:=⟨rfl,Nat.le_refl _,.inl rfl⟩
theorem IsVs.get {h:Heap} {c:Array Value}:∀{bs:List (List Nat × Option Rat)} {off j:Nat} {n:List Nat} {x:Option Rat},IsVs h c off bs→bs[j]?=some (n,x)→
  c[off+j*4]?=some (.string (txt n))∧(∀y∈n,y<256)∧∃ng,∃a b:Sl,(∀i v,[Value.bool ng,a.val,b.val][i]?=some v→c[off+j*4+1+i]?=some v)∧IsNum h ng a b x
 | [],_,_,_,_,_,e=>by simp at e
 | (n',t')::bs,off,0,n,t,w,e=>by
  simp at e
  obtain ⟨rfl,rfl⟩:=e
  rw [Nat.zero_mul,Nat.add_zero]
  exact w.1
 | (n',t')::bs,off,j+1,n,t,w,e=>by
  have:=IsVs.get (j:=j) w.2 (by simpa using e)
  rw [show off+4+j*4=off+(j+1)*4 by omega] at this
  exact this
theorem IsV.bytes {h:Heap} {s:Sl} {bs:List (List Nat × Option Rat)} (w:IsV h s bs) {j:Nat} {n:List Nat} {x:Option Rat} (hj:bs[j]?=some (n,x)):∀y∈n,y<256:=by
 rcases w.mem with e|⟨bl,off,c,T,fz,e1,e2,e3⟩
 ·subst e;simp at hj
 ·exact (IsVs.get e3 hj).2.1
theorem Idx.valu {h:Heap} {s:Sl} {bs:List (List Nat × Option Rat)} (w:IsV h s bs) {i:Int} {k:Addr→Prop} (j:Nat) (n:List Nat) (x:Option Rat) (hi:i=j) (ht:bs[j]?=some (n,x))
  (hk:∀(bl off:Nat) (ng:Bool) (a b:Sl),(∀y∈n,y<256)→IsNum h ng a b x→
    (∀h' L,h.le h'→Has h' L ⟨bl,off,none⟩ (.string (txt n)))→(∀h' L (i:Nat) v,h.le h'→[Value.bool ng,a.val,b.val][i]?=some v→Has h' L ⟨bl,off+1+i,none⟩ v)→k ⟨bl,off,none⟩):Idx s.a i s.l 4 k:=by
 obtain ⟨hj,-⟩:=List.getElem?_eq_some_iff.1 ht
 rcases w.mem with e|⟨bl,off,c,T,fz,e1,e2,e3⟩
 ·subst e;simp at ht
 ·obtain ⟨g1,g2,ng,a,b,h2,h3⟩:=IsVs.get e3 ht
  refine Idx.of j e1 hi (by rw [w.len];exact hj) ?_
  exact hk bl (off+j*4) ng a b g2 h3 (fun h' L hl=>Has.imm (hl _ _ e2) g1) fun h' L i v hl hv=>Has.imm (hl _ _ e2) (h2 i v hv)
def stripV (bs:List (List Nat × Option Rat)):List (List Nat × Rat):=bs.map fun b=>(b.1,b.2.getD 0)
def SmlV (bs:List (List Nat × Option Rat)):Prop:=∀b∈bs,b.2.isSome=true
instance (bs:List (List Nat × Option Rat)):Decidable (SmlV bs):=by unfold SmlV;exact inferInstance
def valX (bs:List (List Nat × Option Rat)) (t:Tr):Rat × Bool × Int:=
 if ¬ValT t then (0,false,40) else if ¬NmsB bs then (0,false,41) else if ¬SmlV bs then (0,false,1) else match valT (stripV bs) t with
  | none=>(0,false,0)
  | some q=>(q,true,0)
theorem valX_node {bs:List (List Nat × Option Rat)} {t:Tr} (h:¬ValT t):valX bs t=(0,false,40):=if_pos h
theorem valX_name {bs:List (List Nat × Option Rat)} {t:Tr} (h:ValT t) (n:¬NmsB bs):valX bs t=(0,false,41):=(if_neg fun x=>x h).trans (if_pos n)
theorem valX_size {bs:List (List Nat × Option Rat)} {t:Tr} (h:ValT t) (n:NmsB bs) (s:¬SmlV bs):valX bs t=(0,false,1):=(if_neg fun x=>x h).trans ((if_neg fun x=>x n).trans (if_pos s))
theorem valX_none {bs:List (List Nat × Option Rat)} {t:Tr} (h:ValT t) (n:NmsB bs) (s:SmlV bs) (v:valT (stripV bs) t=none):valX bs t=(0,false,0):=
 (if_neg fun x=>x h).trans ((if_neg fun x=>x n).trans ((if_neg fun x=>x s).trans (by rw [v])))
theorem valX_some {bs:List (List Nat × Option Rat)} {t:Tr} (h:ValT t) (n:NmsB bs) (s:SmlV bs) {q:Rat} (v:valT (stripV bs) t=some q):valX bs t=(q,true,0):=
 (if_neg fun x=>x h).trans ((if_neg fun x=>x n).trans ((if_neg fun x=>x s).trans (by rw [v])))
theorem SmlV_nil:SmlV []:=fun _ h=>by cases h
theorem SmlV_snoc {ps:List (List Nat × Option Rat)} {b:List Nat × Option Rat}:SmlV (ps++[b])↔SmlV ps∧b.2.isSome=true:=by
 unfold SmlV
 simp only [List.mem_append,List.mem_singleton]
 exact ⟨fun h=>⟨fun x hx=>h x (.inl hx),h b (.inr rfl)⟩,fun h x hx=>hx.elim (h.1 x) fun e=>e▸h.2⟩
theorem stripV_snoc (ps:List (List Nat × Option Rat)) (n:List Nat) (x:Option Rat):stripV (ps++[(n,x)])=stripV ps++[(n,x.getD 0)]:=by
 unfold stripV;rw [List.map_append];rfl
theorem stripV_names (ps:List (List Nat × Option Rat)):(stripV ps).map (·.1)=ps.map (·.1):=by
 unfold stripV;rw [List.map_map];rfl
theorem fits_getD {x:Option Rat} (h:∀q,x=some q→fits q):fits (x.getD 0):=by
 cases x with
 | none=>exact fits_zero
 | some q=>exact h q rfl
theorem sr_of {q:Rat} (h:fits q):Sr 128 q:=⟨((fits16 q).1 h).1,((fits16 q).1 h).2⟩
def RQ (h:Heap) (v:Value) (x:Option Rat):Prop:=∃n,∃s t:Sl,∃bb,v=.tuple #[.agg #[.bool n,s.val,t.val],.bool bb]∧(bb=true→∃q,x=some q∧n=sg q∧IsQ h s t q∧Sr 4294967296 q)∧(bb=false→x=none)
theorem sr_div {q r:Rat} (hq:Sr 128 q) (hr:Sr 128 r) (h0:nu r≠0):Sr 256 (q / r):=by
 rw [Rat.div_def]
 exact sr_mul hq (sr_inv hr h0)
end Go.Proofs.YtbgicephinomlaaGreatDoor