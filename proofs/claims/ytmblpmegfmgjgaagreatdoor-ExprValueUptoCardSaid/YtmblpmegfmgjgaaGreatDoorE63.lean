/- Values of trees, the document's side: operations on values. -/
import Derived.Test.YtmblpmegfmgjgaaGreatDoorE62
import Derived.Test.YtmblpmegfmgjgaaGreatDoorL4
set_option linter.unusedVariables false
set_option linter.unusedSimpArgs false
namespace Go.Proofs.YtmblpmegfmgjgaaGreatDoor
open Go Go.Vc Go.Dig
theorem sr_of {q:Rat} (h:fits q):Sr 128 q:=⟨((fits16 q).1 h).1,((fits16 q).1 h).2⟩
theorem Sr.abs {k:Nat} {q:Rat} (w:Sr k q):Sr k (absQ q):=⟨by rw [nu_abs];exact w.num,by rw [den_abs];exact w.den⟩
def RQ (h:Heap) (v:Value) (x:Option Rat):Prop:=∃n,∃s t:Sl,∃bb,v=.tuple #[.agg #[.bool n,s.val,t.val],.bool bb]∧(bb=true→∃q,x=some q∧n=sg q∧IsQ h s t q∧Sr 4294967296 q)∧(bb=false→x=none)
theorem RQ.some {h:Heap} {s t:Sl} {q:Rat} (w:IsQ h s t q) (z:Sr 4294967296 q):RQ h (.tuple #[.agg #[.bool (sg q),s.val,t.val],.bool true]) (some q):=⟨_,s,t,true,rfl,fun _=>⟨q,rfl,rfl,w,z⟩,fun x=>by cases x⟩
theorem RQ.none (h:Heap) (n:Bool) (s t:Sl):RQ h (.tuple #[.agg #[.bool n,s.val,t.val],.bool false]) none:=⟨n,s,t,false,rfl,fun x=>(by cases x),fun _=>rfl⟩
set_option maxRecDepth 20000 in
theorem Least_ct (h:Heap) (a b c d:Sl) (q r:Rat) (hq:IsQ h a b q) (hr:IsQ h c d r) (fq:fits q) (fr:fits r):
  Fn0 T F.ref01_Least [.agg #[.bool (sg q),a.val,b.val],.agg #[.bool (sg r),c.val,d.val]] h fun v h'=>∃s t:Sl,v=.agg #[.bool (sg (if r<q then r else q)),s.val,t.val]∧IsQ h' s t (if r<q then r else q):=by
 have tri:=cmp_tri r q
 have m1:cmpQ r q<0→(if r<q then r else q)=r:=fun x=>if_pos (by rcases tri with t | t | t;exact t.2;omega;omega)
 have m2:¬cmpQ r q<0→(if r<q then r else q)=q:=fun x=>if_neg fun y=>by
  rcases tri with t | t | t
  ·omega
  ·rw [t.2] at y;exact Rat.lt_irrefl y
  ·exact rat_asymm y t.2
 obtain ⟨M,hM⟩:∃M,M=if r<q then r else q:=⟨_,rfl⟩
 rw [← hM] at m1 m2 ⊢
 have s1:=(sr_of fq).mono (l:=65536) (by decide)
 have s2:=(sr_of fr).mono (l:=65536) (by decide)
 obtain ⟨C,hC⟩:∃C,C=cmpQ r q:=⟨_,rfl⟩
 have c1:=fun h hr hq=>RCmp_ct h c d a b r q hr hq s2 s1
 simp only [← hC] at c1 m1 m2
 clear hM hC tri
 refine fn0_of_codeI ok D.ref01_Least rfl ?_
 conv=>whnf
 repeat ((first | refine opsI.step ?_ | refine codeI.step ?_);conv=>whnf)
 repeat' first | ((first | (show CallN _ _ _ _ _ _;(refine CallN.fn rfl (c1 _ (by assumption) (by assumption)) (fun v h' hl hr=>?_);subst hr)) | ((first | refine opsI.step ?_ | refine codeI.step ?_)) | intro (_:Nat) | (show LdN _ _ _ _ _;first | refine LdN.own 0 rfl rfl ?_ | refine LdN.own 1 rfl rfl ?_ | refine LdN.own 2 rfl rfl ?_) | refine Sto.lit 0 rfl rfl rfl ?_) <;> (conv=>whnf)) | (refine cnd_lt (fun _=>?_) (fun _=>?_) <;> first | (exfalso;omega) | (conv=>whnf))
 all_goals first
  | (rw [m1 (by omega)];exact RetN.all ⟨c,d,rfl,IsQ.mono (by assumption) (by assumption)⟩)
  | (rw [m2 (by omega)];exact RetN.all ⟨a,b,rfl,IsQ.mono (by assumption) (by assumption)⟩)
set_option maxRecDepth 20000 in
theorem Most_ct (h:Heap) (a b c d:Sl) (q r:Rat) (hq:IsQ h a b q) (hr:IsQ h c d r) (fq:fits q) (fr:fits r):
  Fn0 T F.ref01_Most [.agg #[.bool (sg q),a.val,b.val],.agg #[.bool (sg r),c.val,d.val]] h fun v h'=>∃s t:Sl,v=.agg #[.bool (sg (if q<r then r else q)),s.val,t.val]∧IsQ h' s t (if q<r then r else q):=by
 have tri:=cmp_tri r q
 have m1:0<cmpQ r q→(if q<r then r else q)=r:=fun x=>if_pos (by rcases tri with t | t | t;omega;omega;exact t.2)
 have m2:¬0<cmpQ r q→(if q<r then r else q)=q:=fun x=>if_neg fun y=>by
  rcases tri with t | t | t
  ·exact rat_asymm y t.2
  ·rw [t.2] at y;exact Rat.lt_irrefl y
  ·omega
 obtain ⟨M,hM⟩:∃M,M=if q<r then r else q:=⟨_,rfl⟩
 rw [← hM] at m1 m2 ⊢
 have s1:=(sr_of fq).mono (l:=65536) (by decide)
 have s2:=(sr_of fr).mono (l:=65536) (by decide)
 obtain ⟨C,hC⟩:∃C,C=cmpQ r q:=⟨_,rfl⟩
 have c1:=fun h hr hq=>RCmp_ct h c d a b r q hr hq s2 s1
 simp only [← hC] at c1 m1 m2
 clear hM hC tri
 refine fn0_of_codeI ok D.ref01_Most rfl ?_
 conv=>whnf
 repeat ((first | refine opsI.step ?_ | refine codeI.step ?_);conv=>whnf)
 repeat' first | ((first | (show CallN _ _ _ _ _ _;(refine CallN.fn rfl (c1 _ (by assumption) (by assumption)) (fun v h' hl hr=>?_);subst hr)) | ((first | refine opsI.step ?_ | refine codeI.step ?_)) | intro (_:Nat) | (show LdN _ _ _ _ _;first | refine LdN.own 0 rfl rfl ?_ | refine LdN.own 1 rfl rfl ?_ | refine LdN.own 2 rfl rfl ?_) | refine Sto.lit 0 rfl rfl rfl ?_) <;> (conv=>whnf)) | (refine cnd_lt (fun _=>?_) (fun _=>?_) <;> first | (exfalso;omega) | (conv=>whnf))
 all_goals first
  | (rw [m1 (by omega)];exact RetN.all ⟨c,d,rfl,IsQ.mono (by assumption) (by assumption)⟩)
  | (rw [m2 (by omega)];exact RetN.all ⟨a,b,rfl,IsQ.mono (by assumption) (by assumption)⟩)
theorem sr_one:Sr 4294967296 1:=(sr_of fits_one).mono (by decide)
theorem sr_zero':Sr 4294967296 0:=(sr_of fits_zero).mono (by decide)
set_option maxRecDepth 20000 in
set_option maxHeartbeats 1000000 in
theorem RExact_ct (h:Heap) (fn:Int) (a b:Sl) (q:Rat) (h1:1≤fn) (h2:fn≤8) (hf:fits q) (w:IsQ h a b q):Fn0 T F.ref02_Exact [.int .i64 fn,.agg #[.bool (sg q),a.val,b.val]] h fun v h'=>RQ h' v (callQ fn q):=by
 have r1:fn=1∨fn=4→cmpQ q 0=0→callQ fn q=some 1:=fun x y=>(if_pos x).trans (if_pos (cmpQ_eq.1 y))
 have r2:fn=1∨fn=4→cmpQ q 0≠0→callQ fn q=none:=fun x y=>(if_pos x).trans (if_neg fun z=>y (cmpQ_eq.2 z))
 have r3:fn=2∨fn=7→cmpQ q 1=0→callQ fn q=some 0:=fun x y=>(if_neg (by omega)).trans ((if_pos x).trans (if_pos (cmpQ_eq.1 y)))
 have r4:fn=2∨fn=7→cmpQ q 1≠0→callQ fn q=none:=fun x y=>(if_neg (by omega)).trans ((if_pos x).trans (if_neg fun z=>y (cmpQ_eq.2 z)))
 have r5:¬(fn=1∨fn=4)→¬(fn=2∨fn=7)→cmpQ q 0=0→callQ fn q=some 0:=fun x y z=>(if_neg x).trans ((if_neg y).trans (if_pos (cmpQ_eq.1 z)))
 have r6:¬(fn=1∨fn=4)→¬(fn=2∨fn=7)→cmpQ q 0≠0→callQ fn q=none:=fun x y z=>(if_neg x).trans ((if_neg y).trans (if_neg fun u=>z (cmpQ_eq.2 u)))
 obtain ⟨R,hR⟩:∃R,R=callQ fn q:=⟨_,rfl⟩
 rw [← hR] at r1 r2 r3 r4 r5 r6 ⊢
 clear hR
 have s1:=(sr_of hf).mono (l:=65536) (by decide)
 have k0:=fun h=>IntQ_ct h 0 (by decide) (by decide)
 have k1:=fun h=>IntQ_ct h 1 (by decide) (by decide)
 simp only [ratI0] at k0
 simp only [ratI1] at k1
 obtain ⟨C0,hC0⟩:∃C,C=cmpQ q 0:=⟨_,rfl⟩
 obtain ⟨C1,hC1⟩:∃C,C=cmpQ q 1:=⟨_,rfl⟩
 have c0:=fun h s t hq hr=>RCmp_ct h a b s t q 0 hq hr s1 ((sr_of fits_zero).mono (by decide))
 have c1:=fun h s t hq hr=>RCmp_ct h a b s t q 1 hq hr s1 ((sr_of fits_one).mono (by decide))
 simp only [← hC0] at c0 r1 r2 r5 r6
 simp only [← hC1] at c1 r3 r4
 clear hC0 hC1
 have z0:=sr_zero'
 have z1:=sr_one
 obtain ⟨Z,hZ⟩:∃Z:Rat,Z=0:=⟨_,rfl⟩
 obtain ⟨O,hO⟩:∃O:Rat,O=1:=⟨_,rfl⟩
 simp only [← hZ] at k0 c0 r3 r5 z0
 simp only [← hO] at k1 c1 r1 z1
 clear hZ hO
 refine fn0_of_codeI ok D.ref02_Exact rfl ?_
 conv=>whnf
 repeat ((first | refine opsI.step ?_ | refine codeI.step ?_);conv=>whnf)
 repeat' first | ((first | (show SeqN _ _ _ _ _ _ _;refine SeqN.go ?_) | (show CallN _ _ _ _ _ _;first | ((first | refine CallN.fn rfl (k0 _) (fun v h' hl hr=>?_) | refine CallN.fn rfl (k1 _) (fun v h' hl hr=>?_));obtain ⟨s1',t1',rfl,hi⟩:=hr) | ((first | refine CallN.fn rfl (c0 _ _ _ (by (iterate 30 (try first | assumption | refine IsQ.mono ?_ (by assumption)));first | done | assumption) (by assumption)) (fun v h' hl hr=>?_) | refine CallN.fn rfl (c1 _ _ _ (by (iterate 30 (try first | assumption | refine IsQ.mono ?_ (by assumption)));first | done | assumption) (by assumption)) (fun v h' hl hr=>?_));subst hr)) | ((first | refine opsI.step ?_ | refine codeI.step ?_)) | refine ⟨fun _=>HasLe.of_le (by assumption),?_⟩ | intro (_:Nat) | (show LdN _ _ _ _ _;first | refine LdN.own 0 rfl rfl ?_ | refine LdN.own 1 rfl rfl ?_) | refine Sto.lit 0 rfl rfl rfl ?_ | refine DrawN.run (by decide +kernel) ?_) <;> (conv=>whnf)) | (show cnd _ _ _;first | (refine cnd_eq (fun _=>?_) (fun _=>?_) <;> first | (exfalso;omega) | (conv=>whnf)) | (refine cnd_not ?_))
 all_goals first
  | (rw [r1 (by omega) (by omega)];exact RetN.all (RQ.some (by assumption) z1))
  | (rw [r2 (by omega) (by omega)];exact RetN.all (RQ.none _ false ⟨none,0,0⟩ ⟨none,0,0⟩))
  | (rw [r3 (by omega) (by omega)];exact RetN.all (RQ.some (by assumption) z0))
  | (rw [r4 (by omega) (by omega)];exact RetN.all (RQ.none _ false ⟨none,0,0⟩ ⟨none,0,0⟩))
  | (rw [r5 (by omega) (by omega) (by omega)];exact RetN.all (RQ.some (by assumption) z0))
  | (rw [r6 (by omega) (by omega) (by omega)];exact RetN.all (RQ.none _ false ⟨none,0,0⟩ ⟨none,0,0⟩))
theorem fitO_bind {x:Option Rat} (h:∀q,x=some q→fits q):x.bind fitO=x:=by
 cases x with
 | none=>rfl
 | some q=>exact if_pos (h q rfl)
set_option maxRecDepth 20000 in
set_option maxHeartbeats 1000000 in
theorem alone_ct (q:Rat) (hf:fits q) (h:Heap) (op arg:Int) (neg:Bool) (a b s:Sl) (name:List Nat) (c d:Sl) (hop:op=4∨op=9∧-32≤arg∧arg≤32∨op=10∧2≤arg∧arg≤8∨op=11∧1≤arg∧arg≤8∨op=12) (w:IsQ h c d q):
  Fn0 T F.ref04_alone [.agg #[.int .i64 op,.int .i64 arg,.bool neg,a.val,b.val,.string (txt name),s.val],.agg #[.bool (sg q),c.val,d.val]] h fun v h'=>∃x,RQ h' v x∧x.bind fitO=unQ op arg q:=by
 have sq:=sr_of hf
 have r1:op=4→fitO (-q)=unQ op arg q:=fun e=>(if_pos e:unQ op arg q=fitO (-q)).symm
 have r2:op=9→arg<0→signQ q=0→none=unQ op arg q:=fun e e2 e3=>(((if_neg (by omega)).trans (if_pos e)).trans (if_pos ⟨e2,by rw [← nu_eq_zero];exact signQ_zero.1 e3⟩):unQ op arg q=none).symm
 have r2':op=9→¬(arg<0∧signQ q=0)→fitO (powQ q arg)=unQ op arg q:=fun e e2=>(((if_neg (by omega)).trans (if_pos e)).trans (if_neg fun x=>e2 ⟨x.1,signQ_zero.2 (nu_eq_zero.2 x.2)⟩):unQ op arg q=fitO (powQ q arg)).symm
 have r3:op=12→fitO (absQ q)=unQ op arg q:=fun e=>((if_neg (by omega)).trans ((if_neg (by omega)).trans (if_pos e)):unQ op arg q=fitO (absQ q)).symm
 have r4:op=10→(if (exactQ q arg.toNat).2 then fitO (exactQ q arg.toNat).1 else none)=unQ op arg q:=fun e=>((if_neg (by omega)).trans ((if_neg (by omega)).trans ((if_neg (by omega)).trans (if_pos e))):unQ op arg q=if (exactQ q arg.toNat).2 then fitO (exactQ q arg.toNat).1 else none).symm
 have r5:op=11→callQ arg q=unQ op arg q:=fun e=>((if_neg (by omega)).trans ((if_neg (by omega)).trans ((if_neg (by omega)).trans (if_neg (by omega)))):unQ op arg q=callQ arg q).symm
 have p0:arg<0→signQ q≠0→nu q≠0:=fun _ x y=>x (signQ_zero.2 y)
 have g5:∀x,callQ arg q=x→x.bind fitO=callQ arg q:=fun x e=>by rw [← e];exact fitO_bind fun q hq=>callQ_fits hq
 have x4:∀N:Nat,1≤N→Sr 4294967296 (exactQ q N).1:=fun N hN=>(sr_of (exactQ_fits hf hN)).mono (by decide)
 obtain ⟨R,hR⟩:∃R,R=unQ op arg q:=⟨_,rfl⟩
 rw [← hR] at r1 r2 r2' r3 r4 r5 ⊢
 obtain ⟨K,hK⟩:∃K,K=callQ arg q:=⟨_,rfl⟩
 have c5:=fun h (x:op=11) w=>RExact_ct h arg c d q (by omega) (by omega) hf w
 simp only [← hK] at c5 r5 g5
 have hx4:op=10→1≤arg.toNat:=fun _=>by omega
 have c1:=fun h w=>Opp_q h c d q w (sq.mono (by decide))
 have c2:=fun h=>Mag_q h c d q
 have c3:=fun h w h1 h2 h0=>Power_ct h c d q arg h1 h2 h0 w sq
 have c4:=fun h w (x:op=10)=>Exact_ct h c d q arg arg.toNat (by omega) (by omega) (by omega) w ⟨hf.1,hf.2⟩
 have c6:=fun h w=>Sgn_q h c d q w (sq.mono (by decide))
 have z3:=fun h1 h2 h0=>sr_powQ sq (n:=arg) h1 h2 h0
 have w1:=fun h (w:IsQ h c d q)=>IsQ.neg w
 have w2:=fun h (w:IsQ h c d q)=>IsQ.abs w
 have z1:=Sr.neg (sq.mono (l:=4294967296) (by decide))
 have z2:=Sr.abs (sq.mono (l:=4294967296) (by decide))
 replace x4:=x4 arg.toNat
 obtain ⟨S,hS⟩:∃S,S=signQ q:=⟨_,rfl⟩
 obtain ⟨Y1,h1⟩:∃S,S=-q:=⟨_,rfl⟩
 obtain ⟨Y2,h2⟩:∃S,S=absQ q:=⟨_,rfl⟩
 obtain ⟨Y3,h3⟩:∃S,S=powQ q arg:=⟨_,rfl⟩
 obtain ⟨X1,h4⟩:∃S,S=(exactQ q arg.toNat).1:=⟨_,rfl⟩
 obtain ⟨X2,h5⟩:∃S,S=(exactQ q arg.toNat).2:=⟨_,rfl⟩
 simp only [← hS] at c6 r2 r2' p0
 simp only [← h1] at c1 r1 w1 z1
 simp only [← h2] at c2 r3 w2 z2
 simp only [← h3] at c3 r2' z3
 simp only [← h4,← h5] at c4 r4 x4
 replace r1:=Hq.mk r1
 replace r2:=Hq.mk r2
 replace r2':=Hq.mk r2'
 replace r3:=Hq.mk r3
 replace r4:=Hq.mk r4
 replace r5:=Hq.mk r5
 replace p0:=Hq.mk p0
 replace hx4:=Hq.mk hx4
 clear hR hK hS h1 h2 h3 h4 h5
 refine fn0_of_codeI ok D.ref04_alone rfl ?_
 conv=>whnf
 repeat ((first | refine opsI.step ?_ | refine codeI.step ?_);conv=>whnf)
 repeat' first | ((first | (show CallN _ _ _ _ _ _;first | refine CallN.quiet rfl (c1 _ (by assumption)) ?_ | refine CallN.quiet rfl (c2 _) ?_ | refine CallN.quiet rfl (c6 _ (by assumption)) ?_ | (refine CallN.fn rfl (c3 _ (by assumption) (by omega) (by omega) (fun x=>p0.out x (by omega))) (fun v h' hl hr=>?_);obtain ⟨s1,t1,rfl,hq1⟩:=hr) | (refine CallN.fn rfl (c4 _ (by assumption) (by omega)) (fun v h' hl hr=>?_);obtain ⟨s1,t1,rfl,hq1⟩:=hr) | (refine CallN.fn rfl (c5 _ (by omega) (by assumption)) (fun v h' hl hr=>?_);obtain ⟨n1,s1,t1,b1,rfl,g1,g2⟩:=hr)) | ((first | refine opsI.step ?_ | refine codeI.step ?_)) | intro (_:Nat) | (show LdN _ _ _ _ _;first | refine LdN.own 0 rfl rfl ?_ | refine LdN.own 1 rfl rfl ?_) | refine Ld.own 2 rfl rfl ?_ | refine Sto.lit 0 rfl rfl rfl ?_) <;> (conv=>whnf)) | (show cnd _ _ _;first | (refine cnd_lt (fun _=>?_) (fun _=>?_) <;> first | (exfalso;omega) | (conv=>whnf)) | (refine cnd_eq (fun _=>?_) (fun _=>?_) <;> first | (exfalso;omega) | (conv=>whnf)))
 all_goals first
  | (refine RetN.all ⟨some Y1,RQ.some (w1 _ (by assumption)) z1,r1.out (by omega)⟩)
  | (refine RetN.all ⟨some Y2,RQ.some (w2 _ (by assumption)) z2,r3.out (by omega)⟩)
  | (refine RetN.all ⟨none,RQ.none _ false ⟨none,0,0⟩ ⟨none,0,0⟩,r2.out (by omega) (by omega) (by omega)⟩)
  | (refine RetN.all ⟨some Y3,RQ.some (by assumption) (z3 (by omega) (by omega) fun x=>p0.out x (by omega)),r2'.out (by omega) (by omega)⟩)
  | (refine RetN.all ⟨K,⟨_,_,_,_,rfl,g1,g2⟩,(g5 K rfl).trans (r5.out (by omega))⟩)
  | (refine RetN.all ?_
     rw [← r4.out (by omega)]
     refine ⟨if X2 then some X1 else none,⟨_,_,_,_,rfl,fun x=>⟨_,if_pos x,rfl,by assumption,x4 (hx4.out (by omega))⟩,fun x=>if_neg (by rw [x];decide)⟩,?_⟩
     by_cases y:X2=true
     ·rw [if_pos y,if_pos y];rfl
     ·rw [if_neg y,if_neg y];rfl)
theorem sr_div {q r:Rat} (hq:Sr 128 q) (hr:Sr 128 r) (h0:nu r≠0):Sr 256 (q / r):=by
 rw [Rat.div_def]
 exact sr_mul hq (sr_inv hr h0)
set_option maxRecDepth 20000 in
set_option maxHeartbeats 1000000 in
theorem pair_ct (q r:Rat) (hf:fits q) (hf':fits r) (h:Heap) (op:Int) (a b c d:Sl) (hop:op=5∨op=6∨op=7∨op=8∨op=13∨op=14) (w:IsQ h a b q) (w':IsQ h c d r):
  Fn0 T F.ref04_pair [.int .i64 op,.agg #[.bool (sg q),a.val,b.val],.agg #[.bool (sg r),c.val,d.val]] h fun v h'=>∃x,RQ h' v x∧x.bind fitO=biQ op q r:=by
 have sq:=sr_of hf
 have sr:=sr_of hf'
 have fm:fits (if r<q then r else q):=by split <;> assumption
 have fM:fits (if q<r then r else q):=by split <;> assumption
 have r1:op=5→fitO (q+r)=biQ op q r:=fun e=>(if_pos e:biQ op q r=_).symm
 have r2:op=6→fitO (q-r)=biQ op q r:=fun e=>((if_neg (by omega)).trans (if_pos e):biQ op q r=_).symm
 have r3:op=7→fitO (q*r)=biQ op q r:=fun e=>((if_neg (by omega)).trans ((if_neg (by omega)).trans (if_pos e)):biQ op q r=_).symm
 have r4:op=8→signQ r=0→none=biQ op q r:=fun e e2=>(((if_neg (by omega)).trans ((if_neg (by omega)).trans ((if_neg (by omega)).trans (if_pos e)))).trans (if_pos (nu_eq_zero.1 (signQ_zero.1 e2))):biQ op q r=_).symm
 have r4':op=8→signQ r≠0→fitO (q / r)=biQ op q r:=fun e e2=>(((if_neg (by omega)).trans ((if_neg (by omega)).trans ((if_neg (by omega)).trans (if_pos e)))).trans (if_neg fun x=>e2 (signQ_zero.2 (nu_eq_zero.2 x))):biQ op q r=_).symm
 have r5:op=13→fitO (if r<q then r else q)=biQ op q r:=fun e=>(if_pos fm).trans ((if_neg (by omega)).trans ((if_neg (by omega)).trans ((if_neg (by omega)).trans ((if_neg (by omega)).trans (if_pos e)))):biQ op q r=_).symm
 have r6:op=14→fitO (if q<r then r else q)=biQ op q r:=fun e=>(if_pos fM).trans ((if_neg (by omega)).trans ((if_neg (by omega)).trans ((if_neg (by omega)).trans ((if_neg (by omega)).trans (if_neg (by omega))))):biQ op q r=_).symm
 have d0:signQ r≠0→Sr 4294967296 (q / r):=fun x=>(sr_div sq sr fun y=>x (signQ_zero.2 y)).mono (by decide)
 obtain ⟨R,hR⟩:∃R,R=biQ op q r:=⟨_,rfl⟩
 rw [← hR] at r1 r2 r3 r4 r4' r5 r6 ⊢
 have u1:=sq.mono (l:=1073741824) (by decide)
 have u2:=sr.mono (l:=1073741824) (by decide)
 have c1:=fun h w w'=>Sum_ct h a b c d q r w w' u1 u2
 have c2:=fun h w w'=>Diff_ct h a b c d q r w w' u1 u2
 have c3:=fun h w w'=>Prod_ct h a b c d q r w w' u1 u2
 have c4:=fun h w w'=>Quo_ct h a b c d q r w w' u1 u2
 have c5:=fun h w w'=>Least_ct h a b c d q r w w' hf hf'
 have c6:=fun h w w'=>Most_ct h a b c d q r w w' hf hf'
 have c7:=fun h w'=>Sgn_q h c d r w' (sr.mono (by decide))
 have z1:Sr 4294967296 (q+r):=(sr_add sq sr).mono (by decide)
 have z2:Sr 4294967296 (q-r):=by rw [Rat.sub_eq_add_neg];exact (sr_add sq (Sr.neg sr)).mono (by decide)
 have z3:Sr 4294967296 (q*r):=(sr_mul sq sr).mono (by decide)
 have z5:=(sr_of fm).mono (l:=4294967296) (by decide)
 have z6:=(sr_of fM).mono (l:=4294967296) (by decide)
 obtain ⟨S,hS⟩:∃S,S=signQ r:=⟨_,rfl⟩
 obtain ⟨X1,h1⟩:∃S,S=q+r:=⟨_,rfl⟩
 obtain ⟨X2,h2⟩:∃S,S=q-r:=⟨_,rfl⟩
 obtain ⟨X3,h3⟩:∃S,S=q*r:=⟨_,rfl⟩
 obtain ⟨X4,h4⟩:∃S,S=q / r:=⟨_,rfl⟩
 obtain ⟨X5,h5⟩:∃S,S=if r<q then r else q:=⟨_,rfl⟩
 obtain ⟨X6,h6⟩:∃S,S=if q<r then r else q:=⟨_,rfl⟩
 simp only [← hS] at c7 r4 r4' d0
 simp only [← h1] at c1 r1 z1
 simp only [← h2] at c2 r2 z2
 simp only [← h3] at c3 r3 z3
 simp only [← h4] at c4 r4' d0
 simp only [← h5] at c5 r5 z5
 simp only [← h6] at c6 r6 z6
 clear hR hS h1 h2 h3 h4 h5 h6 fm fM
 refine fn0_of_codeI ok D.ref04_pair rfl ?_
 conv=>whnf
 repeat ((first | refine opsI.step ?_ | refine codeI.step ?_);conv=>whnf)
 repeat' first | ((first | (show CallN _ _ _ _ _ _;first | refine CallN.quiet rfl (c7 _ (by assumption)) ?_ | ((first | refine CallN.fn rfl (c1 _ (by assumption) (by assumption)) (fun v h' hl hr=>?_) | refine CallN.fn rfl (c2 _ (by assumption) (by assumption)) (fun v h' hl hr=>?_) | refine CallN.fn rfl (c3 _ (by assumption) (by assumption)) (fun v h' hl hr=>?_) | refine CallN.fn rfl (c4 _ (by assumption) (by assumption)) (fun v h' hl hr=>?_) | refine CallN.fn rfl (c5 _ (by assumption) (by assumption)) (fun v h' hl hr=>?_) | refine CallN.fn rfl (c6 _ (by assumption) (by assumption)) (fun v h' hl hr=>?_));obtain ⟨s1,t1,rfl,hq1⟩:=hr)) | ((first | refine opsI.step ?_ | refine codeI.step ?_)) | intro (_:Nat) | (show LdN _ _ _ _ _;first | refine LdN.own 0 rfl rfl ?_ | refine LdN.own 1 rfl rfl ?_ | refine LdN.own 2 rfl rfl ?_) | refine Sto.lit 0 rfl rfl rfl ?_) <;> (conv=>whnf)) | (refine cnd_eq (fun _=>?_) (fun _=>?_) <;> first | (exfalso;omega) | (conv=>whnf))
 all_goals first
  | (refine RetN.all ⟨some X1,RQ.some (by assumption) z1,r1 (by omega)⟩)
  | (refine RetN.all ⟨some X2,RQ.some (by assumption) z2,r2 (by omega)⟩)
  | (refine RetN.all ⟨some X3,RQ.some (by assumption) z3,r3 (by omega)⟩)
  | (refine RetN.all ⟨some X4,RQ.some (by assumption) (d0 (by omega)),r4' (by omega) (by omega)⟩)
  | (refine RetN.all ⟨some X5,RQ.some (by assumption) z5,r5 (by omega)⟩)
  | (refine RetN.all ⟨some X6,RQ.some (by assumption) z6,r6 (by omega)⟩)
  | (refine RetN.all ⟨none,RQ.none _ false ⟨none,0,0⟩ ⟨none,0,0⟩,r4 (by omega) (by omega)⟩)
end Go.Proofs.YtmblpmegfmgjgaaGreatDoor