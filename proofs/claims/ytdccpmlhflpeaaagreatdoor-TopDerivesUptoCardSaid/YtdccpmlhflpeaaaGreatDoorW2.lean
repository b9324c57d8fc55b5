/- How slices of words read as numbers. -/
import Derived.Test.YtdccpmlhflpeaaaGreatDoorDig
import Derived.Test.YtdccpmlhflpeaaaGreatDoorTab
set_option linter.all false
set_option maxHeartbeats 2000000
set_option maxRecDepth 20000
namespace Go.Vc
open Go Go.Dig

structure Sl where
 a:Option Addr
 l:Nat
 c:Nat
def Sl.val(s:Sl):Value:=.slice s.a s.l s.c

structure Ws (kd:IntKind) (h:aA) (s:Sl) (l:List Nat):Prop where
 len:s.l=l.length
 cap:s.l<=s.c
 mem:l≠[]->∃b off c T fz,s.a=some ⟨b,off,none⟩/\h b=some (.cells c T fz)/\∀i,i<l.length->c[off+i]?=some (.int kd ((l.getD i 0:Nat):Int))

theorem Ws.mono{kd:IntKind}{h h':aA}{s:Sl}{l:List Nat}(w:Ws kd h s l)(hl:h.le h'):Ws kd h' s l:=
 ⟨w.len,w.cap,fun hn=>let ⟨b,off,c,T,fz,h1,h2,h3⟩:=w.mem hn;⟨b,off,c,T,fz,h1,hl _ _ h2,h3⟩⟩
theorem Ag{p:Prop}(h:p:=by (iterate 30 try first|assumption|refine Ws.mono ?_ (by assumption));first|done|assumption):p:=h
theorem Ws.take{kd:IntKind}{h:aA}{s:Sl}{l:List Nat}(w:Ws kd h s l){k:Nat}(hk:k<=l.length):Ws kd h ⟨s.a,k,s.c⟩ (l.take k):=
 ⟨by simp[bE9 hk],by have:=w.cap;have:=w.len;simp;omega,fun hn=>by
   obtain⟨b,off,c,T,fz,h1,h2,h3⟩:=w.mem (by rintro rfl;simp at hn);refine⟨b,off,c,T,fz,h1,h2,fun i hi=>?_⟩
   simp only[bDr] at hi;rw[h3 i Aa];simp[bC7,bFb,show i<k by omega]⟩
theorem Ws.nil{kd:IntKind}{h:aA}{s:Sl}(h1:s.l=0):Ws kd h s []:=⟨h1,Aa,fun hn=>(hn rfl).elim⟩
theorem Idx.ws{kd:IntKind}{h:aA}{s:Sl}{l:List Nat}(w:Ws kd h s l){i:Int}{k:Addr->Prop}(j:Nat)(hi:i=j)(hj:j<l.length)(hk:∀ad,(∀L,Has h L ad (.int kd ((l.getD j 0:Nat):Int)))->k ad):Idx s.a i s.l 1 k:=by
 obtain⟨b,off,c,T,fz,h1,h2,h3⟩:=w.mem (by rintro rfl;simp at hj);exact Idx.one j h1 hi (by have:=w.len;omega) (hk _ fun L=>Has.imm h2 (h3 j hj))
theorem lH.front{s:Sl}{h:Int}{size:Nat}{k:Option Addr->Nat->Nat->Prop}(n:Nat)(hh:h=n)(hn:n<=s.c)(hk:k s.a n s.c):lH s.a 0 h s.c size k:=
 ⟨0,n,s.a,n,s.c,rfl,hh,Aa,hn,by
   have:(fun x:Addr=>x.add (0*size))=id:=by funext x;simp[Addr.add]
   split
   .rfl
   .rw[this];simp,rfl,rfl,hk⟩

def aI(h:aA)(s:Sl)(n:Nat):Prop:=Ws .u32 h s (dg 4294967296 n)
theorem aI.mono{h h':aA}{s:Sl}{n:Nat}(w:aI h s n)(hl:h.le h'):aI h' s n:=Ws.mono w hl
theorem Ah{p:Prop}(h:p:=by (iterate 30 try first|assumption|refine aI.mono ?_ (by assumption));first|done|assumption):p:=h
theorem aI.len{h:aA}{s:Sl}{n:Nat}(w:aI h s n):s.l=ln 4294967296 n:=Ws.len w
def aS(h:aA)(s:Sl)(n:Nat):Prop:=Ws .u32 h s (dg 65536 n)
theorem aS.mono{h h':aA}{s:Sl}{n:Nat}(w:aS h s n)(hl:h.le h'):aS h' s n:=Ws.mono w hl
theorem Ak{p:Prop}(h:p:=by (iterate 30 try first|assumption|refine aS.mono ?_ (by assumption));first|done|assumption):p:=h
theorem aS.len{h:aA}{s:Sl}{n:Nat}(w:aS h s n):s.l=ln 65536 n:=Ws.len w

theorem Ws.put{kd:IntKind}{h:aA}{b:Nat}{T:TypeId}{fz:Nat × Nat}{cells:List Value}{l:List Nat}{n c:Nat}(hn:n=l.length)(hc:n<=c)(hl:∀i,i<l.length->cells[i]?=some (.int kd ((l.getD i 0:Nat):Int))):
  Ws kd (h.put b (.cells cells.toArray T fz)) ⟨some ⟨b,0,none⟩,n,c⟩ l:=
 ⟨hn,hc,fun _=>⟨b,0,cells.toArray,T,fz,rfl,by simp[aA.put],fun i hi=>by simpa using hl i hi⟩⟩

/-! ### own memory that holds numbers -/
def vu(kd:IntKind)(x:Nat):Value:=.int kd (x:Int)
abbrev Row (kd:IntKind) (T:TypeId) (o:List Nat):Obj:=.cells (o.map (vu kd)).toArray T (0,0)
theorem jD(kd:IntKind)(m:Nat):List.replicate m (Value.int kd 0)=(List.replicate m 0).map (vu kd):=by simp[vu]
theorem aKn{kd:IntKind}{o:List Nat}{j:Nat}(hj:j<o.length):(o.map (vu kd)).toArray[j]?=some (.int kd ((o.getD j 0:Nat):Int)):=by
 simp[hj,vu,bC7]
theorem Ld.ws{h:aA}{L:Own}{b off:Nat}{k:Value->Prop}{kd:IntKind}{T:TypeId}{o:List Nat}(n:Nat)(hb:L[n]?=some (b,Row kd T o))(ho:off<o.length)(hk:k (.int kd ((o.getD off 0:Nat):Int))):Ld h L ⟨b,off,none⟩ k:=
 Ld.o n hb (aKn ho) hk
theorem Sto.ws{L:Own}{b off:Nat}{kd:IntKind}{T:TypeId}{o:List Nat}{v:Int}{k:Own->Prop}(n:Nat)(hb:L[n]?=some (b,Row kd T o))(x:Nat)(hx:v=x)(hl:off<o.length)
  (hk:vL (b,Row kd T (o.set off x)) L n k):Sto L ⟨b,off,none⟩ [.int kd v] k:=by
 subst hx;refine Sto.sym n hb (by simpa using hl) rfl ?_;have:(o.map (vu kd)).set off (.int kd x)=(o.set off x).map (vu kd):=by rw[List.map_set];rfl
 rw[this];exact hk
theorem Idx.own{b n:Nat}{i:Int}{k:Addr->Prop}(j:Nat)(hi:i=j)(hj:j<n)(hk:k ⟨b,j,none⟩):Idx (some ⟨b,0,none⟩) i n 1 k:=
 Idx.one j rfl hi hj (by rw[bDu];exact hk)
theorem Mk.of{n:Int}{bytes:Nat}{k:Nat->Prop}(m:Nat)(h:n=m)(h1:m<=281474976710656)(h2:bytes*m<=281474976710656)(hk:k m):Mk n bytes k:=⟨m,h,h1,h2,hk⟩
theorem Ws.row{kd:IntKind}{h:aA}{b:Nat}{T:TypeId}{o:List Nat}{n:Nat}(hn:n=o.length):Ws kd (h.put b (Row kd T o)) ⟨some ⟨b,0,none⟩,n,n⟩ o:=
 Ws.put hn (bDx _) fun i hi=>by simp[hi,vu,bC7]
@[irreducible] def dec (p:Prop) [Decidable p]:Bool:=decide p
theorem aW{p:Prop}[Decidable p]{a b:Prop}(ha:p->a)(hb:¬p->b):cnd (dec p) a b:=by
 unfold dec;by_cases h:p
 .rw[decide_eq_true h];exact ha h
 .rw[decide_eq_false h];exact hb h
theorem bA{p:Prop}[Decidable p](h:p):dec p=true:=by unfold dec;exact decide_eq_true h
theorem aG{p:Prop}[Decidable p](h:¬p):dec p=false:=by unfold dec;exact decide_eq_false h
theorem jX{p:Prop}[Decidable p]:dec p=decide p:=by unfold dec;rfl
structure Hq (p:Prop):Prop where
 out:p
theorem vi{kd:IntKind}{a b:Int}(h:a=b):Value.int kd a=Value.int kd b:=by rw[h]
theorem WN.mul32{x y:Nat}{k:Int->Prop}(hx:x<4294967296)(hy:y<4294967296)(hk:∀p:Nat,Hq (p=x*y)->p<=18446744065119617025->k p):WN .u64 ((x:Int)*(y:Int)) k:=by
 have h:x*y<=4294967295*4294967295:=bFf Aa Aa;have e:((x*y:Nat):Int)=(x:Int)*(y:Int):=by push_cast;rfl
 rw[<-e];have h':x*y<=18446744065119617025:=h;exact WN.u64 (Int.natCast_nonneg _) (by have:=Int.ofNat_le.2 h';exact Int.le_trans this Ad) (hk (x*y) ⟨rfl⟩ h')
end Go.Vc
/- Contracts of package word's functions on natural numbers, first part: of lists, tests, sums. -/
namespace Go.Proofs.Y
open Go Go.Vc Go.Dig

theorem tlB:2<=4294967296:=Ad

theorem oF(h:aA)(s:Sl)(l:List Nat)(hw:Ws .u32 h s l)(hl:∀x∈l,x<4294967296)(hm:l.length<=4398046511104):
  Fn0 T F.q167 [s.val] h fun v h'=>∃s':Sl,v=s'.val/\aI h' s' (evl 4294967296 l):=by
 refine f0C ok D.q167 rfl ?_;conv=>whnf
 repeat ((first|apply oI.z|apply cI.z);conv=>whnf)
 have hlen:=hw.len;have hcap:=hw.cap;refine LpN.of (fun n ρ h' L=>L=[]/\h'=h/\rd ρ 0=.slice s.a n s.c/\n<=l.length/\∀i,n<=i->i<l.length->l.getD i 0=0) s.l ⟨rfl,rfl,rfl,Aa,fun i h1 h2=>by omega⟩ ?_
 conv=>whnf
 repeat intro _
 rename_i n h1 L1 hI;obtain⟨rfl,rfl,e0,hk,hz⟩:=hI;conv at e0=>lhs;whnf
 subst e0;have fin:(n=0\/l.getD (n-1) 0≠0)->aI h1 ⟨s.a,n,s.c⟩ (evl 4294967296 l):=fun he=>by
  unfold aI;rw[aKj tlB hk hl hz he];exact hw.take hk
 have hlast:∀j:Nat,j<n->(l.take n).getD j 0=l.getD j 0:=fun j hj=>by simp[bC7,bFb,hj]
 have hl1:=hlast (n-1);conv=>whnf
 repeat' first|((first|(show Idx _ _ _ _ _;(refine Idx.ws (hw.take hk) (n-1) Aa Aq (fun ad hv=>?_)))|(show Ld _ _ _ _;refine Ld.of (hv _) ?_)|(show lH _ _ _ _ _ _;(refine lH.front (s:=⟨s.a,n,s.c⟩) (n-1) Aa (by show n-1<=s.c;omega) ?_))|((first|apply oI.z|apply cI.z))|refine WN.i64 Aa Aa ?_)<;>conv=>whnf)|(show cnd _ _ _;first|((first|apply aB|apply aD)<;>intro _<;>first|(exfalso;omega)|conv=>whnf))
 .refine⟨rfl,n-1,Aa,rfl,rfl,rfl,Aa,fun i h1 h2=>?_⟩
  by_cases hi:n<=i
  .exact hz i hi h2
  .obtain rfl:i=n-1:=Aa;omega
 .exact RN.a ⟨⟨s.a,n,s.c⟩,rfl,fin (.inr Aa)⟩
 .exact RN.a ⟨⟨s.a,n,s.c⟩,rfl,fin (.inl Aa)⟩

theorem jE(h:aA)(s:Sl)(n:Nat)(hs:aI h s n)(hb:ln 4294967296 n<=1099511627776):Fn0 T F.q145 [s.val] h fun v h'=>h'=h/\v=.bool (dec (n=0)):=by
 have hl:=hs.len;have hz:=aT tlB (n:=n);refine f0C ok D.q145 rfl ?_;conv=>whnf
 repeat ((first|apply oI.z|apply cI.z);conv=>whnf)
 refine RN.a ⟨rfl,?_⟩
 congr 1
 unfold eq dec;apply decide_eq_decide.2;omega

theorem gG(h:aA)(n:Nat)(hn:n<18446744073709551616):Fn0 T F.q143 [.int .u64 n] h fun v h'=>∃s':Sl,v=s'.val/\aI h' s' n:=by
 refine f0C ok D.q143 rfl ?_;conv=>whnf
 repeat' ((first|(show WN _ _ _;refine WN.u32m ?_)|(show cG _ _ _ _;refine cG.of 32 Ad Aa ?_)|((first|apply oI.z|apply cI.z))|intro (_:Nat))<;>conv=>whnf)
 rename_i b;refine CN.keep 0 rfl rfl fun hle=>?_
 refine CN.f rfl (oF _ ⟨some ⟨b,0,none⟩,2,2⟩ [n%4294967296,n / 4294967296%4294967296] (Ws.put rfl (bDx _) ?_) ?_ ?_) (fun v h' hl hr=>?_)
 .intro i hi
  match i,hi with
  | 0,_=>simp
  | 1,_=>simp
 .intro x hx;simp at hx;omega
 .simp
 .obtain⟨s',rfl,hs⟩:=hr;conv=>whnf
  repeat ((first|apply oI.z|apply cI.z);conv=>whnf)
  refine RN.a ⟨s',rfl,?_⟩;have:evl 4294967296 [n%4294967296,n / 4294967296%4294967296]=n:=by simp only[eD,aU];omega
  rwa [this] at hs

theorem aIf(h:aA)(s:Sl)(n:Nat)(hs:aI h s n)(hb:ln 4294967296 n<=1099511627776):Fn0 T F.q86 [s.val] h fun v h'=>h'=h/\v=.bool (dec (n=1)):=by
 have hl:=hs.len;have hn:=bV tlB n;have hlt:=kN tlB n;refine f0C ok D.q86 rfl ?_;conv=>whnf
 repeat ((first|apply oI.z|apply cI.z);conv=>whnf)
 have e1:∀x,dg 4294967296 n=[x]->n=x:=fun x hx=>by rw[hx] at hn;simpa[eD,aU] using hn.symm
 have e2:n=1->ln 4294967296 n=1:=fun hx=>by subst hx;exact jW _ tlB
 refine aD (fun _=>?_) (fun _=>?_)
 .conv=>whnf
  repeat ((first|apply oI.z|apply cI.z);conv=>whnf)
  have hln:ln 4294967296 n=1:=Aa;obtain⟨x,hx⟩:∃x,dg 4294967296 n=[x]:=List.length_eq_one_iff.1 hln
  have:=e1 x hx
  repeat' ((first|(show Idx _ _ _ _ _;(refine Idx.ws hs 0 Aa (by rw[hx];simp) (fun ad hv=>?_)))|(show Ld _ _ _ _;refine Ld.of (hv _) ?_)|((first|apply oI.z|apply cI.z)))<;>conv=>whnf)
  all_goals
   refine RN.a ⟨rfl,?_⟩;have hg:(dg 4294967296 n).getD 0 0=x:=by rw[hx];rfl
   rw[hg]
   congr 1
   simp only[eq,jX,decide_eq_decide];omega
 .conv=>whnf
  repeat ((first|apply oI.z|apply cI.z);conv=>whnf)
  refine RN.a ⟨rfl,?_⟩
  congr 1
  simp only[Bool.false_eq,jX,decide_eq_false_iff_not];intro hx;have:=e2 hx;omega

theorem aDl(h:aA)(a b:Sl)(m n:Nat)(ha:aI h a m)(hb:aI h b n)(la:ln 4294967296 m<=1099511627776)(lb:ln 4294967296 n<=1099511627776):
  Fn0 T F.q202 [a.val,b.val] h fun v h'=>h'=h/\v=.int .i64 (iT m n):=by
 have hal:=ha.len;have hbl:=hb.len;refine f0C ok D.q202 rfl ?_;conv=>whnf
 repeat ((first|apply oI.z|apply cI.z);conv=>whnf)
 have n1:ln 4294967296 m<ln 4294967296 n->iT m n=-1:=fun hx=>by have:=qQ tlB hx;simp[iT,this]
 have n2:ln 4294967296 n<ln 4294967296 m->iT m n=1:=fun hx=>by have:=qQ tlB hx;simp[iT,show ¬m<n by omega,show m≠n by omega]
 repeat' first|((first|((first|apply oI.z|apply cI.z))|refine WN.i64 Aa Aa ?_)<;>conv=>whnf)|(show cnd _ _ _;first|((first|apply aB|apply aD)<;>intro _<;>first|(exfalso;omega)|conv=>whnf)|(refine aJ ?_))
 .refine LpN.of (fun k ρ h' L=>h'=h/\L=[]/\rd ρ 5=.int .i64 ((k:Int)-1)/\k<=ln 4294967296 m/\∀j,k<=j->(dg 4294967296 m).getD j 0=(dg 4294967296 n).getD j 0) (ln 4294967296 m) ⟨rfl,rfl,vi Aa,bDx _,fun j hj=>by rw[gE hj,gE (by unfold ln at *;omega)]⟩ ?_
  conv=>whnf
  repeat intro _
  rename_i k h1 L1 hI;obtain⟨rfl,rfl,e0,hk,hz⟩:=hI;conv at e0=>lhs;whnf
  subst e0;have hda:=dgl tlB m (k-1);have hdb:=dgl tlB n (k-1);conv=>whnf
  repeat' first|((first|(show Idx _ _ _ _ _;first|(refine Idx.ws ha (k-1) Aa (by unfold ln at *;omega) (fun ad hv=>?_))|(refine Idx.ws hb (k-1) Aa (by unfold ln at *;omega) (fun ad hv=>?_)))|(show Ld _ _ _ _;(refine Ld.of (by first|exact hv _|(rename_i hv;exact hv _)) ?_))|((first|apply oI.z|apply cI.z))|refine WN.i64 Aa Aa ?_|refine DrN.run Al ?_)<;>conv=>whnf)|(show cnd _ _ _;first|((first|apply aB|apply bI)<;>intro _<;>first|(exfalso;omega)|conv=>whnf))
  .exact RN.a ⟨rfl,vi (by have:=yR tlB (l:=dg 4294967296 m) (m:=dg 4294967296 n) (k:=k-1) (by unfold ln at *;omega) (kN tlB m) (by unfold ln at *;omega) (fun j hj=>hz j Aa) Aa;rw[bV tlB,bV tlB] at this;simp[iT,this])⟩
  .exact RN.a ⟨rfl,vi (by have:=yR tlB (l:=dg 4294967296 n) (m:=dg 4294967296 m) (k:=k-1) (by unfold ln at *;omega) (kN tlB n) (by unfold ln at *;omega) (fun j hj=>(hz j Aa).symm) Aa;rw[bV tlB,bV tlB] at this;simp[iT,show ¬m<n by omega,show m≠n by omega])⟩
  .refine⟨rfl,k-1,Aa,rfl,rfl,vi Aa,Aa,fun j hj=>?_⟩
   by_cases hjk:k<=j
   .exact hz j hjk
   .obtain rfl:j=k-1:=Aa;omega
  .exact RN.a ⟨rfl,vi (by have:=aPo tlB (yS (l:=dg 4294967296 m) (m:=dg 4294967296 n) (by unfold ln at *;omega) (fun j=>hz j Aa));subst this;simp[iT])⟩
 .exact RN.a ⟨rfl,vi (n1 Aa).symm⟩
 .exact RN.a ⟨rfl,vi (n2 Aa).symm⟩

theorem aXx(k n:Nat):k<ln 4294967296 n\/(dg 4294967296 n).getD k 0=0:=by
 rcases bEp k (ln 4294967296 n) with h|h
 .exact .inl h
 .exact .inr (gE h)
theorem aPq(h:aA)(a b:Sl)(m n:Nat)(ha:aI h a m)(hb:aI h b n)(la:ln 4294967296 m<=1099511627776)(lb:ln 4294967296 n<=1099511627776):
  Fn0 T F.q196 [a.val,b.val] h fun v h'=>∃s:Sl,v=s.val/\aI h' s (m+n):=by
 have hal:=ha.len;have hbl:=hb.len;refine f0C ok D.q196 rfl ?_;conv=>whnf
 repeat ((first|apply oI.z|apply cI.z);conv=>whnf)
 refine aQ.cut (fun ρ h' L=>L=[]/\h'=h/\∃(a b:Sl) (m' n':Nat),rd ρ 0=a.val/\rd ρ 1=b.val/\aI h a m'/\aI h b n'/\m'+n'=m+n/\ln 4294967296 n'<=ln 4294967296 m'/\ln 4294967296 m'<=1099511627776) ?_ ?_
 .conv=>whnf
  repeat' ((first|((first|apply oI.z|apply cI.z))|(apply aB<;>intro _<;>try (exfalso;omega)))<;>conv=>whnf)
  .exact⟨rfl,rfl,rfl,b,a,n,m,rfl,rfl,hb,ha,Aa,Aa,Aa⟩
  .exact⟨rfl,rfl,rfl,a,b,m,n,rfl,rfl,ha,hb,Aa,Aa,Aa⟩
 clear ha hb hal hbl;conv=>whnf
 repeat intro _
 rename_i h1 L1 hJ;obtain⟨rfl,rfl,a,b,m',n',e0,e1,ha,hb,hmn,hln,hlm⟩:=hJ;conv at e0=>lhs;whnf
 subst e0;conv at e1=>lhs;whnf
 subst e1;have hal:=ha.len;have hbl:=hb.len;conv=>whnf
 repeat' ((first|(show Mk _ _ _;refine Mk.of (ln 4294967296 m'+1) Aa Aa Aa ?_)|refine⟨bDx _,?_⟩|((first|apply oI.z|apply cI.z))|intro (_:Nat)|refine WN.i64 Aa Aa ?_)<;>conv=>whnf)
 rename_i bo;refine LpN.of (fun r ρ h' L=>∃(k:Nat) (o:List Nat) (c:Nat),r=ln 4294967296 m'-k/\h'=h1/\L=[(bo,Row .u32 Ty.uint32 o)]/\rd ρ 23=.int .i64 k/\rd ρ 6=.int .u64 c/\k<=ln 4294967296 m'/\o.length=ln 4294967296 m'+1/\(∀x∈o,x<4294967296)/\c<=1/\
     evl 4294967296 (o.take k)+c*4294967296^k=evl 4294967296 ((dg 4294967296 m').take k)+evl 4294967296 ((dg 4294967296 n').take k)) (ln 4294967296 m')
  ⟨0,List.replicate (ln 4294967296 m'+1) 0,0,rfl,rfl,by rw[jD],rfl,rfl,Aa,by simp,by simp,Aa,by simp[aU]⟩ ?_
 conv=>whnf
 repeat intro _
 rename_i r h2 L2 hI;obtain⟨k,o,c,rfl,rfl,rfl,e0,e1,hk,hol,hoB,hc,heq⟩:=hI;conv at e0=>lhs;whnf
 subst e0;conv at e1=>lhs;whnf
 subst e1;have hda:=dgl tlB m' k;have hdb:=dgl tlB n' k;have hz:k<ln 4294967296 n'\/(dg 4294967296 n').getD k 0=0:=aXx k n';conv=>whnf
 repeat' ((first|(apply aQ.go)|(show Idx _ _ _ _ _;first|(refine Idx.ws ha k Aa (by unfold ln at *;omega) (fun ad hv=>?_))|(refine Idx.ws hb k Aa (by unfold ln at *;omega) (fun ad hv=>?_))|refine Idx.own k Aa Aa ?_)|(show Ld _ _ _ _;(refine Ld.of (by first|exact hv _|(rename_i hv;exact hv _)) ?_))|(show WN _ _ _;first|refine WN.u32m ?_|refine WN.i64 Aa Aa ?_|refine WN.u64 Aa Aa ?_)|(show cG _ _ _ _;refine cG.of 32 Ad Aa ?_)|(show Sto _ _ _ _;refine Sto.ws 0 rfl (((dg 4294967296 m').getD k 0+c+(dg 4294967296 n').getD k 0)%4294967296) Aa Aa ?_)|((first|apply oI.z|apply cI.z))|(apply aB<;>intro _<;>try (exfalso;omega)))<;>conv=>whnf)
 .exact⟨rfl,ln 4294967296 m'-(k+1),Aa,k+1,_,((dg 4294967296 m').getD k 0+c+(dg 4294967296 n').getD k 0) / 4294967296,rfl,rfl,rfl,vi Aa,vi Aa,Aa,by simp[hol],aM hoB (bE3 _ Aa),Aa,kP Aa rfl heq⟩
 .exact⟨rfl,ln 4294967296 m'-(k+1),Aa,k+1,_,((dg 4294967296 m').getD k 0+c+(dg 4294967296 n').getD k 0) / 4294967296,rfl,rfl,rfl,vi Aa,vi Aa,Aa,by simp[hol],aM hoB (bE3 _ Aa),Aa,kP Aa rfl heq⟩
 .obtain rfl:k=ln 4294967296 m':=Aa;refine Sto.ws 0 rfl c Aa Aa ?_;conv=>whnf
  repeat ((first|apply oI.z|apply cI.z);conv=>whnf)
  refine CN.keep 0 rfl rfl fun hle=>?_
  refine CN.f rfl (oF _ ⟨some ⟨bo,0,none⟩,ln 4294967296 m'+1,ln 4294967296 m'+1⟩ (o.set (ln 4294967296 m') c) (Ws.row (by simp[hol])) (aM hoB Aa) Aq) (fun v h' hl hr=>?_)
  obtain⟨s',rfl,hs⟩:=hr;conv=>whnf
  repeat ((first|apply oI.z|apply cI.z);conv=>whnf)
  refine RN.a ⟨s',rfl,?_⟩;have e:=jC (b:=4294967296) (l:=o) (k:=ln 4294967296 m') c Aa;rw[fV Aq] at e;rw[eY tlB (bDx _),eY tlB hln] at heq;rw[bDj] at heq
  rwa [e,heq,hmn] at hs

theorem aYf(h:aA)(a b:Sl)(m n:Nat)(ha:aI h a m)(hb:aI h b n)(la:ln 4294967296 m<=1099511627776)(hnm:n<=m):
  Fn0 T F.q205 [a.val,b.val] h fun v h'=>∃s:Sl,v=s.val/\aI h' s (m-n):=by
 have hal:=ha.len;have hbl:=hb.len;have hln:=dH tlB hnm;refine f0C ok D.q205 rfl ?_;conv=>whnf
 repeat' ((first|(show Mk _ _ _;refine Mk.of (ln 4294967296 m) Aa Aa Aa ?_)|refine⟨bDx _,?_⟩|((first|apply oI.z|apply cI.z))|intro (_:Nat))<;>conv=>whnf)
 rename_i bo;refine LpN.of (fun r ρ h' L=>∃(k:Nat) (o:List Nat) (c:Nat),r=ln 4294967296 m-k/\h'=h/\L=[(bo,Row .u32 Ty.uint32 o)]/\rd ρ 15=.int .i64 k/\rd ρ 6=.int .u64 c/\k<=ln 4294967296 m/\o.length=ln 4294967296 m/\(∀x∈o,x<4294967296)/\c<=1/\
     evl 4294967296 (o.take k)+evl 4294967296 ((dg 4294967296 n).take k)=evl 4294967296 ((dg 4294967296 m).take k)+c*4294967296^k) (ln 4294967296 m)
  ⟨0,List.replicate (ln 4294967296 m) 0,0,rfl,rfl,by rw[jD],rfl,rfl,Aa,by simp,by simp,Aa,by simp[aU]⟩ ?_
 conv=>whnf
 repeat intro _
 rename_i r h2 L2 hI;obtain⟨k,o,c,rfl,rfl,rfl,e0,e1,hk,hol,hoB,hc,heq⟩:=hI;conv at e0=>lhs;whnf
 subst e0;conv at e1=>lhs;whnf
 subst e1;have hda:=dgl tlB m k;have hdb:=dgl tlB n k;have hz:k<ln 4294967296 n\/(dg 4294967296 n).getD k 0=0:=aXx k n;conv=>whnf
 repeat' ((first|(apply aQ.go)|(show Idx _ _ _ _ _;first|(refine Idx.ws ha k Aa (by unfold ln at *;omega) (fun ad hv=>?_))|(refine Idx.ws hb k Aa (by unfold ln at *;omega) (fun ad hv=>?_))|refine Idx.own k Aa Aa ?_)|(show Ld _ _ _ _;(refine Ld.of (by first|exact hv _|(rename_i hv;exact hv _)) ?_))|(show WN _ _ _;first|refine WN.u32m ?_|refine WN.u64 Aa Aa ?_|refine WN.u64m ?_|refine WN.i64 Aa Aa ?_)|(show cG _ _ _ _;refine cG.of 63 Ad Aa ?_)|(show Sto _ _ _ _;refine Sto.ws 0 rfl (((dg 4294967296 m).getD k 0+2*4294967296-c-(dg 4294967296 n).getD k 0)%4294967296) Aa Aa ?_)|((first|apply oI.z|apply cI.z))|(apply aB<;>intro _<;>try (exfalso;omega)))<;>conv=>whnf)
 .refine⟨rfl,ln 4294967296 m-(k+1),Aa,k+1,_,(if (dg 4294967296 m).getD k 0<c+(dg 4294967296 n).getD k 0 then 1 else 0),rfl,rfl,rfl,vi Aa,vi Ay,Aa,by simp[hol],aM hoB (bE3 _ Aa),by split<;>omega,aFo (c:=c) Aa Ay heq⟩
 .refine⟨rfl,ln 4294967296 m-(k+1),Aa,k+1,_,(if (dg 4294967296 m).getD k 0<c+(dg 4294967296 n).getD k 0 then 1 else 0),rfl,rfl,rfl,vi Aa,vi Ay,Aa,by simp[hol],aM hoB (bE3 _ Aa),by split<;>omega,aFo (c:=c) Aa Ay heq⟩
 .obtain rfl:k=ln 4294967296 m:=Aa;refine CN.keep 0 rfl rfl fun hle=>?_
  refine CN.f rfl (oF _ ⟨some ⟨bo,0,none⟩,ln 4294967296 m,ln 4294967296 m⟩ o (Ws.row (by simp[hol])) hoB Aa) (fun v h' hl hr=>?_)
  obtain⟨s',rfl,hs⟩:=hr;conv=>whnf
  repeat ((first|apply oI.z|apply cI.z);conv=>whnf)
  refine RN.a ⟨s',rfl,?_⟩;rw[eY tlB (bDx _),eY tlB hln,fV Aa] at heq;have hlt:=iS tlB hoB;rw[hol] at hlt;have:evl 4294967296 o=m-n:=by
   match c,hc with
   | 0,_=>omega
   | 1,_=>omega
  rwa [this] at hs

theorem sZ(h:aA)(a b:Sl)(m n:Nat)(ha:aI h a m)(hb:aI h b n)(la:ln 4294967296 m<=17179869184)(lb:ln 4294967296 n<=17179869184):
  Fn0 T F.q195 [a.val,b.val] h fun v h'=>∃s:Sl,v=s.val/\aI h' s (m*n):=by
 have hal:=ha.len;have hbl:=hb.len;have hma:=aT tlB (n:=m);have hmb:=aT tlB (n:=n);have nil:m*n=0->∃s:Sl,Value.slice none 0 0=s.val/\aI h s (m*n):=fun hx=>⟨⟨none,0,0⟩,rfl,by rw[hx];unfold aI;rw[cM];exact Ws.nil rfl⟩
 refine f0C ok D.q195 rfl ?_;conv=>whnf
 repeat' ((first|(show Mk _ _ _;refine Mk.of (ln 4294967296 m+ln 4294967296 n) Aa Aa Aa ?_)|refine⟨bDx _,?_⟩|((first|apply oI.z|apply cI.z))|intro (_:Nat)|refine WN.i64 Aa Aa ?_|(apply aD<;>intro _<;>try (exfalso;omega)))<;>conv=>whnf)
 .exact RN.a (nil (by rw[hma.1 Aa];simp))
 .exact RN.a (nil (by rw[hmb.1 Aa];simp))
 rename_i h1 h2 bo;clear hma hmb nil h1 h2;refine LpN.of (fun r ρ h' L=>∃(k:Nat) (o:List Nat),r=ln 4294967296 m-k/\h'=h/\L=[(bo,Row .u32 Ty.uint32 o)]/\rd ρ 28=.int .i64 k/\k<=ln 4294967296 m/\o.length=ln 4294967296 m+ln 4294967296 n/\(∀x∈o,x<4294967296)/\(∀j,k+ln 4294967296 n<=j->o.getD j 0=0)/\
     Hq (evl 4294967296 o=evl 4294967296 ((dg 4294967296 m).take k)*n)) (ln 4294967296 m)
  ⟨0,List.replicate (ln 4294967296 m+ln 4294967296 n) 0,rfl,rfl,by rw[jD],rfl,Aa,by simp,by simp,fun j _=>pH _ _,⟨by rw[iB _ Ao];simp[aU]⟩⟩ ?_
 conv=>whnf
 repeat intro _
 rename_i r h2 L2 hI;obtain⟨k,o,rfl,rfl,rfl,e0,hk,hol,hoB,hoz,heq⟩:=hI;conv at e0=>lhs;whnf
 subst e0;have hda:=dgl tlB m k;conv=>whnf
 repeat' ((first|(show Idx _ _ _ _ _;(refine Idx.ws ha k Aa (by unfold ln at *;omega) (fun ad hv=>?_)))|(show Ld _ _ _ _;(refine Ld.of (by first|exact hv _|(rename_i hv;exact hv _)) ?_))|((first|apply oI.z|apply cI.z))|(apply aB<;>intro _<;>try (exfalso;omega)))<;>conv=>whnf)
 .refine LpN.of (fun r ρ h' L=>∃(j:Nat) (o:List Nat) (c:Nat),r=ln 4294967296 n-j/\h'=h2/\L=[(bo,Row .u32 Ty.uint32 o)]/\rd ρ 35=.int .i64 j/\rd ρ 8=.int .u64 c/\j<=ln 4294967296 n/\o.length=ln 4294967296 m+ln 4294967296 n/\(∀x∈o,x<4294967296)/\(∀i,k+ln 4294967296 n<=i->o.getD i 0=0)/\c<4294967296/\
      Hq (evl 4294967296 o+c*4294967296^(k+j)=evl 4294967296 ((dg 4294967296 m).take k)*n+4294967296^k*((dg 4294967296 m).getD k 0*evl 4294967296 ((dg 4294967296 n).take j)))) (ln 4294967296 n)
   ⟨0,o,0,rfl,rfl,rfl,rfl,rfl,Aa,hol,hoB,hoz,Aa,⟨by simp[aU,heq.out]⟩⟩ ?_
  conv=>whnf
  repeat intro _
  rename_i r h3 L3 hI;obtain⟨j,o,c,rfl,rfl,rfl,e0,e1,hj,hol,hoB,hoz,hc,heq⟩:=hI;conv at e0=>lhs;whnf
  subst e0;conv at e1=>lhs;whnf
  subst e1;have hdb:=dgl tlB n j;have hdo:=eM (b:=4294967296) Aa hoB (k+j);conv=>whnf
  repeat' ((first|(show Idx _ _ _ _ _;first|(refine Idx.ws hb j Aa (by unfold ln at *;omega) (fun ad hv=>?_))|refine Idx.own (k+j) Aa Aa ?_)|(show Ld _ _ _ _;first|(refine Ld.of (by first|exact hv _|(rename_i hv;exact hv _)) ?_)|refine Ld.ws 0 rfl Aa ?_)|(show WN _ _ _;first|refine WN.u32m ?_|refine WN.mul32 hda hdb (fun p hp hp'=>?_)|refine WN.i64 Aa Aa ?_|refine WN.u64 Aa Aa ?_)|(show cG _ _ _ _;refine cG.of 32 Ad Aa ?_)|(show Sto _ _ _ _;(rename_i p hp hp';refine Sto.ws 0 rfl ((p+o.getD (k+j) 0+c)%4294967296) Aa Aa ?_))|((first|apply oI.z|apply cI.z))|(apply aB<;>intro _<;>try (exfalso;omega)))<;>conv=>whnf)
  .rename_i p hp hp';refine⟨rfl,ln 4294967296 n-(j+1),Aa,j+1,_,(p+o.getD (k+j) 0+c) / 4294967296,rfl,rfl,rfl,vi Aa,vi Aa,Aa,by simp[hol],aM hoB (bE3 _ Aa),fun i hi=>by rw[cT _ Aa];exact hoz i hi,Aa,⟨?_⟩⟩
   have:=aFp (b:=4294967296) (p:=k+j) (o:=o) (s:=p+o.getD (k+j) 0+c) (x:=(dg 4294967296 m).getD k 0) (y:=(dg 4294967296 n).getD j 0) Aa (by rw[hp.out]) heq.out;rw[show k+(j+1)=k+j+1 by omega,this,etn,bEb,bEb,bEs]
   congr 2
   rw[bEa,bE0 ((dg 4294967296 m).getD k 0)]
  .obtain rfl:j=ln 4294967296 n:=Aa;refine Sto.ws 0 rfl c Aa Aa ?_;conv=>whnf
   repeat' ((first|((first|apply oI.z|apply cI.z))|refine WN.i64 Aa Aa ?_)<;>conv=>whnf)
   refine⟨rfl,ln 4294967296 m-(k+1),Aa,k+1,_,rfl,rfl,rfl,vi Aa,Aa,by simp[hol],aM hoB Aa,fun i hi=>by rw[cT _ Aa];exact hoz i Aa,⟨?_⟩⟩
   have e:=rS (b:=4294967296) (l:=o) (k:=k+ln 4294967296 n) c Aa;rw[hoz _ (bDx _),bFc,bEh,bDj _ c,heq.out,eY tlB (bDx _)] at e;rw[e,etn,bEc,bEa]
 .obtain rfl:k=ln 4294967296 m:=Aa;refine CN.keep 0 rfl rfl fun hle=>?_
  refine CN.f rfl (oF _ ⟨some ⟨bo,0,none⟩,ln 4294967296 m+ln 4294967296 n,ln 4294967296 m+ln 4294967296 n⟩ o (Ws.row (by simp[hol])) hoB Aa) (fun v h' hl hr=>?_)
  obtain⟨s',rfl,hs⟩:=hr;conv=>whnf
  repeat ((first|apply oI.z|apply cI.z);conv=>whnf)
  refine RN.a ⟨s',rfl,?_⟩;have heq:=heq.out;rw[eY tlB (bDx _)] at heq
  rwa [heq] at hs
end Go.Proofs.Y