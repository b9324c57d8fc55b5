/- Names of expressions: words, reserved words, the names of the elementary functions; the program's and the reference's. -/
import Derived.Test.YtieblmbjldlaeaaGreatDoorP4
set_option linter.all false
set_option maxHeartbeats 2000000
set_option maxRecDepth 20000
namespace Go.Dig
def ltr (c:Nat):Bool:=Nat.ble 97 c && Nat.ble c 122
theorem pP {c:Nat}:ltr c=true↔97≤c∧c≤122:=by unfold ltr;simp [Nat.ble_eq]
def aln (c:Nat):Bool:=ltr c || dgt c
def dD:List Nat→Nat
 | []=>0
 | c::l=>if ltr c then (l.takeWhile aln).length+1 else 0
def bA:List (List Nat):=[[101,120,112],[108,111,103],[115,105,110],[99,111,115],[116,97,110],[97,115,105,110],[97,99,111,115],[97,116,97,110]]
def lT:List (List Nat):=[[112,105],[97,98,115],[109,105,110],[109,97,120],[114,111,111,116],[115,113,114,116],[105,102],[105,110,102],[102,111,114],[105,110],[119,104,101,114,101]]
def pQ (l:List Nat):Prop:=l∈lT∨l∈bA
instance (l:List Nat):Decidable (pQ l):=by unfold pQ;exact inferInstance
def gH (l:List Nat):Prop:=l.length≤8∧dD l=l.length∧l≠[]∧¬pQ l
instance (l:List Nat):Decidable (gH l):=by unfold gH;exact inferInstance
def vB (l:List Nat):Nat:=if l∈bA then bA.idxOf l+1 else 0
theorem wC {p:Nat→Bool} (l:List Nat):∀k,k≤l.length→(∀i,i<k→p (l.getD i 0)=true)→(k=l.length∨¬p (l.getD k 0)=true)→(l.takeWhile p).length=k:=by
 induction l with
 | nil=>intro k hk _ _;simp at hk;subst hk;simp
 | cons c l ih=>
  intro k hk h1 h2
  cases k with
  | zero=>
   rcases h2 with h2|h2
   ·simp at h2
   ·simp at h2;simp [h2]
  | succ k=>
   have hc:=h1 0 (by omega)
   simp at hc
   have:=ih k (by simpa using hk) (fun i hi=>by have:=h1 (i+1) (by omega);simpa using this) (by
     rcases h2 with h2|h2
     ·left;simpa using h2
     ·right;simpa using h2)
   simp [List.takeWhile_cons,hc,this]
theorem yF (l:List Nat):dD l≤l.length:=by
 cases l with
 | nil=>exact aWf _
 | cons c l=>
  have:=(List.takeWhile_sublist (p:=aln) (l:=l)).length_le
  show (if ltr c then (l.takeWhile aln).length+1 else 0)≤l.length+1
  split <;> omega
end Go.Dig
namespace Go.Vc
open Go Go.Dig
theorem nK {a b:List Nat} {p q:Prop} (ha:∀y∈a,y<256) (hb:∀y∈b,y<256) (hp:a=b→p) (hq:a≠b→q):cnd (seq (txt a) (txt b)) p q:=
 xK (fun h=>hp (yD ha hb h)) (fun h=>hq fun e=>h (by rw [e]))
theorem gS {s e:ByteArray} {p q:Prop} (l a:List Nat) (hs:s=txt l) (he:e=txt a) (hb:∀y∈l,y<256) (ha:∀y∈a,y<256) (hp:l=a→p) (hq:l≠a→q):cnd (seq s e) p q:=by
 subst hs he;exact nK hb ha hp hq
structure aA3 (h:aA) (s:Sl) (ls:List (List Nat)):Prop where
 len:s.l=ls.length
 mem:∃b c T fz,s.a=some ⟨b,0,none⟩∧h b=some (.cells c T fz)∧∀i,i<ls.length→c[i]?=some (.string (txt (ls.getD i [])))
theorem aA3.mono {h h':aA} {s:Sl} {ls:List (List Nat)} (w:aA3 h s ls) (hl:h.le h'):aA3 h' s ls:=
 ⟨w.len,let ⟨b,c,T,fz,h1,h2,h3⟩:=w.mem;⟨b,c,T,fz,h1,hl _ _ h2,h3⟩⟩
theorem Idx.strs {h:aA} {s:Sl} {ls:List (List Nat)} (w:aA3 h s ls) {i:Int} {k:Addr→Prop} (j:Nat) (hi:i=j) (hj:j<ls.length) (hk:∀ad,(∀L,Has h L ad (.string (txt (ls.getD j []))))→k ad):Idx s.a i s.l 1 k:=by
 obtain ⟨b,c,T,fz,h1,h2,h3⟩:=w.mem
 exact Idx.one j h1 hi (by have:=w.len;omega) (by rw [aWc];exact hk _ fun L=>Has.imm h2 (h3 j hj))
end Go.Vc
namespace Go.Proofs.Y
open Go Go.Vc Go.Dig
theorem wD (h:aA) (c:Nat):Fn0 T F.q134 [.int .u8 c] h fun v h'=>h'=h∧v=.bool (dec (ltr c=true)):=by
 have f1:97≤c→dec (ltr c=true)=Vc.le (c:Int) 122:=fun x=>by unfold dec Vc.le;congr 1;exact propext ⟨fun y=>by have:=pP.1 y;omega,fun y=>pP.2 ⟨x,by omega⟩⟩
 have f2:¬97≤c→dec (ltr c=true)=false:=fun x=>aK fun y=>x (pP.1 y).1
 refine f0C ok D.q134 rfl ?_
 conv=>whnf
 repeat' first|((first|((first|apply oI.z|apply cI.z))) <;> (conv=>whnf))|(apply bI<;>intro _<;>first|(exfalso;omega)|conv=>whnf)
 ·exact RN.a ⟨rfl,by rw [f1 (by omega)]⟩
 ·exact RN.a ⟨rfl,by rw [f2 (by omega)]⟩
theorem wF (h:aA) (c:Nat):Fn0 T F.q135 [.int .u8 c] h fun v h'=>h'=h∧v=.bool (dec (dgt c=true)):=by
 have f1:48≤c→dec (dgt c=true)=Vc.le (c:Int) 57:=fun x=>by unfold dec Vc.le;congr 1;exact propext ⟨fun y=>by have:=fZ.1 y;omega,fun y=>fZ.2 ⟨x,by omega⟩⟩
 have f2:¬48≤c→dec (dgt c=true)=false:=fun x=>aK fun y=>x (fZ.1 y).1
 refine f0C ok D.q135 rfl ?_
 conv=>whnf
 repeat' first|((first|((first|apply oI.z|apply cI.z))) <;> (conv=>whnf))|(apply bI<;>intro _<;>first|(exfalso;omega)|conv=>whnf)
 ·exact RN.a ⟨rfl,by rw [f1 (by omega)]⟩
 ·exact RN.a ⟨rfl,by rw [f2 (by omega)]⟩
theorem aA4 {h:aA} {b:Nat} {T:TypeId} {fz:Nat × Nat} {n:Nat} {ls:List (List Nat)} {cs:List Value} (hn:n=ls.length) (hc:cs=ls.map fun l=>.string (txt l)):aA3 (h.put b (.cells cs.toArray T fz)) ⟨some ⟨b,0,none⟩,n,n⟩ ls:=by
 subst hc
 exact ⟨hn,b,(ls.map fun l=>Value.string (txt l)).toArray,T,fz,rfl,by simp [aA.put],fun i hi=>by simp [hi,aVp]⟩
theorem aA5 (h:aA):Fn0 T F.q136 [] h fun v h'=>∃s:Sl,v=s.val∧aA3 h' s bA:=by
 refine f0C ok D.q136 rfl ?_
 conv=>whnf
 repeat' first|((first|((first|apply oI.z|apply cI.z))|intro (_:Nat)) <;> (conv=>whnf))
 exact RN.keep 0 rfl fun hle=>RN.a ⟨⟨some ⟨_,0,none⟩,8,8⟩,rfl,aA4 rfl rfl⟩
theorem aA6 (h:aA):Fn0 T F.q170 [] h fun v h'=>∃s:Sl,v=s.val∧aA3 h' s (bA++lT):=by
 refine f0C ok D.q170 rfl ?_
 conv=>whnf
 repeat' first|((first|((first|apply oI.z|apply cI.z))|intro (_:Nat)) <;> (conv=>whnf))
 exact RN.keep 0 rfl fun hle=>RN.a ⟨⟨some ⟨_,0,none⟩,19,19⟩,rfl,aA4 rfl rfl⟩
theorem wG:∀l∈bA,∀y∈l,y<256:=by decide
theorem aGe:∀l∈lT,∀y∈l,y<256:=by decide
theorem kV {α:Type} {l:List α} {i:Nat} {d:α} (h:i<l.length):l.getD i d∈l:=by simp [aVp,h]
theorem aI1:∀k,k<8→vB (bA.getD k [])=k+1:=by decide
theorem aP9 (l:List Nat) (k:Nat) (hk:k<bA.length) (h1:bA.getD k []=l):l∈bA∧vB l=k+1:=
 ⟨h1▸kV hk,h1▸aI1 k hk⟩
theorem aQa (l:List Nat) (h0:∀j,j<bA.length→bA.getD j []≠l):l∉bA∧vB l=0:=by
 have hm:l∉bA:=fun hm=>by
  obtain ⟨i,hi,rfl⟩:=List.getElem_of_mem hm
  exact h0 i hi (by simp [aVp,hi])
 exact ⟨hm,if_neg hm⟩
theorem yG (h:aA) (l:List Nat) (hb:∀y∈l,y<256):Fn0 T F.q85 [.string (txt l)] h fun v h'=>v=.tuple #[.int .i64 (vB l:Nat),.bool (dec (l∈bA))]:=by
 have h8:bA.length=8:=rfl
 refine f0C ok D.q85 rfl ?_
 conv=>whnf
 repeat' first|((first|(show CN _ _ _ _ _ _;(refine CN.f rfl (aA5 _) (fun v h' hl hr=>?_);obtain ⟨s,rfl,hs⟩:=hr;have hsl:=hs.len))|((first|apply oI.z|apply cI.z))) <;> (conv=>whnf))
 refine LpN.of (fun r ρ h1 L=>∃k:Nat,r=8-k∧h1=h'∧rd ρ 8=.int .i64 k∧k≤8∧Hq (∀j,j<k→bA.getD j []≠l)) 8 ⟨0,rfl,rfl,vi (by omega),by omega,⟨fun i hi=>by omega⟩⟩ ?_
 conv=>whnf
 repeat intro _
 rename_i r h1 L1 hI
 obtain ⟨k,rfl,rfl,e8,hk,hd⟩:=hI
 conv at e8=>lhs;whnf
 subst e8
 have hg:k<8→∀y∈bA.getD k [],y<256:=fun x=>wG _ (kV (by omega))
 have g1:=fun (x:k<8) y=>aP9 l k (by omega) y
 have g2:=fun (x:k=8)=>aQa l (by subst x;exact hd.out)
 have g3:k<8→bA.getD k []≠l→∀j,j<k+1→bA.getD j []≠l:=fun x y j hj=>by
  by_cases e:j=k
  ·subst e;exact y
  ·exact hd.out j (by omega)
 obtain ⟨X,hX⟩:∃X,X=bA.getD k []:=⟨_,rfl⟩
 rw [← hX] at hg g1 g3
 replace g1:=Hq.mk g1
 replace g2:=Hq.mk g2
 replace g3:=Hq.mk g3
 conv=>whnf
 repeat' first|((first|(show Idx _ _ _ _ _;refine Idx.strs hs k (by omega) (by omega) (fun ad hv=>?_))|(show Ld _ _ _ _;(refine Ld.of (by first|exact hv _|(rename_i hv;exact hv _)) ?_;rw [← hX]))|((first|apply oI.z|apply cI.z))|refine WN.i64 (by omega) (by omega) ?_) <;> (conv=>whnf))|(show cnd _ _ _;first|(refine nK (hg (by omega)) hb (fun _=>?_) (fun _=>?_) <;> (conv=>whnf))|(apply aB<;>intro _<;>first|(exfalso;omega)|conv=>whnf))
 all_goals first
  | exact ⟨rfl,8-(k+1),by omega,k+1,rfl,rfl,vi (by omega),by omega,⟨g3.out (by omega) (by assumption)⟩⟩
  | (rw [(g1.out (by omega) (by assumption)).2,cF (g1.out (by omega) (by assumption)).1];exact RN.a rfl)
  | (rw [(g2.out (by omega)).2,aK (g2.out (by omega)).1];exact RN.a rfl)
theorem aM5 {l:List Nat} (h:l∉lT):dec (pQ l)=dec (l∈bA):=by
 unfold dec pQ;congr 1;exact propext ⟨fun x=>x.elim (fun y=>absurd y h) id,.inr⟩
theorem rQ (h:aA) (l:List Nat) (hb:∀y∈l,y<256):Fn0 T F.q87 [.string (txt l)] h fun v h'=>v=.bool (dec (pQ l)):=by
 have f1:l∈lT→dec (pQ l)=true:=fun x=>cF (.inl x)
 have f2:l∉lT→dec (pQ l)=dec (l∈bA):=aM5
 refine f0C ok D.q87 rfl ?_
 conv=>whnf
 repeat' first|((first|(apply aX.go)|(show CN _ _ _ _ _ _;(refine CN.f rfl (yG _ l hb) (fun v h' hl hr=>?_);obtain rfl:=hr))|((first|apply oI.z|apply cI.z))) <;> (conv=>whnf))|(show cnd _ _ _;first|(refine gS l [112,105] rfl rfl hb (by decide) (fun h1=>?_) (fun h1=>?_) <;> first|exact absurd h1 (by assumption)|exact absurd (by assumption) h1|(conv=>whnf))|(refine gS l [97,98,115] rfl rfl hb (by decide) (fun h1=>?_) (fun h1=>?_) <;> first|exact absurd h1 (by assumption)|exact absurd (by assumption) h1|(conv=>whnf))|(refine gS l [109,105,110] rfl rfl hb (by decide) (fun h1=>?_) (fun h1=>?_) <;> first|exact absurd h1 (by assumption)|exact absurd (by assumption) h1|(conv=>whnf))|(refine gS l [109,97,120] rfl rfl hb (by decide) (fun h1=>?_) (fun h1=>?_) <;> first|exact absurd h1 (by assumption)|exact absurd (by assumption) h1|(conv=>whnf))|(refine gS l [114,111,111,116] rfl rfl hb (by decide) (fun h1=>?_) (fun h1=>?_) <;> first|exact absurd h1 (by assumption)|exact absurd (by assumption) h1|(conv=>whnf))|(refine gS l [115,113,114,116] rfl rfl hb (by decide) (fun h1=>?_) (fun h1=>?_) <;> first|exact absurd h1 (by assumption)|exact absurd (by assumption) h1|(conv=>whnf))|(refine gS l [105,102] rfl rfl hb (by decide) (fun h1=>?_) (fun h1=>?_) <;> first|exact absurd h1 (by assumption)|exact absurd (by assumption) h1|(conv=>whnf))|(refine gS l [105,110,102] rfl rfl hb (by decide) (fun h1=>?_) (fun h1=>?_) <;> first|exact absurd h1 (by assumption)|exact absurd (by assumption) h1|(conv=>whnf))|(refine gS l [102,111,114] rfl rfl hb (by decide) (fun h1=>?_) (fun h1=>?_) <;> first|exact absurd h1 (by assumption)|exact absurd (by assumption) h1|(conv=>whnf))|(refine gS l [105,110] rfl rfl hb (by decide) (fun h1=>?_) (fun h1=>?_) <;> first|exact absurd h1 (by assumption)|exact absurd (by assumption) h1|(conv=>whnf))|(refine gS l [119,104,101,114,101] rfl rfl hb (by decide) (fun h1=>?_) (fun h1=>?_) <;> first|exact absurd h1 (by assumption)|exact absurd (by assumption) h1|(conv=>whnf)))
 all_goals first
  | (rw [f1 (by unfold lT;simp [*])];exact RN.a rfl)
  | (rw [f2 (by unfold lT;simp [*])];exact RN.a rfl)
theorem aEm {c:Nat}:aln c=true↔ltr c=true∨dgt c=true:=by unfold aln;simp
theorem aEn (h:aA) (l:List Nat) (hb:∀y∈l,y<256) (hl:l.length≤9223372036854775807):Fn0 T F.q84 [.string (txt l)] h fun v h'=>h'=h∧v=.int .i64 (dD l:Nat):=by
 have hz:=bB l
 cases l with
 | nil=>
  refine f0C ok D.q84 rfl ?_
  conv=>whnf
  repeat' first|((first|((first|apply oI.z|apply cI.z))) <;> (conv=>whnf))|(show cnd _ _ _;first|(refine fY [] rfl rfl (fun _=>?_) (fun hne=>?_) <;> first|exact absurd rfl hne|(conv=>whnf)))
  all_goals exact RN.a ⟨rfl,rfl⟩
 | cons c m=>
  have hlc:(c::m).length=m.length+1:=rfl
  have w1:ltr c=true→dD (c::m)=(m.takeWhile aln).length+1:=fun x=>if_pos x
  have w0:¬ltr c=true→dD (c::m)=0:=fun x=>if_neg x
  refine f0C ok D.q84 rfl ?_
  conv=>whnf
  repeat' first|((first|(show dE _ _ _;refine dE.at (c::m) c rfl hb 0 (by omega) rfl ?_)|(show CN _ _ _ _ _ _;refine CN.quiet rfl (wD _ c) ?_)|((first|apply oI.z|apply cI.z))) <;> (conv=>whnf))|(show cnd _ _ _;first|(refine fY (c::m) rfl rfl (fun hne=>?_) (fun _=>?_) <;> first|cases hne|(conv=>whnf))|(refine aI ?_)|(apply bJ<;>intro _<;>first|(exfalso;omega)|conv=>whnf))
  all_goals first
   | (refine RN.a ⟨rfl,?_⟩;rw [w0 (by assumption)];rfl)
   | skip
  have hc:ltr c=true:=by assumption
  refine LpN.of (fun r ρ h' L=>∃k:Nat,r=m.length-k∧h'=h∧rd ρ 3=.int .i64 ((k+1:Nat):Int)∧k≤m.length∧Hq (∀i,i<k→aln (m.getD i 0)=true)) m.length ⟨0,rfl,rfl,vi (by omega),by omega,⟨fun i hi=>by omega⟩⟩ ?_
  conv=>whnf
  repeat intro _
  rename_i r h1 L1 hI
  obtain ⟨k,rfl,rfl,e3,hk,hd⟩:=hI
  conv at e3=>lhs;whnf
  subst e3
  have hs:=fun (x:k<m.length) (y:ltr (m.getD k 0)=true∨dgt (m.getD k 0)=true) i (hi:i<k+1)=>(by
    by_cases e:i=k
    ·subst e;exact aEm.2 y
    ·exact hd.out i (by omega):aln (m.getD i 0)=true)
  have hw:=wC m k hk hd.out
  have hn:¬ltr (m.getD k 0)=true→¬dgt (m.getD k 0)=true→¬aln (m.getD k 0)=true:=fun x y z=>(aEm.1 z).elim x y
  have hgk:k<m.length→(c::m)[k+1]?=some (m.getD k 0):=fun x=>by simp [aVp,x]
  obtain ⟨X,hX⟩:∃X,X=m.getD k 0:=⟨_,rfl⟩
  rw [← hX] at hs hw hn hgk
  replace hs:=Hq.mk hs
  replace hw:=Hq.mk hw
  replace hn:=Hq.mk hn
  conv=>whnf
  repeat' first|((first|(show dE _ _ _;refine dE.at (c::m) X rfl hb (k+1) (by omega) (hgk (by omega)) ?_)|(show CN _ _ _ _ _ _;first|refine CN.quiet rfl (wD _ X) ?_|refine CN.quiet rfl (wF _ X) ?_)|((first|apply oI.z|apply cI.z))|refine WN.i64 (by omega) (by omega) ?_) <;> (conv=>whnf))|(show cnd _ _ _;first|(apply aB<;>intro _<;>first|(exfalso;omega)|conv=>whnf)|(apply bJ<;>intro _<;>first|(exfalso;omega)|conv=>whnf))
  all_goals first
   | exact ⟨rfl,m.length-(k+1),by omega,k+1,rfl,rfl,vi (by omega),by omega,⟨hs.out (by omega) (by first|exact .inl (by assumption)|exact .inr (by assumption))⟩⟩
   | (refine RN.a ⟨rfl,?_⟩;rw [w1 hc,hw.out (by first|(left;omega)|(right;exact hn.out (by assumption) (by assumption)))])
end Go.Proofs.Y
/- Names of expressions: what a name is, on both sides. -/
namespace Go.Dig
def wat (l:List Nat) (j:Nat):Prop:=ltr (l.getD j 0)=true∨(j≠0∧dgt (l.getD j 0)=true)
theorem nT {p:Nat→Bool}:∀(m:List Nat),(∀x∈m,p x=true)→(m.takeWhile p).length=m.length
 | [],_=>rfl
 | c::m,h=>by
  rw [List.takeWhile_cons,if_pos (h c aVw),aVs,aVs,nT m fun x hx=>h x (aVz _ hx)]
theorem kG {p:Nat→Bool}:∀(m:List Nat),(∃x∈m,¬p x=true)→(m.takeWhile p).length<m.length
 | [],⟨x,hx,_⟩=>by cases hx
 | c::m,⟨x,hx,hp⟩=>by
  rw [List.takeWhile_cons]
  split
  ·rename_i hc
   rcases aV7.1 hx with rfl|hx
   ·exact absurd hc hp
   ·have:=kG m ⟨x,hx,hp⟩
    simp only [aVs];omega
  ·simp
theorem aGf {l:List Nat} (h:∀j,j<l.length→wat l j):dD l=l.length:=by
 cases l with
 | nil=>rfl
 | cons c m=>
  have h0:ltr c=true:=by
   rcases h 0 (by simp) with x|x
   ·simpa using x
   ·exact absurd rfl x.1
  show (if ltr c then (m.takeWhile aln).length+1 else 0)=m.length+1
  rw [if_pos h0,nT m]
  intro x hx
  obtain ⟨i,hi,rfl⟩:=List.getElem_of_mem hx
  unfold aln
  rcases h (i+1) (by simp;omega) with y|y
  ·simp [aVp,hi] at y;simp [y]
  ·have y:=y.2
   simp [aVp,hi] at y;simp [y]
theorem aI2 {l:List Nat} {j:Nat} (hj:j<l.length) (h:¬wat l j):dD l≠l.length:=by
 cases l with
 | nil=>simp at hj
 | cons c m=>
  show (if ltr c then (m.takeWhile aln).length+1 else 0)≠m.length+1
  by_cases hc:ltr c=true
  ·rw [if_pos hc]
   cases j with
   | zero=>exact absurd (.inl (by simpa using hc)) h
   | succ i=>
    have hi:i<m.length:=by simpa using hj
    have:=kG (p:=aln) m ⟨m[i],List.getElem_mem hi,fun x=>h (by
      unfold aln at x
      unfold wat
      simp [aVp,hi]
      simpa using x)⟩
    omega
  ·rw [if_neg hc];omega
end Go.Dig
namespace Go.Proofs.Y
open Go Go.Vc Go.Dig
theorem tQ (h:aA) (l:List Nat) (hb:∀y∈l,y<256):Fn0 T F.q86 [.string (txt l)] h fun v h'=>v=.bool (dec (gH l)):=by
 have hz:=bB l
 have hw:=yF l
 have f1:l.length≤8→dD l=l.length→l≠[]→dec (gH l)=!dec (pQ l):=fun a b c=>by
  by_cases r:pQ l
  ·rw [cF r,aK fun x=>x.2.2.2 r];rfl
  ·rw [aK r,cF ⟨a,b,c,r⟩];rfl
 have f2:¬l.length≤8→dec (gH l)=false:=fun a=>aK fun x=>a x.1
 have f3:¬dD l=l.length→dec (gH l)=false:=fun a=>aK fun x=>a x.2.1
 have f4:l=[]→dec (gH l)=false:=fun a=>aK fun x=>x.2.2.1 a
 refine f0C ok D.q86 rfl ?_
 conv=>whnf
 repeat' first|((first|(show CN _ _ _ _ _ _;first|refine CN.quiet rfl (aEn _ l hb (by omega)) ?_|(refine CN.f rfl (rQ _ l hb) (fun v h' hl hr=>?_);obtain rfl:=hr))|((first|apply oI.z|apply cI.z))) <;> (conv=>whnf))|(show cnd _ _ _;first|(refine fY l rfl rfl (fun _=>?_) (fun _=>?_) <;> (conv=>whnf))|(apply bI<;>intro _<;>first|(exfalso;omega)|conv=>whnf)|(apply aE<;>intro _<;>first|(exfalso;omega)|conv=>whnf)|(refine aI ?_))
 all_goals first
  | (rw [f1 (by omega) (by omega) (by assumption)];exact RN.a rfl)
  | (rw [f2 (by omega)];exact RN.a rfl)
  | (rw [f3 (by omega)];exact RN.a rfl)
  | (rw [f4 (by assumption)];exact RN.a rfl)
theorem tR (h:aA) (l:List Nat) (hb:∀y∈l,y<256):Fn0 T F.q117 [.string (txt l)] h fun v h'=>v=.bool (dec (gH l)):=by
 refine f0C ok D.q117 rfl ?_
 conv=>whnf
 repeat' first|((first|(show CN _ _ _ _ _ _;(refine CN.f rfl (tQ _ l hb) (fun v h' hl hr=>?_);obtain rfl:=hr))|((first|apply oI.z|apply cI.z))) <;> (conv=>whnf))
 all_goals exact RN.a rfl
theorem aI3 (h:aA) (l:List Nat) (hb:∀y∈l,y<256) (hl:l.length≤9223372036854775807):Fn0 T F.q169 [.string (txt l)] h fun v h'=>h'=h∧v=.bool (dec (dD l=l.length∧l≠[])):=by
 have hz:=bB l
 have f1:(∃j,j<l.length∧¬wat l j)→dec (dD l=l.length∧l≠[])=false:=fun ⟨j,hj,hn⟩=>aK fun x=>aI2 hj hn x.1
 have f2:(∀j,j<l.length→wat l j)→dec (dD l=l.length∧l≠[])=Vc.lt 0 ((txt l).size:Int):=fun x=>by
  unfold dec Vc.lt
  congr 1
  refine propext ⟨fun y=>?_,fun y=>⟨aGf x,fun e=>by have h0:=congrArg List.length e;simp only [aVv] at h0;omega⟩⟩
  have:=List.length_pos_iff.2 y.2
  omega
 refine f0C ok D.q169 rfl ?_
 conv=>whnf
 repeat ((first|apply oI.z|apply cI.z);conv=>whnf)
 skip
 refine LpN.of (fun r ρ h' L=>∃k:Nat,r=l.length-k∧h'=h∧rd ρ 3=.int .i64 k∧k≤l.length∧Hq (∀i,i<k→wat l i)) l.length ⟨0,rfl,rfl,vi (by omega),by omega,⟨fun i hi=>by omega⟩⟩ ?_
 conv=>whnf
 repeat intro _
 rename_i r h1 L1 hI
 obtain ⟨k,rfl,rfl,e3,hk,hd⟩:=hI
 conv at e3=>lhs;whnf
 subst e3
 have g1:=fun (x:k<l.length) (y:wat l k) i (hi:i<k+1)=>(by
   by_cases e:i=k
   ·subst e;exact y
   ·exact hd.out i (by omega):wat l i)
 have g2:k=l.length→dec (dD l=l.length∧l≠[])=Vc.lt 0 ((txt l).size:Int):=fun e=>f2 fun j hj=>hd.out j (by omega)
 have g3:=fun (x:k<l.length) (y:¬wat l k)=>f1 ⟨k,x,y⟩
 have wy:(97≤l.getD k 0∧l.getD k 0≤122)∨(k≠0∧48≤l.getD k 0∧l.getD k 0≤57)→wat l k:=fun x=>x.elim (fun y=>.inl (pP.2 y)) fun y=>.inr ⟨y.1,fZ.2 y.2⟩
 have wn:¬(97≤l.getD k 0∧l.getD k 0≤122)→(k=0∨¬(48≤l.getD k 0∧l.getD k 0≤57))→¬wat l k:=fun x y z=>z.elim (fun u=>x (pP.1 u)) fun u=>y.elim (fun e=>u.1 e) fun v=>v (fZ.1 u.2)
 clear f1 f2
 obtain ⟨X,hX⟩:∃X,X=l.getD k 0:=⟨_,rfl⟩
 rw [← hX] at wy wn
 replace g1:=Hq.mk g1
 replace g3:=Hq.mk g3
 replace wy:=Hq.mk wy
 replace wn:=Hq.mk wn
 conv=>whnf
 repeat' first|((first|(show dE _ _ _;(refine dE.txt l rfl hb k (by omega) (by omega) ?_;rw [← hX]))|((first|apply oI.z|apply cI.z))|refine WN.i64 (by omega) (by omega) ?_) <;> (conv=>whnf))|(show cnd _ _ _;first|(apply aB<;>intro _<;>first|(exfalso;omega)|conv=>whnf)|(apply bI<;>intro _<;>first|(exfalso;omega)|conv=>whnf)|(apply aE<;>intro _<;>first|(exfalso;omega)|conv=>whnf)|(refine aI ?_))
 all_goals first
  | exact ⟨rfl,l.length-(k+1),by omega,k+1,rfl,rfl,vi (by omega),by omega,⟨g1.out (by omega) (wy.out (by omega))⟩⟩
  | (refine RN.a ⟨rfl,?_⟩;rw [g3.out (by omega) (wn.out (by omega) (by omega))])
  | (refine RN.a ⟨rfl,?_⟩;rw [g2 (by omega)])
theorem rR (h:aA) (l:List Nat) (hb:∀y∈l,y<256):Fn0 T F.q115 [.string (txt l)] h fun v h'=>v=.bool (dec (gH l)):=by
 have hz:=bB l
 obtain ⟨R,hR⟩:∃R,R=bA++lT:=⟨_,rfl⟩
 have hRl:R.length=19:=by rw [hR];rfl
 have hRb:∀w∈R,∀y∈w,y<256:=by
  rw [hR];intro w hw
  exact (aVx.1 hw).elim (wG w) (aGe w)
 have hRm:l∈R↔pQ l:=by rw [hR,aVx];exact Or.comm
 have c1:=aA6
 rw [← hR] at c1
 have f1:¬l.length≤8→dec (gH l)=false:=fun a=>aK fun x=>a x.1
 have f2:¬(dD l=l.length∧l≠[])→dec (gH l)=false:=fun a=>aK fun x=>a ⟨x.2.1,x.2.2.1⟩
 have f3:l∈R→dec (gH l)=false:=fun a=>aK fun x=>x.2.2.2 (hRm.1 a)
 have f4:l.length≤8→(dD l=l.length∧l≠[])→l∉R→dec (gH l)=true:=fun a b c=>cF ⟨a,b.1,b.2,fun x=>c (hRm.2 x)⟩
 clear hR hRm
 refine f0C ok D.q115 rfl ?_
 conv=>whnf
 repeat' first|((first|(show CN _ _ _ _ _ _;first|refine CN.quiet rfl (aI3 _ l hb (by omega)) ?_|(refine CN.f rfl (c1 _) (fun v h' hl hr=>?_);obtain ⟨s,rfl,hs⟩:=hr;have hsl:=hs.len))|((first|apply oI.z|apply cI.z))) <;> (conv=>whnf))|(show cnd _ _ _;first|(apply aB<;>intro _<;>first|(exfalso;omega)|conv=>whnf)|(refine aI ?_)|(apply bJ<;>intro _<;>first|(exfalso;omega)|conv=>whnf))
 all_goals first
  | (rw [f1 (by omega)];exact RN.a rfl)
  | (rw [f2 (by assumption)];exact RN.a rfl)
  | skip
 have f5:=f4 (by omega) (by assumption)
 clear f1 f2 f4
 refine LpN.of (fun r ρ h1 L=>∃k:Nat,r=19-k∧h1=h'∧rd ρ 4=.int .i64 k∧k≤19∧Hq (∀j,j<k→R.getD j []≠l)) 19 ⟨0,rfl,rfl,vi (by omega),by omega,⟨fun i hi=>by omega⟩⟩ ?_
 conv=>whnf
 repeat intro _
 rename_i r h1 L1 hI
 obtain ⟨k,rfl,rfl,e4,hk,hd⟩:=hI
 conv at e4=>lhs;whnf
 subst e4
 have hg:k<19→∀y∈R.getD k [],y<256:=fun x=>hRb _ (kV (by omega))
 have g1:=fun (x:k<19) (y:R.getD k []=l)=>f3 (y▸kV (by omega))
 have g2:=fun (x:k=19)=>f5 fun hm=>by
  obtain ⟨i,hi,e⟩:=List.getElem_of_mem hm
  exact hd.out i (by omega) (by simp [aVp,hi,e])
 have g3:k<19→R.getD k []≠l→∀j,j<k+1→R.getD j []≠l:=fun x y j hj=>by
  by_cases e:j=k
  ·subst e;exact y
  ·exact hd.out j (by omega)
 obtain ⟨X,hX⟩:∃X,X=R.getD k []:=⟨_,rfl⟩
 rw [← hX] at hg g1 g3
 replace g1:=Hq.mk g1
 replace g2:=Hq.mk g2
 replace g3:=Hq.mk g3
 conv=>whnf
 repeat' first|((first|(show Idx _ _ _ _ _;refine Idx.strs hs k (by omega) (by omega) (fun ad hv=>?_))|(show Ld _ _ _ _;(refine Ld.of (by first|exact hv _|(rename_i hv;exact hv _)) ?_;rw [← hX]))|((first|apply oI.z|apply cI.z))|refine WN.i64 (by omega) (by omega) ?_) <;> (conv=>whnf))|(show cnd _ _ _;first|(refine nK (hg (by omega)) hb (fun _=>?_) (fun _=>?_) <;> (conv=>whnf))|(apply aB<;>intro _<;>first|(exfalso;omega)|conv=>whnf))
 all_goals first
  | exact ⟨rfl,19-(k+1),by omega,k+1,rfl,rfl,vi (by omega),by omega,⟨g3.out (by omega) (by assumption)⟩⟩
  | (rw [g1.out (by omega) (by assumption)];exact RN.a rfl)
  | (rw [g2.out (by omega)];exact RN.a rfl)
end Go.Proofs.Y