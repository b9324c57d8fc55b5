/- A text cut at its first slash; a text of zeros alone. -/
import Derived.Test.YtieblmbjldlaeaaGreatDoorE14
import Derived.Lib.Strings
import Derived.Lib.Slices
import Derived.Lib.Walk
import Derived.Lib.Bytealg
set_option linter.all false
set_option maxHeartbeats 2000000
set_option maxRecDepth 100000
namespace Go.Dig
def cS:List Nat→Nat
 | []=>0
 | c::l=>if c=47 then 0 else cS l+1
def mU (l:List Nat):Prop:=cS l<l.length∧∀c∈l.drop (cS l+1),c=48
instance (l:List Nat):Decidable (mU l):=by unfold mU;exact inferInstance
end Go.Dig
namespace Go.Vc
open Go Go.Dig
theorem aA8:∀l:List Nat,(∀y∈l,y<256)→Lib.indexByte (txt l).data.toList 47=if cS l<l.length then (cS l:Int) else -1:=by
 have key:∀l:List Nat,(∀y∈l,y<256)→Lib.indexByte (l.map UInt8.ofNat) 47=if cS l<l.length then (cS l:Int) else -1:=by
  intro l
  induction l with
  | nil=>intro _;rfl
  | cons c l ih=>
   intro hb
   have h1:=ih fun y hy=>hb y (aVz _ hy)
   have hc:=hb c aVw
   have e:(UInt8.ofNat c == 47)=decide (c=47):=by
    by_cases h:c=47
    ·subst h;rfl
    ·rw [decide_eq_false h]
     have:UInt8.ofNat c≠47:=fun x=>h (by
       have:=congrArg UInt8.toNat x
       rw [UInt8.toNat_ofNat',Nat.mod_eq_of_lt hc] at this
       exact this)
     simpa using this
   simp only [List.map_cons,Lib.indexByte]
   have hs:cS (c::l)=if c=47 then 0 else cS l+1:=rfl
   rw [e,h1,hs,aVs]
   clear e h1 ih hs
   by_cases hx:c=47
   ·rw [decide_eq_true hx,if_pos rfl,if_pos hx,if_pos (by omega)];rfl
   ·rw [decide_eq_false hx,if_neg hx,if_neg (show ¬(false=true) by decide)]
    obtain ⟨k,hk⟩:∃k,k=cS l:=⟨_,rfl⟩
    rw [← hk]
    by_cases hl:k<l.length
    ·have:((k:Int) == -1)=false:=by simp
     rw [if_pos hl,this,if_neg (show ¬(false=true) by decide),if_pos (by omega)]
     simp
    ·rw [if_neg hl,if_neg (show ¬k+1<l.length+1 by omega)]
     rfl
 intro l hb
 have:=key l hb
 unfold txt
 simpa using this
theorem Fn0.ofCalls {T:Tab} {f:FuncId} {args:List Value} {h:aA} {v:Value} (hc:∀w,Calls T.prog f args.toArray w fun e w'=>e=.returned v∧w'=w):Fn0 T f args h fun v' h'=>h'=h∧v'=v:=by
 refine Fn0.make fun w s=>(hc w).mono fun e w' he=>?_
 obtain ⟨rfl,rfl⟩:=he
 exact ⟨h,[],Inv.init s,rfl,rfl,rfl⟩
end Go.Vc
namespace Go.Proofs.Y
open Go Go.Vc Go.Dig
theorem aA9 (s:ByteArray) (c:Int) (w:World):
  Calls Tryz.prog 217 #[.string s,.int .u8 c] w fun e w'=>e=.returned (.int .i64 (Lib.indexByte s.data.toList c.toNat.toUInt8))∧w'=w:=by
 go_enter Tryz.func217,Tryz.ntmps217
 go_wp2
 rw [run_callFunc_extern Tryz.func239 (by kernel_rfl) (by kernel_rfl) (by kernel_rfl) (e:=Extern.BytealgIndexByte.indexByte) (by kernel_rfl),Lib.run_indexByteString]
 simp only [Result.andThen]
 rw [Oper.upon_value]
 go_wp2
 go_ret
 exact ⟨rfl,rfl⟩
theorem yK (h:aA) (l:List Nat) (hb:∀y∈l,y<256):Fn0 T F.q217 [.string (txt l),.int .u8 47] h fun v h'=>h'=h∧v=.int .i64 (if cS l<l.length then (cS l:Int) else -1):=by
 rw [← aA8 l hb]
 exact Fn0.ofCalls fun w=>aA9 (txt l) 47 w
theorem aJg (h:aA) (l:List Nat) (hb:∀y∈l,y<256):Fn0 T F.q184 [.string (txt l),.string (txt [47])] h fun v h'=>h'=h∧v=.int .i64 (if cS l<l.length then (cS l:Int) else -1):=by
 obtain ⟨V,hV⟩:∃V,V=(if cS l<l.length then (cS l:Int) else -1):=⟨_,rfl⟩
 have c1:=fun h=>yK h l hb
 rw [← hV] at c1 ⊢
 have hz1:((txt [47]).size:Int)=1:=rfl
 refine f0C ok D.q184 rfl ?_
 conv=>whnf
 repeat' first|((first|(show dE _ _ _;refine dE.txt [47] rfl (by decide) 0 rfl (by decide) ?_)|(show CN _ _ _ _ _ _;refine CN.quiet rfl (c1 _) ?_)|((first|apply oI.z|apply cI.z))) <;> (conv=>whnf))|(show cnd _ _ _;first|(refine nK (by decide) hb (fun _=>?_) (fun _=>?_) <;> (conv=>whnf))|(apply aE<;>intro _<;>first|(exfalso;omega)|conv=>whnf))
 all_goals first
  | exact RN.a ⟨rfl,rfl⟩
  | (rename_i hx;subst hx;rw [if_pos (by decide)] at hV;subst hV;exact RN.a ⟨rfl,rfl⟩)
def aC6 (l:List Nat):Value:=if cS l<l.length then .tuple #[.string (txt (l.take (cS l))),.string (txt (l.drop (cS l+1))),.bool true] else .tuple #[.string (txt l),.string (txt []),.bool false]
theorem aQe (h:aA) (l:List Nat) (hb:∀y∈l,y<256) (hl:l.length≤1000000):Fn0 T F.q95 [.string (txt l),.string (txt [47])] h fun v h'=>h'=h∧v=aC6 l:=by
 have hz1:((txt [47]).size:Int)=1:=rfl
 have hz:=bB l
 have c0:=fun h=>aJg h l hb
 have c1:∀h,Fn0 T F.q141 [.string (txt l),.string (txt [47])] h fun v h'=>h'=h∧v=aC6 l:=fun h=>by
  obtain ⟨k,hk⟩:∃k,k=cS l:=⟨_,rfl⟩
  unfold aC6
  rw [← hk] at c0 ⊢
  by_cases hs:k<l.length
  ·rw [if_pos hs] at c0 ⊢
   refine f0C ok D.q141 rfl ?_
   conv=>whnf
   repeat' first|((first|(show CN _ _ _ _ _ _;refine CN.quiet rfl (c0 _) ?_)|(show Cut _ _ _ _;first|(refine Cut.txt l 0 k (by omega) (by omega) rfl (by omega) (by omega) ?_;rw [dQ,List.drop_zero])|(refine Cut.txt l (k+1) l.length (by omega) (by omega) rfl (by omega) (by omega) ?_;rw [dQ,aV4]))|((first|apply oI.z|apply cI.z))|refine WN.i64 (by omega) (by omega) ?_|refine DrN.run (by decide +kernel) ?_) <;> (conv=>whnf))|(apply bI<;>intro _<;>first|(exfalso;omega)|conv=>whnf)
   all_goals exact RN.a ⟨rfl,rfl⟩
  ·rw [if_neg hs] at c0 ⊢
   refine f0C ok D.q141 rfl ?_
   conv=>whnf
   repeat' first|((first|(show CN _ _ _ _ _ _;refine CN.quiet rfl (c0 _) ?_)|((first|apply oI.z|apply cI.z))) <;> (conv=>whnf))|(apply bI<;>intro _<;>first|(exfalso;omega)|conv=>whnf)
   all_goals exact RN.a ⟨rfl,rfl⟩
 by_cases hs:cS l<l.length
 ·unfold aC6 at c1 ⊢
  rw [if_pos hs] at c1 ⊢
  refine f0C ok D.q95 rfl ?_
  conv=>whnf
  repeat' first|((first|(show CN _ _ _ _ _ _;refine CN.quiet rfl (c1 _) ?_)|((first|apply oI.z|apply cI.z))) <;> (conv=>whnf))
  exact RN.a ⟨rfl,rfl⟩
 ·unfold aC6 at c1 ⊢
  rw [if_neg hs] at c1 ⊢
  refine f0C ok D.q95 rfl ?_
  conv=>whnf
  repeat' first|((first|(show CN _ _ _ _ _ _;refine CN.quiet rfl (c1 _) ?_)|((first|apply oI.z|apply cI.z))) <;> (conv=>whnf))
  exact RN.a ⟨rfl,rfl⟩
theorem aJh (h:aA) (l:List Nat) (hb:∀y∈l,y<256) (hl:l.length≤1000000):Fn0 T F.q143 [.string (txt l),.int .u8 48] h fun v h'=>h'=h∧∃k,k≤l.length∧v=.string (txt (l.take k))∧(∀i,k≤i→i<l.length→l.getD i 0=48)∧(k≠0→l.getD (k-1) 0≠48):=by
 refine f0C ok D.q143 rfl ?_
 conv=>whnf
 repeat ((first|apply oI.z|apply cI.z);conv=>whnf)
 skip
 refine LpN.of (fun r ρ h' L=>r≤l.length∧h'=h∧rd ρ 0=.string (txt (l.take r))∧Hq (∀i,r≤i→i<l.length→l.getD i 0=48)) l.length ⟨aWf _,rfl,by rw [aV4];rfl,⟨fun i h1 h2=>by omega⟩⟩ ?_
 conv=>whnf
 repeat intro _
 rename_i r h1 L1 hI
 obtain ⟨hr,rfl,e0,hq⟩:=hI
 conv at e0=>lhs;whnf
 subst e0
 have hz:(txt (l.take r)).size=r:=by rw [bB,aV9,Nat.min_eq_left hr]
 have hb2:∀y∈l.take r,y<256:=fun y hy=>hb y (List.mem_of_mem_take hy)
 have hlen:(l.take r).length=r:=by rw [aV9,Nat.min_eq_left hr]
 have hX:(l.take r).getD (r-1) 0=l.getD (r-1) 0∨r=0:=by
  by_cases h0:r=0
  ·exact .inr h0
  ·left
   simp only [aVp,List.getElem?_take]
   rw [if_pos (by omega)]
 have hcut:((l.take r).take (r-1)).drop 0=l.take (r-1):=by rw [List.drop_zero,List.take_take,Nat.min_eq_left (by omega)]
 have q1:l.getD (r-1) 0=48→∀i,r-1≤i→i<l.length→l.getD i 0=48:=fun x i h1 h2=>by
  by_cases e:i=r-1
  ·rw [e];exact x
  ·exact hq.out i (by omega) h2
 obtain ⟨X,hXd⟩:∃X,X=(l.take r).getD (r-1) 0:=⟨_,rfl⟩
 obtain ⟨Y,hYd⟩:∃Y,Y=l.getD (r-1) 0:=⟨_,rfl⟩
 rw [← hXd,← hYd] at hX
 rw [← hYd] at q1
 replace q1:=Hq.mk q1
 conv=>whnf
 repeat' first|((first|(show dE _ _ _;(refine dE.txt (l.take r) rfl hb2 (r-1) (by omega) (by omega) ?_;rw [← hXd]))|(show Cut _ _ _ _;(refine Cut.txt (l.take r) 0 (r-1) (by omega) (by omega) rfl (by omega) (by omega) ?_;rw [dQ,hcut]))|((first|apply oI.z|apply cI.z))|refine WN.i64 (by omega) (by omega) ?_) <;> (conv=>whnf))|(show cnd _ _ _;first|(apply aB<;>intro _<;>first|(exfalso;omega)|conv=>whnf)|(apply aE<;>intro _<;>first|(exfalso;omega)|conv=>whnf))
 all_goals first
  | exact ⟨rfl,r-1,by omega,by omega,rfl,rfl,⟨q1.out (by omega)⟩⟩
  | exact RN.a ⟨rfl,r,hr,rfl,hq.out,fun x=>by rw [← hYd];omega⟩
theorem aJi (h:aA) (l:List Nat) (hb:∀y∈l,y<256) (hl:l.length≤1000000):Fn0 T F.q142 [.string (txt l),.int .u8 48] h fun v h'=>h'=h∧∃k,k≤l.length∧v=.string (txt (l.drop k))∧(∀i,i<k→l.getD i 0=48)∧(k<l.length→l.getD k 0≠48):=by
 refine f0C ok D.q142 rfl ?_
 conv=>whnf
 repeat ((first|apply oI.z|apply cI.z);conv=>whnf)
 skip
 refine LpN.of (fun r ρ h' L=>∃k,k≤l.length∧r=l.length-k∧h'=h∧rd ρ 0=.string (txt (l.drop k))∧Hq (∀i,i<k→l.getD i 0=48)) l.length ⟨0,aWe _,rfl,rfl,by rw [List.drop_zero];rfl,⟨fun i h1=>by omega⟩⟩ ?_
 conv=>whnf
 repeat intro _
 rename_i r h1 L1 hI
 obtain ⟨k,hk,rfl,rfl,e0,hq⟩:=hI
 conv at e0=>lhs;whnf
 subst e0
 have hz:(txt (l.drop k)).size=l.length-k:=by rw [bB,List.length_drop]
 have hb2:∀y∈l.drop k,y<256:=fun y hy=>hb y (List.mem_of_mem_drop hy)
 have hlen:(l.drop k).length=l.length-k:=List.length_drop
 have hX:(l.drop k).getD 0 0=l.getD k 0:=by simp [aVp]
 have hcut:((l.drop k).take (l.length-k)).drop 1=l.drop (k+1):=by rw [← hlen,aV4,List.drop_drop]
 have q1:l.getD k 0=48→∀i,i<k+1→l.getD i 0=48:=fun x i h1=>by
  by_cases e:i=k
  ·rw [e];exact x
  ·exact hq.out i (by omega)
 obtain ⟨X,hXd⟩:∃X,X=l.getD k 0:=⟨_,rfl⟩
 rw [← hXd] at hX q1
 replace q1:=Hq.mk q1
 conv=>whnf
 repeat' first|((first|(show dE _ _ _;(refine dE.txt (l.drop k) rfl hb2 0 (by omega) (by omega) ?_;rw [hX]))|(show Cut _ _ _ _;(refine Cut.txt (l.drop k) 1 (l.length-k) (by omega) (by omega) rfl (by omega) (by omega) ?_;rw [dQ,hcut]))|((first|apply oI.z|apply cI.z))) <;> (conv=>whnf))|(show cnd _ _ _;first|(apply aB<;>intro _<;>first|(exfalso;omega)|conv=>whnf)|(apply aE<;>intro _<;>first|(exfalso;omega)|conv=>whnf))
 all_goals first
  | exact ⟨rfl,l.length-(k+1),by omega,k+1,by omega,rfl,rfl,rfl,⟨q1.out (by omega)⟩⟩
  | exact RN.a ⟨rfl,k,hk,rfl,hq.out,fun x=>by rw [← hXd];omega⟩
theorem aNh (h:aA) (l:List Nat) (hb:∀y∈l,y<256) (hl:l.length≤1000000):Fn0 T F.q96 [.string (txt l),.string (txt [48])] h fun v h'=>h'=h∧∃m,v=.string (txt m)∧(m=[]↔∀c∈l,c=48)∧∀y∈m,y<256:=by
 have mem:∀{l:List Nat},(∀i,i<l.length→l.getD i 0=48)→∀c∈l,c=48:=fun {l} x c hc=>by
  obtain ⟨i,hi,rfl⟩:=List.getElem_of_mem hc
  have:=x i hi
  simpa [aVp,hi] using this
 have g48:[48].getD 0 0=48:=rfl
 have s48:((txt [48]).size:Int)=1:=rfl
 refine f0C ok D.q96 rfl ?_
 conv=>whnf
 repeat' first|((first|(show dE _ _ _;refine dE.txt [48] rfl (by decide) 0 rfl (by decide) ?_)|(show CN _ _ _ _ _ _;first|(refine CN.f rfl (aJh _ l hb hl) (fun v h' hl2 hr=>?_);obtain ⟨rfl,k,hk,rfl,a1,a2⟩:=hr;clear hl2)|(refine CN.f rfl (aJi _ (l.take _) (fun y hy=>hb y (List.mem_of_mem_take hy)) (by rw [aV9];omega)) (fun v h' hl2 hr=>?_);obtain ⟨rfl,j,hj,rfl,b1,b2⟩:=hr;clear hl2))|((first|apply oI.z|apply cI.z))|refine ⟨fun _=>aH.o (aA.lr _),?_⟩|refine DrN.run (by decide +kernel) ?_) <;> (conv=>whnf))|(show cnd _ _ _;first|(refine fY [48] rfl rfl (fun hx=>absurd hx (by decide)) (fun _=>?_);conv=>whnf)|(refine fY l rfl rfl (fun hx=>?_) (fun hx=>?_) <;> (conv=>whnf))|(apply aB<;>intro _<;>first|(exfalso;omega)|conv=>whnf)|(apply aE<;>intro _<;>first|(exfalso;omega)|conv=>whnf))
 ·subst hx
  exact RN.a ⟨rfl,[],rfl,by simp,by simp⟩
 ·refine RN.a ⟨rfl,_,rfl,⟨fun x=>?_,fun x=>?_⟩,fun y hy=>hb y (List.mem_of_mem_take (List.mem_of_mem_drop hy))⟩
  ·refine mem fun i hi=>?_
   by_cases hik:k≤i
   ·exact a1 i hik hi
   ·have hjk:j=(l.take k).length:=by
     have:=congrArg List.length x
     rw [List.length_drop,aVv] at this;omega
    rw [aV9,Nat.min_eq_left hk] at hjk
    have:=b1 i (by omega)
    simpa [aVp,List.getElem?_take,show i<k by omega] using this
  ·have hk0:k=0:=by
    by_cases h0:k=0
    ·exact h0
    ·refine absurd ?_ (a2 h0)
     rw [aVp,aVq (by omega)]
     exact x _ (List.getElem_mem _)
   subst hk0
   simp
end Go.Proofs.Y
/- Valid trees: plain; the program's count. -/
namespace Go.Dig
mutual
def szT:Tr→Nat
 | .mk _ _ _ _ _ _ ks=>1+fM ks
def fM:List Tr→Nat
 | []=>0
 | t::ts=>szT t+fM ts
end
def cG (op:Int):Int:=
 if op=1∨op=2∨op=3 then 0 else if op=4∨op=9∨op=10∨op=11∨op=12 then 1 else if op=5∨op=6∨op=7∨op=8∨op=13∨op=14 then 2 else if op=15 then 3 else -1
def oN (op:Int):Int:=if op=9 then -32 else if op=10 then 2 else if op=11 then 1 else 0
def jL (op:Int):Int:=if op=9 then 32 else if op=10 then 8 else if op=11 then 8 else 0
end Go.Dig
namespace Go.Proofs.Y
open Go Go.Vc Go.Dig
def aC7 (neg:Bool) (l m:List Nat):Prop:=okR neg l m∧0≤aR neg l m
instance (neg:Bool) (l m:List Nat):Decidable (aC7 neg l m):=by unfold aC7;exact inferInstance
def cX (op arg:Int) (neg:Bool) (l m name:List Nat) (n:Nat):Prop:=
 (n:Int)=cG op∧oN op≤arg∧arg≤jL op∧(if op=2 then gH name else name=[])∧(if op=1 then aC7 neg l m else evl 4294967296 l=0)
instance (op arg:Int) (neg:Bool) (l m name:List Nat) (n:Nat):Decidable (cX op arg neg l m name n):=by unfold cX;exact inferInstance
mutual
def okT:Nat→Tr→Prop
 | d,.mk op arg neg l m name ks=>d≤30∧cX op arg neg l m name ks.length∧fN (d+1) ks
def fN:Nat→List Tr→Prop
 | _,[]=>True
 | d,t::ts=>okT d t∧fN d ts
end
mutual
def aJj:(d:Nat)→(t:Tr)→Decidable (okT d t)
 | d,.mk op arg neg l m name ks=>by
  rw [okT]
  have:=yL (d+1) ks
  exact inferInstance
def yL:(d:Nat)→(ts:List Tr)→Decidable (fN d ts)
 | _,[]=>by rw [fN];exact inferInstance
 | d,t::ts=>by
  rw [fN]
  have:=aJj d t
  have:=yL d ts
  exact inferInstance
end
instance (d:Nat) (t:Tr):Decidable (okT d t):=aJj d t
instance (d:Nat) (ts:List Tr):Decidable (fN d ts):=yL d ts
def dJ (t:Tr):Prop:=okT 1 t∧szT t≤300
instance (t:Tr):Decidable (dJ t):=by unfold dJ;exact inferInstance
theorem aNi:∀t:Tr,0<szT t
 | .mk _ _ _ _ _ _ ks=>by rw [szT];omega
theorem fS:∀{ts:List Tr} {t:Tr},t∈ts→szT t≤fM ts
 | t::ts,u,h=>by
  rw [fM]
  rcases aV7.1 h with rfl|h
  ·omega
  ·have:=fS h;omega
theorem iK:∀(a b:List Tr),fM (a++b)=fM a+fM b
 | [],b=>by rw [List.nil_append,fM,aWc]
 | t::a,b=>by rw [List.cons_append,fM,fM,iK a b];omega
theorem iL {d:Nat}:∀{a b:List Tr},fN d (a++b)↔fN d a∧fN d b
 | [],b=>by rw [List.nil_append,fN];simp
 | t::a,b=>by rw [List.cons_append,fN,fN,iL (a:=a)];exact and_assoc.symm
theorem aZ {α:Type} {l:List α} {j:Nat} {t:α} (h:l[j]?=some t):l.take (j+1)=l.take j++[t]:=by
 rw [List.take_add_one,h];rfl
theorem nL {α:Type} {l:List α} {j:Nat} {t:α} (h:l[j]?=some t):l=l.take j++t::l.drop (j+1):=by
 obtain ⟨hj,rfl⟩:=aVr.1 h
 rw [List.getElem_cons_drop hj,aV6]
/-! a kid in memory -/
theorem gN.get {h:aA} {c:Array Value}:∀{ts:List Tr} {off j:Nat} {t:Tr},gN h c off ts→ts[j]?=some t→∃vs,vs.length=7∧(∀i,i<7→c[off+j*7+i]?=vs[i]?)∧IsE h vs t
 | [],off,j,t,_,e=>by simp at e
 | u::ts,off,0,t,w,e=>by
  rw [gN] at w
  obtain ⟨⟨vs,h1,h2,h3⟩,-⟩:=w
  simp at e;subst e
  exact ⟨vs,h1,fun i hi=>by rw [Nat.zero_mul,Nat.add_zero];exact h2 i hi,h3⟩
 | u::ts,off,j+1,t,w,e=>by
  rw [gN] at w
  obtain ⟨vs,h1,h2,h3⟩:=gN.get (j:=j) w.2 (by simpa using e)
  exact ⟨vs,h1,fun i hi=>by rw [← h2 i hi];congr 1;omega,h3⟩
theorem IsE.isK {h:aA} {op arg:Int} {neg:Bool} {l m name:List Nat} {ks:List Tr} {vs:List Value} (w:IsE h vs (.mk op arg neg l m name ks)):
  ∃a b s:Sl,vs=[.int .i64 op,.int .i64 arg,.bool neg,a.val,b.val,.string (txt name),s.val]∧(-9223372036854775808≤op∧op≤9223372036854775807)∧(-9223372036854775808≤arg∧arg≤9223372036854775807)∧cB h a b l m∧(∀y∈name,y<256)∧IsK h s ks:=by
 rw [IsE] at w
 obtain ⟨a,b,s,h1,h2,h3,h4,h5,h6,h7,h8⟩:=w
 exact ⟨a,b,s,h1,h2,h3,h4,h5,⟨h6,h7,h8⟩⟩
theorem Sl.val_inj {s t:Sl} (h:s.val=t.val):s=t:=by
 obtain ⟨a,l,c⟩:=s
 obtain ⟨a',l',c'⟩:=t
 unfold Sl.val at h
 injection h with h1 h2 h3
 subst h1 h2 h3;rfl
theorem IsE.inv {h:aA} {op ar:Int} {ng:Bool} {nn dd ss:Sl} {nm:List Nat} {op' arg':Int} {neg':Bool} {l m name:List Nat} {ks:List Tr} (w:IsE h [.int .i64 op,.int .i64 ar,.bool ng,nn.val,dd.val,.string (txt nm),ss.val] (.mk op' arg' neg' l m name ks)):
  op=op'∧ar=arg'∧ng=neg'∧cB h nn dd l m∧txt nm=txt name∧(∀y∈name,y<256)∧IsK h ss ks:=by
 obtain ⟨a,b,s,e,-,-,hv,hb,hk⟩:=w.isK
 injection e with e1 e
 injection e with e2 e
 injection e with e3 e
 injection e with e4 e
 injection e with e5 e
 injection e with e6 e
 injection e with e7 e
 injection e1 with _ e1
 injection e2 with _ e2
 injection e3 with e3
 injection e6 with e6
 have e4:=Sl.val_inj e4
 have e5:=Sl.val_inj e5
 have e7:=Sl.val_inj e7
 subst e4 e5 e7
 exact ⟨e1,e2,e3,hv,e6,hb,hk⟩
theorem LdN.of {h:aA} {L:Own} {a:Addr} {n:Nat} {k:Value→Prop} (vs:List Value) (hl:vs.length=n) (hv:∀i,i<n→Has h L (a.add i) (vs.getD i undef)) (hk:k (.agg vs.toArray)):LdN h L a n k:=⟨⟨vs,hl,hv,hk⟩⟩
theorem Idx.kid {h:aA} {s:Sl} {ts:List Tr} (w:IsK h s ts) {i:Int} {k:Addr→Prop} (j:Nat) (t:Tr) (hi:i=j) (ht:ts[j]?=some t)
  (hk:∀(ad:Addr) (op arg:Int) (neg:Bool) (a b:Sl) (name:List Nat) (s':Sl),IsE h [.int .i64 op,.int .i64 arg,.bool neg,a.val,b.val,.string (txt name),s'.val] t→
    (∀h' L (k':Value→Prop),h.le h'→k' (.agg #[.int .i64 op,.int .i64 arg,.bool neg,a.val,b.val,.string (txt name),s'.val])→LdN h' L ad 7 k')→k ad):Idx s.a i s.l 7 k:=by
 obtain ⟨hj,-⟩:=aVr.1 ht
 rcases w.mem with e|⟨bl,off,c,T,fz,e1,e2,e3⟩
 ·subst e;simp at ht
 ·obtain ⟨vs,h1,h2,h3⟩:=gN.get e3 ht
  obtain ⟨op,arg,neg,l,m,name,ks⟩:=t
  have h3':=h3
  rw [IsE] at h3
  obtain ⟨a,b,s',rfl,-⟩:=h3
  refine Idx.of j e1 hi (by rw [w.len];exact hj) (hk _ op arg neg a b name s' h3' fun h' L k' hl hk'=>?_)
  refine LdN.of [.int .i64 op,.int .i64 arg,.bool neg,a.val,b.val,.string (txt name),s'.val] rfl (fun i hi=>?_) hk'
  rw [bD]
  refine Has.imm (hl _ _ e2) ?_
  rw [h2 i hi]
  match i,hi with
  | 0,_=>rfl
  | 1,_=>rfl
  | 2,_=>rfl
  | 3,_=>rfl
  | 4,_=>rfl
  | 5,_=>rfl
  | 6,_=>rfl
end Go.Proofs.Y
/- A new parser; the function that Run is handed; the check of numbers and counts. -/
namespace Go.Vc
open Go
theorem CN.new {T:Tab} {f:FuncId} {args:List Value} {h:aA} {L:Own} {k:Value→aA→Own→Prop} {R:Value→aA→Own→Prop} (ok:T.fn f=true) (hf:Fn T f args h [] R) (hk:∀v h' La,h.le h'→R v h' La→k v h' (La++L)):CN T f args h L k:=
 .of ok (.done ⟨[],L,R,by simp,hf,fun v h' La hl r=>⟨La++L,.refl _,hk v h' La hl r⟩⟩)
theorem CN.all {T:Tab} {f:FuncId} {args:List Value} {h:aA} {A Lp:Own} {k:Value→aA→Own→Prop} {R:Value→aA→Own→Prop} (ok:T.fn f=true) (hf:Fn T f args h Lp R)
  (hk:∀v h' Lp',h.le h'→R v h' Lp'→k v h' (A++Lp')):CN T f args h (A++Lp) k:=
 .of ok (.done ⟨Lp,A,R,List.perm_append_comm,hf,fun v h' La hl r=>⟨A++La,List.perm_append_comm,hk v h' La hl r⟩⟩)
end Go.Vc
namespace Go.Dig
def fK (t:Tk):Prop:=t.kind=1∧mU t.text
instance (t:Tk):Decidable (fK t):=by unfold fK;exact inferInstance
end Go.Dig
namespace Go.Proofs.Y
open Go Go.Vc Go.Dig
theorem aQf (h:aA) (s:Sl) (e:Nat):Vc.Fn T F.q50 [s.val,.int .i64 e] h [] fun v h' L'=>h'=h∧∃bp,v=.pointer (some ⟨bp,0,none⟩)∧L'=[Pst bp s 0 e (.slice none 0 0)]:=by
 refine f1C ok D.q50 rfl ?_
 conv=>whnf
 repeat' first|((first|((first|apply oI.z|apply cI.z))|intro (_:Nat)) <;> (conv=>whnf))
 exact RN.done ⟨rfl,_,rfl,rfl⟩
def pU (ts:List Tk):Pr Tr:=match oM ts prs with
 | .ok tr i cs=>if i<ts.length then .bad i else .ok tr i cs
 | .bad j=>.bad j
theorem aGs (ts:List Tk) (bp:Nat) (s:Sl) (e:Nat) (h:aA) (v:Value) (G:Own) (ec pc:Nat) (T1:TypeId) (tb:Tb h) (w:bQ h s ts) (g:aD Ty.syntax_count 4 v 0 [] G):
  FnP T F.q52 [.pointer (some ⟨pc,0,none⟩),.pointer (some ⟨ec,0,none⟩)] h ((ec,.cells [.int .i64 0,.int .i64 0,.bool false,.slice none 0 0,.slice none 0 0,.string (txt []),.slice none 0 0].toArray Ty.api_Expr (0,0))::(pc,.cells [.pointer (some ⟨bp,0,none⟩)].toArray T1 (0,0))::Pst bp s 0 e v::G)
   (fun r h' L'=>∃(tr:Tr) (i':Nat) (cs':List Cn) (v':Value) (G':Own) (op ar:Int) (ng:Bool) (nn dd:Sl) (nm:List Nat) (ss:Sl),pU ts=.ok tr i' cs'∧cs'.length≤ts.length∧L'=(ec,.cells [.int .i64 op,.int .i64 ar,.bool ng,nn.val,dd.val,.string (txt nm),ss.val].toArray Ty.api_Expr (0,0))::(pc,.cells [.pointer (some ⟨bp,0,none⟩)].toArray T1 (0,0))::Pst bp s i' e v'::G'∧aD Ty.syntax_count 4 v' cs'.length (cnc cs') G'∧IsE h' [.int .i64 op,.int .i64 ar,.bool ng,nn.val,dd.val,.string (txt nm),ss.val] tr)
   fun c _ _=>∃i:Nat,c=flt i∧∃j,pU ts=.bad j∧i=gK ts e j:=by
 have c1:=fun h tb w=>aNg ts bp s e h v G tb w g
 obtain ⟨r0,hr0⟩:∃r,r=oM ts prs:=⟨_,rfl⟩
 rw [← hr0] at c1
 have t1:∀j,r0=.bad j→pU ts=.bad j:=fun j x=>by unfold pU;rw [← hr0,x]
 have t2:∀tr i cs,r0=.ok tr i cs→i<ts.length→pU ts=.bad i:=fun tr i cs x y=>by unfold pU;rw [← hr0,x];exact if_pos y
 have t3:∀tr i cs,r0=.ok tr i cs→ts.length≤i→pU ts=.ok tr i cs:=fun tr i cs x y=>by unfold pU;rw [← hr0,x];exact if_neg (by omega)
 refine fPC ok _ D.q52 rfl ?_
 conv=>whnf
 repeat' first|((first|(show CN _ _ _ _ _ _;first|(refine CN.par (A:=[_,_]) rfl (FnP.withPan (c1 _ (by assumption) (by assumption))) (fun v h' Lp hl hr=>?_) (fun c h' Lp hl hs=>?_);obtain ⟨tr,i1,cs1,v1,G1,hp1,hi1,hc1,rfl,g1,hv1⟩:=hr;obtain ⟨op,ar,ng,nn,dd,nm,ss,rfl,hE⟩:=hv1)|(refine CN.par2 (A:=[_,_]) (B:=G1) rfl (FnP.withPan (aI9 _ _ _ ts i1 e v1 (by (iterate 30 try first|assumption|refine bQ.mono ?_ (by assumption));first|done|assumption))) (fun v h' Lp hl hr=>?_) (fun c h' Lp hl hs=>?_);obtain ⟨rfl,hi2,rfl,rfl⟩:=hr;clear hl))|((first|apply oI.z|apply cI.z))|refine Ld.o 1 rfl rfl ?_|refine Sto.l 0 rfl rfl rfl ?_) <;> (conv=>whnf))
 ·exact RN.done ⟨tr,i1,cs1,v1,G1,op,ar,ng,nn,dd,nm,ss,t3 tr i1 cs1 hp1 hi2,aWd hc1 hi1,rfl,g1,hE⟩
 ·obtain ⟨hi2,rfl⟩:=hs
  exact ⟨gK ts e i1,rfl,i1,t2 tr i1 cs1 hp1 hi2,rfl⟩
 ·obtain ⟨j,hj,rfl⟩:=hs
  exact ⟨gK ts e j,rfl,j,t1 j hj,rfl⟩
def dZ (t:Tk):Prop:=t.kind=1∧(parseL t.text).2≠0
instance (t:Tk):Decidable (dZ t):=by unfold dZ;exact inferInstance
def rC (c:Cn):Prop:=c.n<c.low∨c.high<c.n
instance (c:Cn):Decidable (rC c):=by unfold rC;exact inferInstance
def mV (ts:List Tk) (cs:List Cn):Nat × Nat:=match ts.find? (fun t=>decide (fK t)) with
 | some t=>(10,t.pos)
 | none=>match ts.filter (fun t=>decide (dZ t)) with
  | t::_=>(1,t.pos)
  | []=>match cs.find? (fun c=>decide (rC c)) with
   | some c=>(2,c.pos)
   | none=>(0,0)
def fzv (t:Tk):List Value:=[.int .i64 1,.int .i64 t.pos]
def fzc (ts:List Tk):List Value:=ts.flatMap fzv
end Go.Proofs.Y
namespace Go.Vc
open Go
theorem aD.block {e:TypeId} {size:Nat} {v:Value} {n:Nat} {xs:List Value} {F:Own} (g:aD e size v n xs F) (hn:0<n):
  ∃(b cap:Nat) (c:Array Value),v=.slice (some ⟨b,0,Option.none⟩) n cap∧(b,Obj.cells c e (0,0))∈F∧∀(j:Nat) (u:Value),xs[j]?=some u→c[j]?=some u:=by
 obtain ⟨-,⟨-,rfl⟩|⟨i,b,cap,zs,rfl,h2,h3,h4⟩⟩:=g
 ·omega
 ·refine ⟨b,cap,_,rfl,aVu h2,fun j u hu=>?_⟩
  have hj:=(aVr.1 hu).1
  rw [List.getElem?_toArray,aV0 hj];exact hu
theorem aD.zeroLen {e:TypeId} {size:Nat} {v:Value} {xs:List Value} {F:Own} (g:aD e size v 0 xs F):∃(a:Option Addr) (cap:Nat),v=.slice a 0 cap:=by
 obtain ⟨-,⟨rfl,-⟩|⟨i,b,cap,zs,rfl,h2,h3,h4⟩⟩:=g
 ·exact ⟨Option.none,0,rfl⟩
 ·exact ⟨_,cap,rfl⟩
theorem aD.lenV {e:TypeId} {size:Nat} {v:Value} {n:Nat} {xs:List Value} {F:Own} (g:aD e size v n xs F):∃(a:Option Addr) (cap:Nat),v=.slice a n cap:=by
 obtain ⟨-,⟨rfl,rfl⟩|⟨i,b,cap,zs,rfl,h2,h3,h4⟩⟩:=g
 ·exact ⟨Option.none,0,rfl⟩
 ·exact ⟨_,cap,rfl⟩
theorem Sto.tl {A X tl:Own} {b off:Nat} {vs l:List Value} {T:TypeId} {k:Own→Prop} (hl:Nat.ble (off+vs.length) l.length=true) (ho:vs.all eK=true)
  (hk:vJ vs l off fun l=>k (A++(X++(b,.cells l.toArray T (0,0))::tl))):Sto (A++(X++(b,.cells l.toArray T (0,0))::tl)) ⟨b,off,none⟩ vs k:=by
 rw [nC] at hk
 refine ⟨rfl,A.length+X.length,l.toArray,T,?_,?_,ho,?_⟩
 ·rw [aWa (by omega),Nat.add_sub_cancel_left,aWa (by omega),Nat.sub_self];rfl
 ·have:=Nat.le_of_ble_eq_true hl;simpa using this
 ·rw [gC,List.set_append_right _ _ (by omega),Nat.add_sub_cancel_left,List.set_append_right _ _ (by omega),Nat.sub_self]
  exact hk
theorem LdN.tl {h:aA} {A F tl:Own} {b m:Nat} {k:Value→Prop} {l:List Value} {T:TypeId} (hl:l.length=m) (hk:k (.agg l.toArray)):LdN h (A++(F++(b,.cells l.toArray T (0,0))::tl)) ⟨b,0,none⟩ m k:=
 ⟨l,hl,fun i hi=>by
   rw [bD,aWc]
   exact ⟨rfl,l.toArray,T,(0,0),.inr (by simp),by simp [hl▸hi,aVp,hl,hi]⟩,hk⟩
end Go.Vc
namespace Go.Proofs.Y
open Go Go.Vc Go.Dig
theorem aNj {cs:List Cn} {m:Nat} {c:Cn} (hc:cs[m]?=some c) (q:Nat) (hq:q<4):(cnc cs)[m*4+q]?=(cnv c)[q]?:=by
 induction cs generalizing m with
 | nil=>simp at hc
 | cons u cs ih=>
  unfold cnc
  rw [List.flatMap_cons]
  cases m with
  | zero=>
   simp at hc;subst hc
   rw [aV0 (by simp [cnv];omega),Nat.zero_mul,aWc]
  | succ m=>
   rw [aWa (by simp [cnv];omega)]
   have:=ih (m:=m) (by simpa using hc)
   unfold cnc at this
   rw [← this]
   congr 1
   simp [cnv];omega
theorem aJk (h:aA) (tb:Tb h) (bp:Nat) (s:Sl) (ts:List Tk) (i e:Nat) (v:Value) (cs:List Cn) (G:Own) (w:bQ h s ts) (g:aD Ty.syntax_count 4 v cs.length (cnc cs) G) (hcs:cs.length≤1000000):
  Vc.Fn T F.q55 [.pointer (some ⟨bp,0,none⟩)] h (Pst bp s i e v::G) fun r h' L'=>L'=[]∧r=.agg #[.int .i64 (mV ts cs).1,.int .i64 (mV ts cs).2]:=by
 have hl:=w.len
 have hw:=w.rw
 have hsz:=w.sz
 obtain ⟨Q,hQ⟩:∃Q,Q=mV ts cs:=⟨_,rfl⟩
 have k1:∀j t,ts[j]?=some t→fK t→(∀u∈ts.take j,¬fK u)→Q=(10,t.pos):=fun j t ht hb hn=>by
  have:ts.find? (fun t=>decide (fK t))=some t:=by
   rw [nL ht,List.find?_append,List.find?_eq_none.2 (fun u hu=>by simpa using hn u hu)]
   simp [hb]
  rw [hQ];unfold mV;rw [this]
 have k2:(∀u∈ts,¬fK u)→ts.find? (fun t=>decide (fK t))=none:=fun hn=>List.find?_eq_none.2 fun u hu=>by simpa using hn u hu
 have k3:(∀u∈ts,¬fK u)→∀t l,ts.filter (fun t=>decide (dZ t))=t::l→Q=(1,t.pos):=fun hn t l hf=>by
  rw [hQ];unfold mV;rw [k2 hn,hf]
 have k4:(∀u∈ts,¬fK u)→ts.filter (fun t=>decide (dZ t))=[]→∀j c,cs[j]?=some c→rC c→(∀u∈cs.take j,¬rC u)→Q=(2,c.pos):=fun hn hf j c hc hb hm=>by
  have:cs.find? (fun c=>decide (rC c))=some c:=by
   rw [nL hc,List.find?_append,List.find?_eq_none.2 (fun u hu=>by simpa using hm u hu)]
   simp [hb]
  rw [hQ];unfold mV;rw [k2 hn,hf];simp only;rw [this]
 have k5:(∀u∈ts,¬fK u)→ts.filter (fun t=>decide (dZ t))=[]→(∀u∈cs,¬rC u)→Q=(0,0):=fun hn hf hm=>by
  have:cs.find? (fun c=>decide (rC c))=none:=List.find?_eq_none.2 fun u hu=>by simpa using hm u hu
  rw [hQ];unfold mV;rw [k2 hn,hf];simp only;rw [this]
 rw [← hQ]
 clear hQ
 refine f1C ok D.q55 rfl ?_
 conv=>whnf
 repeat' first|((first|((first|apply oI.z|apply cI.z))|intro (_:Nat)|refine Ld.o 1 rfl rfl ?_) <;> (conv=>whnf))
 rename_i b2
 refine LpN.of (fun r ρ hx L=>∃(j:Nat) (F:Own) (vz:Value),r=ts.length-j∧h.le hx∧j≤ts.length∧rd ρ 18=.int .i64 j∧rd ρ 3=vz∧L=F++((b2,.cells [.int .i64 0,.int .i64 0].toArray Ty.syntax_Fault (0,0))::(Pst bp s i e v::G))∧((ts.take j).filter (fun t=>decide (dZ t))).length≤j∧
     aD Ty.syntax_Fault 2 vz ((ts.take j).filter (fun t=>decide (dZ t))).length (fzc ((ts.take j).filter (fun t=>decide (dZ t)))) F∧Hq (∀u∈ts.take j,¬fK u)) ts.length
  ⟨0,[],_,rfl,aA.lr _,aWe _,rfl,rfl,rfl,aWf _,aD.nil _ _ _,⟨by simp⟩⟩ ?_
 conv=>whnf
 repeat intro _
 rename_i r hx L2 hI
 obtain ⟨j,F,vz,rfl,hle,hj,e18,e3,rfl,hfl,gz,hn⟩:=hI
 conv at e3=>lhs;whnf
 subst e3
 conv at e18=>lhs;whnf
 subst e18
 have wh:=w.mono hle
 have hwh:=wh.rw
 have tbh:=tb.mono hle
 by_cases hjl:j=ts.length
 ·subst hjl
  rw [aV4] at hfl gz hn
  replace hn:=hn.out
  cases hA:ts.filter (fun t=>decide (dZ t)) with
  | cons t l=>
   rw [hA] at gz hfl
   have hq:=k3 hn t l hA
   obtain ⟨bz,cap,c,rfl,hmem,hget⟩:=gz.block (by simp)
   have v0:∀A tl,Has hx (A++(F++tl)) ⟨bz,0,none⟩ (.int .i64 1):=fun A tl=>⟨rfl,c,_,(0,0),.inr (by simp;exact .inr (.inl hmem)),hget 0 _ rfl⟩
   have v1:∀A tl,Has hx (A++(F++tl)) ⟨bz,1,none⟩ (.int .i64 t.pos):=fun A tl=>⟨rfl,c,_,(0,0),.inr (by simp;exact .inr (.inl hmem)),hget 1 _ rfl⟩
   obtain ⟨N,hN⟩:∃N,N=(t::l).length:=⟨_,rfl⟩
   have hN0:0<N:=by rw [hN];simp
   rw [← hN]
   conv=>whnf
   repeat' first|((first|(show Idx _ _ _ _ _;refine Idx.of 0 rfl rfl hN0 ?_)|(show LdN _ _ _ _ _;first|refine LdN.tl (A:=[]) (F:=F) rfl ?_|(refine LdN.of [.int .i64 1,.int .i64 t.pos] rfl (fun i hi=>(by rw [bD];match i,hi with|0,_=>exact v0 [] _|1,_=>exact v1 [] _)) ?_))|(show Sto _ _ _ _;refine Sto.tl (A:=[]) (X:=F) rfl rfl ?_)|((first|apply oI.z|apply cI.z))) <;> (conv=>whnf))|(apply aB<;>intro _<;>first|(exfalso;omega)|conv=>whnf)
   rw [hq]
   exact RN.a rfl
  | nil=>
   rw [hA] at gz hfl
   obtain ⟨az,cap,rfl⟩:=gz.zeroLen
   obtain ⟨aC,capC,rfl⟩:=g.lenV
   have hP:∀(A X:Own) (o:Nat × Obj),Has hx (A++(X++(o::Pst bp s i e (.slice aC cs.length capC)::G))) ⟨bp,3,none⟩ (.slice aC cs.length capC):=fun A X o=>⟨rfl,[s.val,.int .i64 i,.int .i64 e,.slice aC cs.length capC].toArray,Ty.syntax_Parser,(0,0),.inr (by unfold Pst;simp),rfl⟩
   conv=>whnf
   repeat' first|((first|(show Ld _ _ _ _;refine Ld.of (hP [] F _) ?_)|((first|apply oI.z|apply cI.z))) <;> (conv=>whnf))|(apply aB<;>intro _<;>first|(exfalso;omega)|conv=>whnf)
   refine LpN.of (fun r ρ hy L=>∃(m:Nat) (X:Own),r=cs.length-m∧hy=hx∧m≤cs.length∧rd ρ 67=.int .i64 m∧L=X++((b2,.cells [.int .i64 0,.int .i64 0].toArray Ty.syntax_Fault (0,0))::(Pst bp s i e (.slice aC cs.length capC)::G))∧Hq (∀u∈cs.take m,¬rC u)) cs.length
    ⟨0,F,rfl,rfl,aWe _,rfl,rfl,⟨by simp⟩⟩ ?_
   conv=>whnf
   repeat intro _
   rename_i r hy L3 hJ
   obtain ⟨m,X,rfl,rfl,hm,e67,rfl,hc⟩:=hJ
   conv at e67=>lhs;whnf
   subst e67
   by_cases hmc:m=cs.length
   ·subst hmc
    rw [aV4] at hc
    rw [k5 hn hA hc.out]
    conv=>whnf
    repeat' first|((first|(show Sto _ _ _ _;refine Sto.tl (A:=[]) (X:=X) rfl rfl ?_)|(show LdN _ _ _ _ _;refine LdN.tl (A:=[]) (F:=X) rfl ?_)|((first|apply oI.z|apply cI.z))) <;> (conv=>whnf))|(apply aB<;>intro _<;>first|(exfalso;omega)|conv=>whnf)
    exact RN.a rfl
   ·obtain ⟨c,hcm⟩:∃c,cs[m]?=some c:=⟨_,aVq (by omega)⟩
    obtain ⟨bC,capC',cC,eC,hmC,hgC⟩:=g.block (by omega)
    cases eC
    have hcg:∀q,q<4→cC[m*4+q]?=(cnv c)[q]?:=fun q hq=>by
     rw [hgC (m*4+q) _ (by rw [aNj hcm q hq];exact aVq (by simpa [cnv] using hq))]
     exact (aVq (by simpa [cnv] using hq)).symm
    have hH:∀(A X:Own) (o:Nat × Obj) (q:Nat) (hq:q<4),Has hy (A++(X++(o::Pst bp s i e (.slice (some ⟨bC,0,none⟩) cs.length capC)::G))) ⟨bC,0+m*4+q,none⟩ ((cnv c).getD q undef):=fun A X o q hq=>⟨rfl,cC,_,(0,0),.inr (by simp;exact .inr (.inr (.inr (.inr hmC)))),by
      rw [show 0+m*4+q=m*4+q by omega,hcg q hq,aVp,aVq (by simpa [cnv] using hq)];rfl⟩
    have kk:=k4 hn hA m c hcm
    have kc:rC c↔c.n<c.low∨c.high<c.n:=Iff.rfl
    have kt:¬rC c→∀u∈cs.take (m+1),¬rC u:=fun x u hu=>by
     rw [aZ hcm] at hu
     rcases aVx.1 hu with hu|hu
     ·exact hc.out u hu
     ·obtain rfl:u=c:=by simpa using hu
      exact x
    replace kk:=fun x=>kk x hc.out
    clear hc k1 k2 k3 k4 k5 hgC hcg
    obtain ⟨cp,cl,ch,cn⟩:=c
    simp only at kk kc
    replace hH:∀(A X:Own) (o:Nat × Obj) (q:Nat) (hq:q<4),Has hy (A++(X++(o::Pst bp s i e (.slice (some ⟨bC,0,none⟩) cs.length capC)::G))) ⟨bC,0+m*4+q,none⟩ ([.int .i64 cp,.int .i64 cl,.int .i64 ch,.int .i64 cn].getD q undef):=hH
    conv=>whnf
    repeat' first|((first|(show Idx _ _ _ _ _;refine Idx.of m rfl rfl (by omega) ?_)|(show LdN _ _ _ _ _;first|refine LdN.tl (A:=[_]) (F:=X) rfl ?_|(refine LdN.of [.int .i64 cp,.int .i64 cl,.int .i64 ch,.int .i64 cn] rfl (fun q hq=>(by rw [bD];exact hH [] X _ q hq)) ?_))|(show Sto _ _ _ _;first|refine Sto.tl (A:=[_]) (X:=X) rfl rfl ?_|refine Sto.l 0 rfl rfl rfl ?_)|((first|apply oI.z|apply cI.z))|intro (_:Nat)|refine WN.i64 (by omega) (by omega) ?_|refine Ld.o 0 rfl rfl ?_) <;> (conv=>whnf))|(apply aB<;>intro _<;>first|(exfalso;omega)|conv=>whnf)
    ·rw [kk (kc.2 (.inl (by omega)))]
     exact RN.a rfl
    ·rw [kk (kc.2 (.inr (by omega)))]
     exact RN.a rfl
    ·exact ⟨rfl,cs.length-(m+1),by omega,m+1,_::X,rfl,rfl,by omega,vi (by omega),rfl,⟨kt fun x=>by have:=kc.1 x;omega⟩⟩
 ·obtain ⟨t,ht⟩:∃t,ts[j]?=some t:=⟨_,aVq (by omega)⟩
  have ht8:=w.lt t (aVu ht)
  have hps:=w.ps t (aVu ht)
  have htk:=aZ ht
  have q1:fK t→Q=(10,t.pos):=fun x=>k1 j t ht x hn.out
  have q2:¬fK t→∀u∈ts.take (j+1),¬fK u:=fun x u hu=>by
   rw [htk] at hu
   rcases aVx.1 hu with hu|hu
   ·exact hn.out u hu
   ·obtain rfl:u=t:=by simpa using hu
    exact x
  have q3:¬dZ t→(ts.take (j+1)).filter (fun t=>decide (dZ t))=(ts.take j).filter (fun t=>decide (dZ t)):=fun x=>by
   rw [htk,List.filter_append];simp [x]
  have q4:dZ t→(ts.take (j+1)).filter (fun t=>decide (dZ t))=(ts.take j).filter (fun t=>decide (dZ t))++[t]:=fun x=>by
   rw [htk,List.filter_append];simp [x]
  obtain ⟨A,hA⟩:∃A,A=(ts.take j).filter (fun t=>decide (dZ t)):=⟨_,rfl⟩
  obtain ⟨B,hB⟩:∃B,B=(ts.take (j+1)).filter (fun t=>decide (dZ t)):=⟨_,rfl⟩
  rw [← hA] at q3 q4 gz hfl
  rw [← hB] at q3 q4
  have hn2:=hn.out
  have goN:∀F' vz',¬fK t→B.length≤j+1→aD Ty.syntax_Fault 2 vz' B.length (fzc B) F'→((ts.take (j+1)).filter (fun t=>decide (dZ t))).length≤j+1∧aD Ty.syntax_Fault 2 vz' ((ts.take (j+1)).filter (fun t=>decide (dZ t))).length (fzc ((ts.take (j+1)).filter (fun t=>decide (dZ t)))) F'∧Hq (∀u∈ts.take (j+1),¬fK u):=fun F' vz' x y z=>by
   rw [← hB];exact ⟨y,z,⟨q2 x⟩⟩
  clear k1 k2 k3 k4 k5 hn hn2 q2
  have b1:t.kind≠1→¬fK t∧¬dZ t:=fun x=>⟨fun y=>x y.1,fun y=>x y.1⟩
  have b2':t.kind=1→mU t.text→fK t:=fun x y=>⟨x,y⟩
  have b3:¬mU t.text→¬fK t:=fun x y=>x y.2
  have b4:t.kind=1→(parseL t.text).2≠0→dZ t:=fun x y=>⟨x,y⟩
  have b5:(parseL t.text).2=0→¬dZ t:=fun x y=>y.2 x
  have b6:cS t.text<t.text.length→(mU t.text↔∀c∈t.text.drop (cS t.text+1),c=48):=fun x=>⟨fun y=>y.2,fun y=>⟨x,y⟩⟩
  have b7:¬cS t.text<t.text.length→¬mU t.text:=fun x y=>x y.1
  obtain ⟨bd1,hbd1⟩:∃p,p=fK t:=⟨_,rfl⟩
  obtain ⟨bd2,hbd2⟩:∃p,p=dZ t:=⟨_,rfl⟩
  obtain ⟨ng,hng⟩:∃p,p=mU t.text:=⟨_,rfl⟩
  rw [← hbd1] at q1 goN b1 b2' b3
  rw [← hbd2] at q3 q4 b1 b4 b5
  rw [← hng] at b2' b3 b6 b7
  clear hbd1 hbd2 hng hA hB htk
  obtain ⟨K,hK⟩:∃k,k=t.kind:=⟨_,rfl⟩
  obtain ⟨tx,htx⟩:∃k,k=t.text:=⟨_,rfl⟩
  obtain ⟨tp,htp⟩:∃k,k=t.pos:=⟨_,rfl⟩
  have hT:∀{i:Int} {k:Addr→Prop},i=j→(∀b off,(∀L,Has hx L ⟨b,off,none⟩ (.int .i64 K))→(∀L,Has hx L ⟨b,off+1,none⟩ (.string (txt tx)))→(∀L,Has hx L ⟨b,off+2,none⟩ (.int .i64 tp))→k ⟨b,off,none⟩)→Idx s.a i s.l 3 k:=fun {i k} a f=>Idx.tok hwh j t a ht fun b off v0 v1 v2=>f b off (by rw [hK];exact v0) (by rw [htx];exact v1) (by rw [htp];exact v2)
  rw [← htp] at q1 hps
  rw [← hK] at b1 b2' b4 hps
  rw [← htx] at b4 b5 b6 b7 ht8 hps
  have c1:=fun h=>aQe h tx ht8 hps.2.2
  have c3:=fun h tb=>aA2 h tb tx ht8
  obtain ⟨pq,hpq⟩:∃p,p=parseL tx:=⟨_,rfl⟩
  rw [← hpq] at b4 b5 c3
  have fzc_append:∀a b:List Tk,fzc (a++b)=fzc a++fzc b:=fun a b=>by unfold fzc;simp
  have hfz:fzc [t]=[.int .i64 1,.int .i64 tp]:=by rw [htp];rfl
  by_cases hs:cS tx<tx.length
  ·unfold aC6 at c1
   rw [if_pos hs] at c1
   replace b6:=b6 hs
   have c2:=fun h=>aNh h (tx.drop (cS tx+1)) (fun y hy=>ht8 y (List.mem_of_mem_drop hy)) (by rw [List.length_drop];omega)
   conv=>whnf
   repeat' first|((first|(apply aX.go)|refine hT (by omega) (fun tb to v0 v1 v2=>?_)|((first|apply oI.z|apply cI.z))|intro (_:Nat)|(show LdN _ _ _ _ _;first|refine LdN.hs3 (v0 _) (v1 _) (v2 _) ?_|refine LdN.tl (A:=[_]) (F:=F) rfl ?_)|(show CN _ _ _ _ _ _;first|refine CN.quiet rfl (c1 _) ?_|(refine CN.f rfl (c2 _) (fun v h' hl2 hr=>?_);obtain ⟨rfl,m,rfl,hm,hmb⟩:=hr;clear hl2)|(refine CN.f rfl (c3 _ tbh) (fun v h' hl2 hr=>?_);obtain ⟨ra,rb,rfl,hres⟩:=hr))|(show Sto _ _ _ _;first|refine Sto.tl (A:=[_]) (X:=F) rfl rfl ?_|refine Sto.l 0 rfl rfl rfl ?_)|(show App _ _ _ _ _ _ _ _ _;refine App.growA (A:=[_,_,_]) (F:=F) (size:=2) (bytes:=16) (z:=[.int .i64 0,.int .i64 0]) rfl rfl gz ⟨_,0,none⟩ 1 1 [_,_] rfl (Has.front _) rfl (by decide) (by omega) (by omega) (by decide) (fun v' F' g' hsub=>?_))|refine WN.i64 (by omega) (by omega) ?_|(show Ld _ _ _ _;first|refine Ld.o 0 rfl rfl ?_|refine Ld.o 1 rfl rfl ?_)) <;> (conv=>whnf))|(show cnd _ _ _;first|(refine fY _ rfl rfl (fun hx=>?_) (fun hx=>?_) <;> (conv=>whnf))|(apply aB<;>intro _<;>first|(exfalso;omega)|conv=>whnf)|(apply aE<;>intro _<;>first|(exfalso;omega)|conv=>whnf)|(refine aI ?_))
   ·rw [q1 (b2' (by omega) (b6.2 (hm.1 (by assumption))))]
    exact RN.a rfl
   ·have x1:=b3 fun x=>absurd (hm.2 (b6.1 x)) (by assumption)
    have x2:=b5 (by omega)
    have hlx:=aA.lt hle hl2
    exact ⟨rfl,ts.length-(j+1),by omega,j+1,_::_::F,_,rfl,hlx,by omega,vi (by omega),rfl,rfl,goN _ _ x1 (by rw [q3 x2];omega) (by rw [q3 x2];exact (gz.cons _).cons _)⟩
   ·have x1:=b3 fun x=>absurd (hm.2 (b6.1 x)) (by assumption)
    have x2:=b4 (by omega) (by omega)
    have hlx:=aA.lt hle hl2
    exact ⟨rfl,ts.length-(j+1),by omega,j+1,F',_,rfl,hlx,by omega,vi (by omega),rfl,rfl,goN _ _ x1 (by rw [q4 x2,aVo,List.length_singleton];omega) (by rw [q4 x2,aVo,List.length_singleton,fzc_append,hfz];exact g')⟩
   ·obtain ⟨x1,x2⟩:=b1 (by omega)
    exact ⟨rfl,ts.length-(j+1),by omega,j+1,_::F,_,rfl,hle,by omega,vi (by omega),rfl,rfl,goN _ _ x1 (by rw [q3 x2];omega) (by rw [q3 x2];exact gz.cons _)⟩
  ·unfold aC6 at c1
   rw [if_neg hs] at c1
   have b7:=b3 (b7 hs)
   conv=>whnf
   repeat' first|((first|(apply aX.go)|refine hT (by omega) (fun tb to v0 v1 v2=>?_)|((first|apply oI.z|apply cI.z))|intro (_:Nat)|(show LdN _ _ _ _ _;refine LdN.hs3 (v0 _) (v1 _) (v2 _) ?_)|(show CN _ _ _ _ _ _;first|refine CN.quiet rfl (c1 _) ?_|(refine CN.f rfl (c3 _ tbh) (fun v h' hl2 hr=>?_);obtain ⟨ra,rb,rfl,hres⟩:=hr))|(show App _ _ _ _ _ _ _ _ _;refine App.growA (A:=[_,_,_]) (F:=F) (size:=2) (bytes:=16) (z:=[.int .i64 0,.int .i64 0]) rfl rfl gz ⟨_,0,none⟩ 1 1 [_,_] rfl (Has.front _) rfl (by decide) (by omega) (by omega) (by decide) (fun v' F' g' hsub=>?_))|refine WN.i64 (by omega) (by omega) ?_|(show Ld _ _ _ _;first|refine Ld.o 0 rfl rfl ?_|refine Ld.o 1 rfl rfl ?_)|refine Sto.l 0 rfl rfl rfl ?_) <;> (conv=>whnf))|(show cnd _ _ _;first|(apply aB<;>intro _<;>first|(exfalso;omega)|conv=>whnf)|(apply aE<;>intro _<;>first|(exfalso;omega)|conv=>whnf)|(refine aI ?_))
   ·have x2:=b5 (by omega)
    have hlx:=aA.lt hle hl2
    exact ⟨rfl,ts.length-(j+1),by omega,j+1,_::_::F,_,rfl,hlx,by omega,vi (by omega),rfl,rfl,goN _ _ b7 (by rw [q3 x2];omega) (by rw [q3 x2];exact (gz.cons _).cons _)⟩
   ·have x2:=b4 (by omega) (by omega)
    have hlx:=aA.lt hle hl2
    exact ⟨rfl,ts.length-(j+1),by omega,j+1,F',_,rfl,hlx,by omega,vi (by omega),rfl,rfl,goN _ _ b7 (by rw [q4 x2,aVo,List.length_singleton];omega) (by rw [q4 x2,aVo,List.length_singleton,fzc_append,hfz];exact g')⟩
   ·obtain ⟨x1,x2⟩:=b1 (by omega)
    exact ⟨rfl,ts.length-(j+1),by omega,j+1,_::F,_,rfl,hle,by omega,vi (by omega),rfl,rfl,goN _ _ x1 (by rw [q3 x2];omega) (by rw [q3 x2];exact gz.cons _)⟩
end Go.Proofs.Y