/- A text cut at its first slash; a text of zeros alone. -/
import Derived.Test.YtbgicephinomlaaGreatDoorE14
import Derived.Lib.Strings
import Derived.Lib.Slices
import Derived.Lib.Walk
import Derived.Lib.Bytealg
import Derived.Test.YtbgicephinomlaaGreatDoorE8
import Derived.Test.YtbgicephinomlaaGreatDoorU2
set_option linter.unusedVariables false
set_option linter.unusedSimpArgs false
namespace Go.Dig
def slashI:List Nat→Nat
 | []=>0
 | c::l=>if c=47 then 0 else slashI l+1
def nought (l:List Nat):Prop:=slashI l<l.length∧∀c∈l.drop (slashI l+1),c=48
instance (l:List Nat):Decidable (nought l):=by unfold nought;exact inferInstance
end Go.Dig
namespace Go.Vc
open Go Go.Dig
theorem slash_index:∀l:List Nat,(∀y∈l,y<256)→Lib.indexByte (txt l).data.toList 47=if slashI l<l.length then (slashI l:Int) else -1:=by
 have key:∀l:List Nat,(∀y∈l,y<256)→Lib.indexByte (l.map UInt8.ofNat) 47=if slashI l<l.length then (slashI l:Int) else -1:=by
  intro l
  induction l with
  | nil=>intro _;rfl
  | cons c l ih=>
   intro hb
   have h1:=ih fun y hy=>hb y (List.mem_cons_of_mem _ hy)
   have hc:=hb c List.mem_cons_self
   have e:(UInt8.ofNat c == 47)=decide (c=47):=by
    by_cases h:c=47
    ·subst h;rfl
    ·rw [decide_eq_false h]
     have:UInt8.ofNat c≠47:=fun x=>h (by
       have:=congrArg UInt8.toNat x
       rw [UInt8.toNat_ofNat',Nat.mod_eq_of_lt hc] at this
       exact this)
     simpa using this
   simp only [List.map_cons,Lib.indexByte]
   have hs:slashI (c::l)=if c=47 then 0 else slashI l+1:=rfl
   rw [e,h1,hs,List.length_cons]
   clear e h1 ih hs
   by_cases hx:c=47
   ·rw [decide_eq_true hx,if_pos rfl,if_pos hx,if_pos (by omega)];rfl
   ·rw [decide_eq_false hx,if_neg hx,if_neg (show ¬(false=true) by decide)]
    obtain ⟨k,hk⟩:∃k,k=slashI l:=⟨_,rfl⟩
    rw [← hk]
    by_cases hl:k<l.length
    ·have:((k:Int) == -1)=false:=by simp
     rw [if_pos hl,this,if_neg (show ¬(false=true) by decide),if_pos (by omega)]
     simp
    ·rw [if_neg hl,if_neg (show ¬k+1<l.length+1 by omega)]
     rfl
 intro l hb
 have:=key l hb
 unfold txt
 simpa using this
theorem Fn0.ofCalls {T:Tab} {f:FuncId} {args:List Value} {h:Heap} {v:Value} (hc:∀w,Calls T.prog f args.toArray w fun e w'=>e=.returned v∧w'=w):Fn0 T f args h fun v' h'=>h'=h∧v'=v:=by
 refine Fn0.make fun w s=>(hc w).mono fun e w' he=>?_
 obtain ⟨rfl,rfl⟩:=he
 exact ⟨h,[],Inv.init s,rfl,rfl,rfl⟩
end Go.Vc
namespace Go.Proofs.YtbgicephinomlaaGreatDoor
open Go Go.Vc Go.Dig
set_option maxHeartbeats 1000000 in
set_option maxRecDepth 100000 in
theorem IndexByte_w (s:ByteArray) (c:Int) (w:World):
  Calls Tryz.prog 259 #[.string s,.int .u8 c] w fun e w'=>e=.returned (.int .i64 (Lib.indexByte s.data.toList c.toNat.toUInt8))∧w'=w:=by
 go_enter Tryz.func259,Tryz.ntmps259
 go_wp2
 rw [run_callFunc_extern Tryz.func277 (by kernel_rfl) (by kernel_rfl) (by kernel_rfl) (e:=Extern.BytealgIndexByte.indexByte) (by kernel_rfl),Lib.run_indexByteString]
 simp only [Result.andThen]
 rw [Oper.upon_value]
 go_wp2
 go_ret
 exact ⟨rfl,rfl⟩
theorem IndexByte_ct (h:Heap) (l:List Nat) (hb:∀y∈l,y<256):Fn0 T F.internal_stringslite_IndexByte [.string (txt l),.int .u8 47] h fun v h'=>h'=h∧v=.int .i64 (if slashI l<l.length then (slashI l:Int) else -1):=by
 rw [← slash_index l hb]
 exact Fn0.ofCalls fun w=>IndexByte_w (txt l) 47 w
set_option maxRecDepth 20000 in
set_option maxHeartbeats 1000000 in
theorem Index_ct (h:Heap) (l:List Nat) (hb:∀y∈l,y<256):Fn0 T F.internal_stringslite_Index [.string (txt l),.string (txt [47])] h fun v h'=>h'=h∧v=.int .i64 (if slashI l<l.length then (slashI l:Int) else -1):=by
 obtain ⟨V,hV⟩:∃V,V=(if slashI l<l.length then (slashI l:Int) else -1):=⟨_,rfl⟩
 have c1:=fun h=>IndexByte_ct h l hb
 rw [← hV] at c1 ⊢
 have hz1:((txt [47]).size:Int)=1:=rfl
 refine fn0_of_codeI ok D.internal_stringslite_Index rfl ?_
 conv=>whnf
 repeat ((first | refine opsI.step ?_ | refine codeI.step ?_);conv=>whnf)
 repeat' first | ((first | (show IdxS _ _ _;refine IdxS.txt [47] rfl (by decide) 0 rfl (by decide) ?_) | (show CallN _ _ _ _ _ _;refine CallN.quiet rfl (c1 _) ?_) | ((first | refine opsI.step ?_ | refine codeI.step ?_))) <;> (conv=>whnf)) | (show cnd _ _ _;first | (refine cnd_txt (by decide) hb (fun _=>?_) (fun _=>?_) <;> (conv=>whnf)) | (refine cnd_eq (fun _=>?_) (fun _=>?_) <;> first | (exfalso;omega) | (conv=>whnf)))
 all_goals first
  | exact RetN.all ⟨rfl,rfl⟩
  | (rename_i hx;subst hx;rw [if_pos (by decide)] at hV;subst hV;exact RetN.all ⟨rfl,rfl⟩)
def cutV (l:List Nat):Value:=if slashI l<l.length then .tuple #[.string (txt (l.take (slashI l))),.string (txt (l.drop (slashI l+1))),.bool true] else .tuple #[.string (txt l),.string (txt []),.bool false]
set_option maxRecDepth 20000 in
set_option maxHeartbeats 1000000 in
theorem Cut_ct (h:Heap) (l:List Nat) (hb:∀y∈l,y<256) (hl:l.length≤1000000):Fn0 T F.strings_Cut [.string (txt l),.string (txt [47])] h fun v h'=>h'=h∧v=cutV l:=by
 have hz1:((txt [47]).size:Int)=1:=rfl
 have hz:=txt_size l
 have c0:=fun h=>Index_ct h l hb
 have c1:∀h,Fn0 T F.internal_stringslite_Cut [.string (txt l),.string (txt [47])] h fun v h'=>h'=h∧v=cutV l:=fun h=>by
  obtain ⟨k,hk⟩:∃k,k=slashI l:=⟨_,rfl⟩
  unfold cutV
  rw [← hk] at c0 ⊢
  by_cases hs:k<l.length
  ·rw [if_pos hs] at c0 ⊢
   refine fn0_of_codeI ok D.internal_stringslite_Cut rfl ?_
   conv=>whnf
   repeat ((first | refine opsI.step ?_ | refine codeI.step ?_);conv=>whnf)
   repeat' first | ((first | (show CallN _ _ _ _ _ _;refine CallN.quiet rfl (c0 _) ?_) | (show Cut _ _ _ _;first | (refine Cut.txt l 0 k (by omega) (by omega) rfl (by omega) (by omega) ?_;rw [txt_sub,List.drop_zero]) | (refine Cut.txt l (k+1) l.length (by omega) (by omega) rfl (by omega) (by omega) ?_;rw [txt_sub,List.take_length])) | ((first | refine opsI.step ?_ | refine codeI.step ?_)) | refine WrapN.i64 (by omega) (by omega) ?_ | refine DrawN.run (by decide +kernel) ?_) <;> (conv=>whnf)) | (refine cnd_le (fun _=>?_) (fun _=>?_) <;> first | (exfalso;omega) | (conv=>whnf))
   all_goals exact RetN.all ⟨rfl,rfl⟩
  ·rw [if_neg hs] at c0 ⊢
   refine fn0_of_codeI ok D.internal_stringslite_Cut rfl ?_
   conv=>whnf
   repeat ((first | refine opsI.step ?_ | refine codeI.step ?_);conv=>whnf)
   repeat' first | ((first | (show CallN _ _ _ _ _ _;refine CallN.quiet rfl (c0 _) ?_) | ((first | refine opsI.step ?_ | refine codeI.step ?_))) <;> (conv=>whnf)) | (refine cnd_le (fun _=>?_) (fun _=>?_) <;> first | (exfalso;omega) | (conv=>whnf))
   all_goals exact RetN.all ⟨rfl,rfl⟩
 by_cases hs:slashI l<l.length
 ·unfold cutV at c1 ⊢
  rw [if_pos hs] at c1 ⊢
  refine fn0_of_codeI ok D.strings_Cut rfl ?_
  conv=>whnf
  repeat ((first | refine opsI.step ?_ | refine codeI.step ?_);conv=>whnf)
  repeat' first | ((first | (show CallN _ _ _ _ _ _;refine CallN.quiet rfl (c1 _) ?_) | ((first | refine opsI.step ?_ | refine codeI.step ?_))) <;> (conv=>whnf))
  exact RetN.all ⟨rfl,rfl⟩
 ·unfold cutV at c1 ⊢
  rw [if_neg hs] at c1 ⊢
  refine fn0_of_codeI ok D.strings_Cut rfl ?_
  conv=>whnf
  repeat ((first | refine opsI.step ?_ | refine codeI.step ?_);conv=>whnf)
  repeat' first | ((first | (show CallN _ _ _ _ _ _;refine CallN.quiet rfl (c1 _) ?_) | ((first | refine opsI.step ?_ | refine codeI.step ?_))) <;> (conv=>whnf))
  exact RetN.all ⟨rfl,rfl⟩
set_option maxRecDepth 20000 in
set_option maxHeartbeats 1000000 in
theorem trimR_ct (h:Heap) (l:List Nat) (hb:∀y∈l,y<256) (hl:l.length≤1000000):Fn0 T F.strings_trimRightByte [.string (txt l),.int .u8 48] h fun v h'=>h'=h∧∃k,k≤l.length∧v=.string (txt (l.take k))∧(∀i,k≤i→i<l.length→l.getD i 0=48)∧(k≠0→l.getD (k-1) 0≠48):=by
 refine fn0_of_codeI ok D.strings_trimRightByte rfl ?_
 conv=>whnf
 repeat ((first | refine opsI.step ?_ | refine codeI.step ?_);conv=>whnf)
 skip
 refine LoopN.of (fun r ρ h' L=>r≤l.length∧h'=h∧rd ρ 0=.string (txt (l.take r))∧Hq (∀i,r≤i→i<l.length→l.getD i 0=48)) l.length ⟨Nat.le_refl _,rfl,by rw [List.take_length];rfl,⟨fun i h1 h2=>by omega⟩⟩ ?_
 conv=>whnf
 repeat intro _
 rename_i r h1 L1 hI
 obtain ⟨hr,rfl,e0,hq⟩:=hI
 conv at e0=>lhs;whnf
 subst e0
 have hz:(txt (l.take r)).size=r:=by rw [txt_size,List.length_take,Nat.min_eq_left hr]
 have hb2:∀y∈l.take r,y<256:=fun y hy=>hb y (List.mem_of_mem_take hy)
 have hlen:(l.take r).length=r:=by rw [List.length_take,Nat.min_eq_left hr]
 have hX:(l.take r).getD (r-1) 0=l.getD (r-1) 0∨r=0:=by
  by_cases h0:r=0
  ·exact .inr h0
  ·left
   simp only [List.getD_eq_getElem?_getD,List.getElem?_take]
   rw [if_pos (by omega)]
 have hcut:((l.take r).take (r-1)).drop 0=l.take (r-1):=by rw [List.drop_zero,List.take_take,Nat.min_eq_left (by omega)]
 have q1:l.getD (r-1) 0=48→∀i,r-1≤i→i<l.length→l.getD i 0=48:=fun x i h1 h2=>by
  by_cases e:i=r-1
  ·rw [e];exact x
  ·exact hq.out i (by omega) h2
 obtain ⟨X,hXd⟩:∃X,X=(l.take r).getD (r-1) 0:=⟨_,rfl⟩
 obtain ⟨Y,hYd⟩:∃Y,Y=l.getD (r-1) 0:=⟨_,rfl⟩
 rw [← hXd,← hYd] at hX
 rw [← hYd] at q1
 replace q1:=Hq.mk q1
 conv=>whnf
 repeat ((first | refine opsI.step ?_ | refine codeI.step ?_);conv=>whnf)
 repeat' first | ((first | (show IdxS _ _ _;(refine IdxS.txt (l.take r) rfl hb2 (r-1) (by omega) (by omega) ?_;rw [← hXd])) | (show Cut _ _ _ _;(refine Cut.txt (l.take r) 0 (r-1) (by omega) (by omega) rfl (by omega) (by omega) ?_;rw [txt_sub,hcut])) | ((first | refine opsI.step ?_ | refine codeI.step ?_)) | refine WrapN.i64 (by omega) (by omega) ?_) <;> (conv=>whnf)) | (show cnd _ _ _;first | (refine cnd_lt (fun _=>?_) (fun _=>?_) <;> first | (exfalso;omega) | (conv=>whnf)) | (refine cnd_eq (fun _=>?_) (fun _=>?_) <;> first | (exfalso;omega) | (conv=>whnf)))
 all_goals first
  | exact ⟨rfl,r-1,by omega,by omega,rfl,rfl,⟨q1.out (by omega)⟩⟩
  | exact RetN.all ⟨rfl,r,hr,rfl,hq.out,fun x=>by rw [← hYd];omega⟩
set_option maxRecDepth 20000 in
set_option maxHeartbeats 1000000 in
theorem trimL_ct (h:Heap) (l:List Nat) (hb:∀y∈l,y<256) (hl:l.length≤1000000):Fn0 T F.strings_trimLeftByte [.string (txt l),.int .u8 48] h fun v h'=>h'=h∧∃k,k≤l.length∧v=.string (txt (l.drop k))∧(∀i,i<k→l.getD i 0=48)∧(k<l.length→l.getD k 0≠48):=by
 refine fn0_of_codeI ok D.strings_trimLeftByte rfl ?_
 conv=>whnf
 repeat ((first | refine opsI.step ?_ | refine codeI.step ?_);conv=>whnf)
 skip
 refine LoopN.of (fun r ρ h' L=>∃k,k≤l.length∧r=l.length-k∧h'=h∧rd ρ 0=.string (txt (l.drop k))∧Hq (∀i,i<k→l.getD i 0=48)) l.length ⟨0,Nat.zero_le _,rfl,rfl,by rw [List.drop_zero];rfl,⟨fun i h1=>by omega⟩⟩ ?_
 conv=>whnf
 repeat intro _
 rename_i r h1 L1 hI
 obtain ⟨k,hk,rfl,rfl,e0,hq⟩:=hI
 conv at e0=>lhs;whnf
 subst e0
 have hz:(txt (l.drop k)).size=l.length-k:=by rw [txt_size,List.length_drop]
 have hb2:∀y∈l.drop k,y<256:=fun y hy=>hb y (List.mem_of_mem_drop hy)
 have hlen:(l.drop k).length=l.length-k:=List.length_drop
 have hX:(l.drop k).getD 0 0=l.getD k 0:=by simp [List.getD_eq_getElem?_getD]
 have hcut:((l.drop k).take (l.length-k)).drop 1=l.drop (k+1):=by rw [← hlen,List.take_length,List.drop_drop]
 have q1:l.getD k 0=48→∀i,i<k+1→l.getD i 0=48:=fun x i h1=>by
  by_cases e:i=k
  ·rw [e];exact x
  ·exact hq.out i (by omega)
 obtain ⟨X,hXd⟩:∃X,X=l.getD k 0:=⟨_,rfl⟩
 rw [← hXd] at hX q1
 replace q1:=Hq.mk q1
 conv=>whnf
 repeat ((first | refine opsI.step ?_ | refine codeI.step ?_);conv=>whnf)
 repeat' first | ((first | (show IdxS _ _ _;(refine IdxS.txt (l.drop k) rfl hb2 0 (by omega) (by omega) ?_;rw [hX])) | (show Cut _ _ _ _;(refine Cut.txt (l.drop k) 1 (l.length-k) (by omega) (by omega) rfl (by omega) (by omega) ?_;rw [txt_sub,hcut])) | ((first | refine opsI.step ?_ | refine codeI.step ?_))) <;> (conv=>whnf)) | (show cnd _ _ _;first | (refine cnd_lt (fun _=>?_) (fun _=>?_) <;> first | (exfalso;omega) | (conv=>whnf)) | (refine cnd_eq (fun _=>?_) (fun _=>?_) <;> first | (exfalso;omega) | (conv=>whnf)))
 all_goals first
  | exact ⟨rfl,l.length-(k+1),by omega,k+1,by omega,rfl,rfl,rfl,⟨q1.out (by omega)⟩⟩
  | exact RetN.all ⟨rfl,k,hk,rfl,hq.out,fun x=>by rw [← hXd];omega⟩
set_option maxRecDepth 20000 in
set_option maxHeartbeats 1000000 in
theorem Trim_ct (h:Heap) (l:List Nat) (hb:∀y∈l,y<256) (hl:l.length≤1000000):Fn0 T F.strings_Trim [.string (txt l),.string (txt [48])] h fun v h'=>h'=h∧∃m,v=.string (txt m)∧(m=[]↔∀c∈l,c=48)∧∀y∈m,y<256:=by
 have mem:∀{l:List Nat},(∀i,i<l.length→l.getD i 0=48)→∀c∈l,c=48:=fun {l} x c hc=>by
  obtain ⟨i,hi,rfl⟩:=List.getElem_of_mem hc
  have:=x i hi
  simpa [List.getD_eq_getElem?_getD,hi] using this
 have g48:[48].getD 0 0=48:=rfl
 have s48:((txt [48]).size:Int)=1:=rfl
 refine fn0_of_codeI ok D.strings_Trim rfl ?_
 conv=>whnf
 repeat ((first | refine opsI.step ?_ | refine codeI.step ?_);conv=>whnf)
 repeat' first | ((first | (show IdxS _ _ _;refine IdxS.txt [48] rfl (by decide) 0 rfl (by decide) ?_) | (show CallN _ _ _ _ _ _;first | (refine CallN.fn rfl (trimR_ct _ l hb hl) (fun v h' hl2 hr=>?_);obtain ⟨rfl,k,hk,rfl,a1,a2⟩:=hr;clear hl2) | (refine CallN.fn rfl (trimL_ct _ (l.take _) (fun y hy=>hb y (List.mem_of_mem_take hy)) (by rw [List.length_take];omega)) (fun v h' hl2 hr=>?_);obtain ⟨rfl,j,hj,rfl,b1,b2⟩:=hr;clear hl2)) | ((first | refine opsI.step ?_ | refine codeI.step ?_)) | refine ⟨fun _=>HasLe.of_le (Heap.le_refl _),?_⟩ | refine DrawN.run (by decide +kernel) ?_) <;> (conv=>whnf)) | (show cnd _ _ _;first | (refine cnd_nil [48] rfl rfl (fun hx=>absurd hx (by decide)) (fun _=>?_);conv=>whnf) | (refine cnd_nil l rfl rfl (fun hx=>?_) (fun hx=>?_) <;> (conv=>whnf)) | (refine cnd_lt (fun _=>?_) (fun _=>?_) <;> first | (exfalso;omega) | (conv=>whnf)) | (refine cnd_eq (fun _=>?_) (fun _=>?_) <;> first | (exfalso;omega) | (conv=>whnf)))
 ·subst hx
  exact RetN.all ⟨rfl,[],rfl,by simp,by simp⟩
 ·refine RetN.all ⟨rfl,_,rfl,⟨fun x=>?_,fun x=>?_⟩,fun y hy=>hb y (List.mem_of_mem_take (List.mem_of_mem_drop hy))⟩
  ·refine mem fun i hi=>?_
   by_cases hik:k≤i
   ·exact a1 i hik hi
   ·have hjk:j=(l.take k).length:=by
     have:=congrArg List.length x
     rw [List.length_drop,List.length_nil] at this;omega
    rw [List.length_take,Nat.min_eq_left hk] at hjk
    have:=b1 i (by omega)
    simpa [List.getD_eq_getElem?_getD,List.getElem?_take,show i<k by omega] using this
  ·have hk0:k=0:=by
    by_cases h0:k=0
    ·exact h0
    ·refine absurd ?_ (a2 h0)
     rw [List.getD_eq_getElem?_getD,List.getElem?_eq_getElem (by omega)]
     exact x _ (List.getElem_mem _)
   subst hk0
   simp
end Go.Proofs.YtbgicephinomlaaGreatDoor
/- Valid trees: plain; the program's count. -/
namespace Go.Dig
mutual
def szT:Tr→Nat
 | .mk _ _ _ _ _ _ ks=>1+szTs ks
def szTs:List Tr→Nat
 | []=>0
 | t::ts=>szT t+szTs ts
end
def kidsN (op:Int):Int:=
 if op=1∨op=2∨op=3 then 0 else if op=4∨op=9∨op=10∨op=11∨op=12 then 1 else if op=5∨op=6∨op=7∨op=8∨op=13∨op=14 then 2 else if op=15 then 3 else -1
def lowA (op:Int):Int:=if op=9 then -32 else if op=10 then 2 else if op=11 then 1 else 0
def highA (op:Int):Int:=if op=9 then 32 else if op=10 then 8 else if op=11 then 8 else 0
end Go.Dig
namespace Go.Proofs.YtbgicephinomlaaGreatDoor
open Go Go.Vc Go.Dig
def numB (neg:Bool) (l m:List Nat):Prop:=okR neg l m∧0≤ratOf neg l m
instance (neg:Bool) (l m:List Nat):Decidable (numB neg l m):=by unfold numB;exact inferInstance
def nodeB (op arg:Int) (neg:Bool) (l m name:List Nat) (n:Nat):Prop:=
 (n:Int)=kidsN op∧lowA op≤arg∧arg≤highA op∧(if op=2 then IsNm name else name=[])∧(if op=1 then numB neg l m else evl 4294967296 l=0)
instance (op arg:Int) (neg:Bool) (l m name:List Nat) (n:Nat):Decidable (nodeB op arg neg l m name n):=by unfold nodeB;exact inferInstance
mutual
def okT:Nat→Tr→Prop
 | d,.mk op arg neg l m name ks=>d≤30∧nodeB op arg neg l m name ks.length∧okTs (d+1) ks
def okTs:Nat→List Tr→Prop
 | _,[]=>True
 | d,t::ts=>okT d t∧okTs d ts
end
mutual
def okTdec:(d:Nat)→(t:Tr)→Decidable (okT d t)
 | d,.mk op arg neg l m name ks=>by
  rw [okT]
  have:=okTsdec (d+1) ks
  exact inferInstance
def okTsdec:(d:Nat)→(ts:List Tr)→Decidable (okTs d ts)
 | _,[]=>by rw [okTs];exact inferInstance
 | d,t::ts=>by
  rw [okTs]
  have:=okTdec d t
  have:=okTsdec d ts
  exact inferInstance
end
instance (d:Nat) (t:Tr):Decidable (okT d t):=okTdec d t
instance (d:Nat) (ts:List Tr):Decidable (okTs d ts):=okTsdec d ts
def ValT (t:Tr):Prop:=okT 1 t∧szT t≤300
instance (t:Tr):Decidable (ValT t):=by unfold ValT;exact inferInstance
theorem szTs_mem:∀{ts:List Tr} {t:Tr},t∈ts→szT t≤szTs ts
 | t::ts,u,h=>by
  rw [szTs]
  rcases List.mem_cons.1 h with rfl | h
  ·omega
  ·have:=szTs_mem h;omega
theorem szTs_append:∀(a b:List Tr),szTs (a++b)=szTs a+szTs b
 | [],b=>by rw [List.nil_append,szTs,Nat.zero_add]
 | t::a,b=>by rw [List.cons_append,szTs,szTs,szTs_append a b];omega
theorem okTs_append {d:Nat}:∀{a b:List Tr},okTs d (a++b)↔okTs d a∧okTs d b
 | [],b=>by rw [List.nil_append,okTs];simp
 | t::a,b=>by rw [List.cons_append,okTs,okTs,okTs_append (a:=a)];exact and_assoc.symm
theorem take_snoc {α:Type} {l:List α} {j:Nat} {t:α} (h:l[j]?=some t):l.take (j+1)=l.take j++[t]:=by
 rw [List.take_add_one,h];rfl
theorem take_tail {α:Type} {l:List α} {j:Nat} {t:α} (h:l[j]?=some t):l=l.take j++t::l.drop (j+1):=by
 obtain ⟨hj,rfl⟩:=List.getElem?_eq_some_iff.1 h
 rw [List.getElem_cons_drop hj,List.take_append_drop]
/-! a kid in memory -/
theorem IsKs.get {h:Heap} {c:Array Value}:∀{ts:List Tr} {off j:Nat} {t:Tr},IsKs h c off ts→ts[j]?=some t→∃vs,vs.length=7∧(∀i,i<7→c[off+j*7+i]?=vs[i]?)∧IsE h vs t
 | [],off,j,t,_,e=>by simp at e
 | u::ts,off,0,t,w,e=>by
  rw [IsKs] at w
  obtain ⟨⟨vs,h1,h2,h3⟩,-⟩:=w
  simp at e;subst e
  exact ⟨vs,h1,fun i hi=>by rw [Nat.zero_mul,Nat.add_zero];exact h2 i hi,h3⟩
 | u::ts,off,j+1,t,w,e=>by
  rw [IsKs] at w
  obtain ⟨vs,h1,h2,h3⟩:=IsKs.get (j:=j) w.2 (by simpa using e)
  exact ⟨vs,h1,fun i hi=>by rw [← h2 i hi];congr 1;omega,h3⟩
theorem IsE.isK {h:Heap} {op arg:Int} {neg:Bool} {l m name:List Nat} {ks:List Tr} {vs:List Value} (w:IsE h vs (.mk op arg neg l m name ks)):
  ∃a b s:Sl,vs=[.int .i64 op,.int .i64 arg,.bool neg,a.val,b.val,.string (txt name),s.val]∧(-9223372036854775808≤op∧op≤9223372036854775807)∧(-9223372036854775808≤arg∧arg≤9223372036854775807)∧IsVal h a b l m∧(∀y∈name,y<256)∧IsK h s ks:=by
 rw [IsE] at w
 obtain ⟨a,b,s,h1,h2,h3,h4,h5,h6,h7,h8⟩:=w
 exact ⟨a,b,s,h1,h2,h3,h4,h5,⟨h6,h7,h8⟩⟩
theorem Sl.val_inj {s t:Sl} (h:s.val=t.val):s=t:=by
 obtain ⟨a,l,c⟩:=s
 obtain ⟨a',l',c'⟩:=t
 unfold Sl.val at h
 injection h with h1 h2 h3
 subst h1 h2 h3;rfl
theorem IsE.inv {h:Heap} {op ar:Int} {ng:Bool} {nn dd ss:Sl} {nm:List Nat} {op' arg':Int} {neg':Bool} {l m name:List Nat} {ks:List Tr} (w:IsE h [.int .i64 op,.int .i64 ar,.bool ng,nn.val,dd.val,.string (txt nm),ss.val] (.mk op' arg' neg' l m name ks)):
  op=op'∧ar=arg'∧ng=neg'∧IsVal h nn dd l m∧txt nm=txt name∧(∀y∈name,y<256)∧IsK h ss ks:=by
 obtain ⟨a,b,s,e,-,-,hv,hb,hk⟩:=w.isK
 injection e with e1 e
 injection e with e2 e
 injection e with e3 e
 injection e with e4 e
 injection e with e5 e
 injection e with e6 e
 injection e with e7 e
 injection e1 with _ e1
 injection e2 with _ e2
 injection e3 with e3
 injection e6 with e6
 have e4:=Sl.val_inj e4
 have e5:=Sl.val_inj e5
 have e7:=Sl.val_inj e7
 subst e4 e5 e7
 exact ⟨e1,e2,e3,hv,e6,hb,hk⟩
theorem LdN.of {h:Heap} {L:Own} {a:Addr} {n:Nat} {k:Value→Prop} (vs:List Value) (hl:vs.length=n) (hv:∀i,i<n→Has h L (a.add i) (vs.getD i undef)) (hk:k (.agg vs.toArray)):LdN h L a n k:=⟨⟨vs,hl,hv,hk⟩⟩
theorem Idx.kid {h:Heap} {s:Sl} {ts:List Tr} (w:IsK h s ts) {i:Int} {k:Addr→Prop} (j:Nat) (t:Tr) (hi:i=j) (ht:ts[j]?=some t)
  (hk:∀(ad:Addr) (op arg:Int) (neg:Bool) (a b:Sl) (name:List Nat) (s':Sl),IsE h [.int .i64 op,.int .i64 arg,.bool neg,a.val,b.val,.string (txt name),s'.val] t→
    (∀h' L (k':Value→Prop),h.le h'→k' (.agg #[.int .i64 op,.int .i64 arg,.bool neg,a.val,b.val,.string (txt name),s'.val])→LdN h' L ad 7 k')→k ad):Idx s.a i s.l 7 k:=by
 obtain ⟨hj,-⟩:=List.getElem?_eq_some_iff.1 ht
 rcases w.mem with e | ⟨bl,off,c,T,fz,e1,e2,e3⟩
 ·subst e;simp at ht
 ·obtain ⟨vs,h1,h2,h3⟩:=IsKs.get e3 ht
  obtain ⟨op,arg,neg,l,m,name,ks⟩:=t
  have h3':=h3
  rw [IsE] at h3
  obtain ⟨a,b,s',rfl,-⟩:=h3
  refine Idx.of j e1 hi (by rw [w.len];exact hj) (hk _ op arg neg a b name s' h3' fun h' L k' hl hk'=>?_)
  refine LdN.of [.int .i64 op,.int .i64 arg,.bool neg,a.val,b.val,.string (txt name),s'.val] rfl (fun i hi=>?_) hk'
  rw [add_lit]
  refine Has.imm (hl _ _ e2) ?_
  rw [h2 i hi]
  match i,hi with
  | 0,_=>rfl
  | 1,_=>rfl
  | 2,_=>rfl
  | 3,_=>rfl
  | 4,_=>rfl
  | 5,_=>rfl
  | 6,_=>rfl
end Go.Proofs.YtbgicephinomlaaGreatDoor
/- A new parser; the function that Run is handed; the check of numbers and counts. -/
namespace Go.Vc
open Go
theorem CallN.new {T:Tab} {f:FuncId} {args:List Value} {h:Heap} {L:Own} {k:Value→Heap→Own→Prop} {R:Value→Heap→Own→Prop} (ok:T.fn f=true) (hf:Fn T f args h [] R) (hk:∀v h' La,h.le h'→R v h' La→k v h' (La++L)):CallN T f args h L k:=
 .of ok (.done ⟨[],L,R,by simp,hf,fun v h' La hl r=>⟨La++L,.refl _,hk v h' La hl r⟩⟩)
theorem CallN.all {T:Tab} {f:FuncId} {args:List Value} {h:Heap} {A Lp:Own} {k:Value→Heap→Own→Prop} {R:Value→Heap→Own→Prop} (ok:T.fn f=true) (hf:Fn T f args h Lp R)
  (hk:∀v h' Lp',h.le h'→R v h' Lp'→k v h' (A++Lp')):CallN T f args h (A++Lp) k:=
 .of ok (.done ⟨Lp,A,R,List.perm_append_comm,hf,fun v h' La hl r=>⟨A++La,List.perm_append_comm,hk v h' La hl r⟩⟩)
end Go.Vc
namespace Go.Dig
def badN1 (t:Tk):Prop:=t.kind=1∧nought t.text
instance (t:Tk):Decidable (badN1 t):=by unfold badN1;exact inferInstance
end Go.Dig
namespace Go.Proofs.YtbgicephinomlaaGreatDoor
open Go Go.Vc Go.Dig
set_option maxRecDepth 20000 in
theorem New_ct (h:Heap) (s:Sl) (e:Nat):Vc.Fn T F.syntax_New [s.val,.int .i64 e] h [] fun v h' L'=>h'=h∧∃bp,v=.pointer (some ⟨bp,0,none⟩)∧L'=[Pst bp s 0 e (.slice none 0 0)]:=by
 refine fn_of_codeI ok D.syntax_New rfl ?_
 conv=>whnf
 repeat ((first | refine opsI.step ?_ | refine codeI.step ?_);conv=>whnf)
 repeat' first | ((first | ((first | refine opsI.step ?_ | refine codeI.step ?_)) | intro (_:Nat)) <;> (conv=>whnf))
 exact RetN.done ⟨rfl,_,rfl,rfl⟩
def topP (ts:List Tk):Pr Tr:=match parseT ts prs with
 | .ok tr i cs=>if i<ts.length then .bad i else .ok tr i cs
 | .bad j=>.bad j
set_option maxRecDepth 20000 in
set_option maxHeartbeats 1000000 in
theorem Parse1_ct (ts:List Tk) (bp:Nat) (s:Sl) (e:Nat) (h:Heap) (v:Value) (G:Own) (ec pc:Nat) (T1:TypeId) (tb:Tb h) (w:Toks h s ts) (g:GrowS Ty.syntax_count 4 v 0 [] G):
  FnP T F.expr_Parse_1 [.pointer (some ⟨pc,0,none⟩),.pointer (some ⟨ec,0,none⟩)] h ((ec,.cells [.int .i64 0,.int .i64 0,.bool false,.slice none 0 0,.slice none 0 0,.string (txt []),.slice none 0 0].toArray Ty.api_Expr (0,0))::(pc,.cells [.pointer (some ⟨bp,0,none⟩)].toArray T1 (0,0))::Pst bp s 0 e v::G)
   (fun r h' L'=>∃(tr:Tr) (i':Nat) (cs':List Cn) (v':Value) (G':Own) (op ar:Int) (ng:Bool) (nn dd:Sl) (nm:List Nat) (ss:Sl),topP ts=.ok tr i' cs'∧cs'.length≤ts.length∧L'=(ec,.cells [.int .i64 op,.int .i64 ar,.bool ng,nn.val,dd.val,.string (txt nm),ss.val].toArray Ty.api_Expr (0,0))::(pc,.cells [.pointer (some ⟨bp,0,none⟩)].toArray T1 (0,0))::Pst bp s i' e v'::G'∧GrowS Ty.syntax_count 4 v' cs'.length (cnc cs') G'∧IsE h' [.int .i64 op,.int .i64 ar,.bool ng,nn.val,dd.val,.string (txt nm),ss.val] tr)
   fun c _ _=>∃i:Nat,c=flt i∧∃j,topP ts=.bad j∧i=posAt ts e j:=by
 have c1:=fun h tb w=>Expr_ct ts bp s e h v G tb w g
 obtain ⟨r0,hr0⟩:∃r,r=parseT ts prs:=⟨_,rfl⟩
 rw [← hr0] at c1
 have t1:∀j,r0=.bad j→topP ts=.bad j:=fun j x=>by unfold topP;rw [← hr0,x]
 have t2:∀tr i cs,r0=.ok tr i cs→i<ts.length→topP ts=.bad i:=fun tr i cs x y=>by unfold topP;rw [← hr0,x];exact if_pos y
 have t3:∀tr i cs,r0=.ok tr i cs→ts.length≤i→topP ts=.ok tr i cs:=fun tr i cs x y=>by unfold topP;rw [← hr0,x];exact if_neg (by omega)
 refine fnP_of_codeI ok _ D.expr_Parse_1 rfl ?_
 conv=>whnf
 repeat ((first | refine opsI.step ?_ | refine codeI.step ?_);conv=>whnf)
 repeat' first | ((first | (show CallN _ _ _ _ _ _;first | (refine CallN.par (A:=[_,_]) rfl (FnP.withPan (c1 _ (by assumption) (by assumption))) (fun v h' Lp hl hr=>?_) (fun c h' Lp hl hs=>?_);obtain ⟨tr,i1,cs1,v1,G1,hp1,hi1,hc1,rfl,g1,hv1⟩:=hr;obtain ⟨op,ar,ng,nn,dd,nm,ss,rfl,hE⟩:=hv1) | (refine CallN.par2 (A:=[_,_]) (B:=G1) rfl (FnP.withPan (PDone_ct _ _ _ ts i1 e v1 (by (iterate 30 (try first | assumption | refine Toks.mono ?_ (by assumption)));first | done | assumption))) (fun v h' Lp hl hr=>?_) (fun c h' Lp hl hs=>?_);obtain ⟨rfl,hi2,rfl,rfl⟩:=hr;clear hl)) | ((first | refine opsI.step ?_ | refine codeI.step ?_)) | refine Ld.own 1 rfl rfl ?_ | refine Sto.lit 0 rfl rfl rfl ?_) <;> (conv=>whnf))
 ·exact RetN.done ⟨tr,i1,cs1,v1,G1,op,ar,ng,nn,dd,nm,ss,t3 tr i1 cs1 hp1 hi2,Nat.le_trans hc1 hi1,rfl,g1,hE⟩
 ·obtain ⟨hi2,rfl⟩:=hs
  exact ⟨posAt ts e i1,rfl,i1,t2 tr i1 cs1 hp1 hi2,rfl⟩
 ·obtain ⟨j,hj,rfl⟩:=hs
  exact ⟨posAt ts e j,rfl,j,t1 j hj,rfl⟩
def badN2 (t:Tk):Prop:=t.kind=1∧(parseL t.text).2≠0
instance (t:Tk):Decidable (badN2 t):=by unfold badN2;exact inferInstance
def badC (c:Cn):Prop:=c.n<c.low∨c.high<c.n
instance (c:Cn):Decidable (badC c):=by unfold badC;exact inferInstance
def chkT (ts:List Tk) (cs:List Cn):Nat × Nat:=match ts.find? (fun t=>decide (badN1 t)) with
 | some t=>(10,t.pos)
 | none=>match ts.filter (fun t=>decide (badN2 t)) with
  | t::_=>(1,t.pos)
  | []=>match cs.find? (fun c=>decide (badC c)) with
   | some c=>(2,c.pos)
   | none=>(0,0)
def fzv (t:Tk):List Value:=[.int .i64 1,.int .i64 t.pos]
def fzc (ts:List Tk):List Value:=ts.flatMap fzv
end Go.Proofs.YtbgicephinomlaaGreatDoor
namespace Go.Vc
open Go
theorem GrowS.block {e:TypeId} {size:Nat} {v:Value} {n:Nat} {xs:List Value} {F:Own} (g:GrowS e size v n xs F) (hn:0<n):
  ∃(b cap:Nat) (c:Array Value),v=.slice (some ⟨b,0,Option.none⟩) n cap∧(b,Obj.cells c e (0,0))∈F∧∀(j:Nat) (u:Value),xs[j]?=some u→c[j]?=some u:=by
 obtain ⟨-,⟨-,rfl⟩ | ⟨i,b,cap,zs,rfl,h2,h3,h4⟩⟩:=g
 ·omega
 ·refine ⟨b,cap,_,rfl,List.mem_of_getElem? h2,fun j u hu=>?_⟩
  have hj:=(List.getElem?_eq_some_iff.1 hu).1
  rw [List.getElem?_toArray,List.getElem?_append_left hj];exact hu
theorem GrowS.zeroLen {e:TypeId} {size:Nat} {v:Value} {xs:List Value} {F:Own} (g:GrowS e size v 0 xs F):∃(a:Option Addr) (cap:Nat),v=.slice a 0 cap:=by
 obtain ⟨-,⟨rfl,-⟩ | ⟨i,b,cap,zs,rfl,h2,h3,h4⟩⟩:=g
 ·exact ⟨Option.none,0,rfl⟩
 ·exact ⟨_,cap,rfl⟩
theorem GrowS.lenV {e:TypeId} {size:Nat} {v:Value} {n:Nat} {xs:List Value} {F:Own} (g:GrowS e size v n xs F):∃(a:Option Addr) (cap:Nat),v=.slice a n cap:=by
 obtain ⟨-,⟨rfl,rfl⟩ | ⟨i,b,cap,zs,rfl,h2,h3,h4⟩⟩:=g
 ·exact ⟨Option.none,0,rfl⟩
 ·exact ⟨_,cap,rfl⟩
theorem Sto.tl {A X tl:Own} {b off:Nat} {vs l:List Value} {T:TypeId} {k:Own→Prop} (hl:Nat.ble (off+vs.length) l.length=true) (ho:vs.all isOne=true)
  (hk:setsK vs l off fun l=>k (A++(X++(b,.cells l.toArray T (0,0))::tl))):Sto (A++(X++(b,.cells l.toArray T (0,0))::tl)) ⟨b,off,none⟩ vs k:=by
 rw [setsK_iff] at hk
 refine ⟨rfl,A.length+X.length,l.toArray,T,?_,?_,ho,?_⟩
 ·rw [List.getElem?_append_right (by omega),Nat.add_sub_cancel_left,List.getElem?_append_right (by omega),Nat.sub_self];rfl
 ·have:=Nat.le_of_ble_eq_true hl;simpa using this
 ·rw [setMany_eq,List.set_append_right _ _ (by omega),Nat.add_sub_cancel_left,List.set_append_right _ _ (by omega),Nat.sub_self]
  exact hk
theorem LdN.tl {h:Heap} {A F tl:Own} {b m:Nat} {k:Value→Prop} {l:List Value} {T:TypeId} (hl:l.length=m) (hk:k (.agg l.toArray)):LdN h (A++(F++(b,.cells l.toArray T (0,0))::tl)) ⟨b,0,none⟩ m k:=
 ⟨l,hl,fun i hi=>by
   rw [add_lit,Nat.zero_add]
   exact ⟨rfl,l.toArray,T,(0,0),.inr (by simp),by simp [hl▸hi,List.getD_eq_getElem?_getD,hl,hi]⟩,hk⟩
end Go.Vc
namespace Go.Proofs.YtbgicephinomlaaGreatDoor
open Go Go.Vc Go.Dig
theorem cnc_get {cs:List Cn} {m:Nat} {c:Cn} (hc:cs[m]?=some c) (q:Nat) (hq:q<4):(cnc cs)[m*4+q]?=(cnv c)[q]?:=by
 induction cs generalizing m with
 | nil=>simp at hc
 | cons u cs ih=>
  unfold cnc
  rw [List.flatMap_cons]
  cases m with
  | zero=>
   simp at hc;subst hc
   rw [List.getElem?_append_left (by simp [cnv];omega),Nat.zero_mul,Nat.zero_add]
  | succ m=>
   rw [List.getElem?_append_right (by simp [cnv];omega)]
   have:=ih (m:=m) (by simpa using hc)
   unfold cnc at this
   rw [← this]
   congr 1
   simp [cnv];omega
set_option maxRecDepth 20000 in
set_option maxHeartbeats 2000000 in
theorem Check_ct (h:Heap) (tb:Tb h) (bp:Nat) (s:Sl) (ts:List Tk) (i e:Nat) (v:Value) (cs:List Cn) (G:Own) (w:Toks h s ts) (g:GrowS Ty.syntax_count 4 v cs.length (cnc cs) G) (hcs:cs.length≤1000000):
  Vc.Fn T F.psyntax_Parser_Check [.pointer (some ⟨bp,0,none⟩)] h (Pst bp s i e v::G) fun r h' L'=>L'=[]∧r=.agg #[.int .i64 (chkT ts cs).1,.int .i64 (chkT ts cs).2]:=by
 have hl:=w.len
 have hw:=w.rw
 have hsz:=w.sz
 obtain ⟨Q,hQ⟩:∃Q,Q=chkT ts cs:=⟨_,rfl⟩
 have k1:∀j t,ts[j]?=some t→badN1 t→(∀u∈ts.take j,¬badN1 u)→Q=(10,t.pos):=fun j t ht hb hn=>by
  have:ts.find? (fun t=>decide (badN1 t))=some t:=by
   rw [take_tail ht,List.find?_append,List.find?_eq_none.2 (fun u hu=>by simpa using hn u hu)]
   simp [hb]
  rw [hQ];unfold chkT;rw [this]
 have k2:(∀u∈ts,¬badN1 u)→ts.find? (fun t=>decide (badN1 t))=none:=fun hn=>List.find?_eq_none.2 fun u hu=>by simpa using hn u hu
 have k3:(∀u∈ts,¬badN1 u)→∀t l,ts.filter (fun t=>decide (badN2 t))=t::l→Q=(1,t.pos):=fun hn t l hf=>by
  rw [hQ];unfold chkT;rw [k2 hn,hf]
 have k4:(∀u∈ts,¬badN1 u)→ts.filter (fun t=>decide (badN2 t))=[]→∀j c,cs[j]?=some c→badC c→(∀u∈cs.take j,¬badC u)→Q=(2,c.pos):=fun hn hf j c hc hb hm=>by
  have:cs.find? (fun c=>decide (badC c))=some c:=by
   rw [take_tail hc,List.find?_append,List.find?_eq_none.2 (fun u hu=>by simpa using hm u hu)]
   simp [hb]
  rw [hQ];unfold chkT;rw [k2 hn,hf];simp only;rw [this]
 have k5:(∀u∈ts,¬badN1 u)→ts.filter (fun t=>decide (badN2 t))=[]→(∀u∈cs,¬badC u)→Q=(0,0):=fun hn hf hm=>by
  have:cs.find? (fun c=>decide (badC c))=none:=List.find?_eq_none.2 fun u hu=>by simpa using hm u hu
  rw [hQ];unfold chkT;rw [k2 hn,hf];simp only;rw [this]
 rw [← hQ]
 clear hQ
 refine fn_of_codeI ok D.psyntax_Parser_Check rfl ?_
 conv=>whnf
 repeat ((first | refine opsI.step ?_ | refine codeI.step ?_);conv=>whnf)
 repeat' first | ((first | ((first | refine opsI.step ?_ | refine codeI.step ?_)) | intro (_:Nat) | refine Ld.own 1 rfl rfl ?_) <;> (conv=>whnf))
 rename_i b2
 refine LoopN.of (fun r ρ hx L=>∃(j:Nat) (F:Own) (vz:Value),r=ts.length-j∧h.le hx∧j≤ts.length∧rd ρ 18=.int .i64 j∧rd ρ 3=vz∧L=F++((b2,.cells [.int .i64 0,.int .i64 0].toArray Ty.syntax_Fault (0,0))::(Pst bp s i e v::G))∧((ts.take j).filter (fun t=>decide (badN2 t))).length≤j∧
     GrowS Ty.syntax_Fault 2 vz ((ts.take j).filter (fun t=>decide (badN2 t))).length (fzc ((ts.take j).filter (fun t=>decide (badN2 t)))) F∧Hq (∀u∈ts.take j,¬badN1 u)) ts.length
  ⟨0,[],_,rfl,Heap.le_refl _,Nat.zero_le _,rfl,rfl,rfl,Nat.le_refl _,GrowS.nil _ _ _,⟨by simp⟩⟩ ?_
 conv=>whnf
 repeat intro _
 rename_i r hx L2 hI
 obtain ⟨j,F,vz,rfl,hle,hj,e18,e3,rfl,hfl,gz,hn⟩:=hI
 conv at e3=>lhs;whnf
 subst e3
 conv at e18=>lhs;whnf
 subst e18
 have wh:=w.mono hle
 have hwh:=wh.rw
 have tbh:=tb.mono hle
 by_cases hjl:j=ts.length
 ·subst hjl
  rw [List.take_length] at hfl gz hn
  replace hn:=hn.out
  cases hA:ts.filter (fun t=>decide (badN2 t)) with
  | cons t l=>
   rw [hA] at gz hfl
   have hq:=k3 hn t l hA
   obtain ⟨bz,cap,c,rfl,hmem,hget⟩:=gz.block (by simp)
   have v0:∀A tl,Has hx (A++(F++tl)) ⟨bz,0,none⟩ (.int .i64 1):=fun A tl=>⟨rfl,c,_,(0,0),.inr (by simp;exact .inr (.inl hmem)),hget 0 _ rfl⟩
   have v1:∀A tl,Has hx (A++(F++tl)) ⟨bz,1,none⟩ (.int .i64 t.pos):=fun A tl=>⟨rfl,c,_,(0,0),.inr (by simp;exact .inr (.inl hmem)),hget 1 _ rfl⟩
   obtain ⟨N,hN⟩:∃N,N=(t::l).length:=⟨_,rfl⟩
   have hN0:0<N:=by rw [hN];simp
   rw [← hN]
   conv=>whnf
   repeat ((first | refine opsI.step ?_ | refine codeI.step ?_);conv=>whnf)
   repeat' first | ((first | (show Idx _ _ _ _ _;refine Idx.of 0 rfl rfl hN0 ?_) | (show LdN _ _ _ _ _;first | refine LdN.tl (A:=[]) (F:=F) rfl ?_ | (refine LdN.of [.int .i64 1,.int .i64 t.pos] rfl (fun i hi=>(by rw [add_lit];match i,hi with | 0,_=>exact v0 [] _ | 1,_=>exact v1 [] _)) ?_)) | (show Sto _ _ _ _;refine Sto.tl (A:=[]) (X:=F) rfl rfl ?_) | ((first | refine opsI.step ?_ | refine codeI.step ?_))) <;> (conv=>whnf)) | (refine cnd_lt (fun _=>?_) (fun _=>?_) <;> first | (exfalso;omega) | (conv=>whnf))
   rw [hq]
   exact RetN.all rfl
  | nil=>
   rw [hA] at gz hfl
   obtain ⟨az,cap,rfl⟩:=gz.zeroLen
   obtain ⟨aC,capC,rfl⟩:=g.lenV
   have hP:∀(A X:Own) (o:Nat × Obj),Has hx (A++(X++(o::Pst bp s i e (.slice aC cs.length capC)::G))) ⟨bp,3,none⟩ (.slice aC cs.length capC):=fun A X o=>⟨rfl,[s.val,.int .i64 i,.int .i64 e,.slice aC cs.length capC].toArray,Ty.syntax_Parser,(0,0),.inr (by unfold Pst;simp),rfl⟩
   conv=>whnf
   repeat ((first | refine opsI.step ?_ | refine codeI.step ?_);conv=>whnf)
   repeat' first | ((first | (show Ld _ _ _ _;refine Ld.of (hP [] F _) ?_) | ((first | refine opsI.step ?_ | refine codeI.step ?_))) <;> (conv=>whnf)) | (refine cnd_lt (fun _=>?_) (fun _=>?_) <;> first | (exfalso;omega) | (conv=>whnf))
   refine LoopN.of (fun r ρ hy L=>∃(m:Nat) (X:Own),r=cs.length-m∧hy=hx∧m≤cs.length∧rd ρ 67=.int .i64 m∧L=X++((b2,.cells [.int .i64 0,.int .i64 0].toArray Ty.syntax_Fault (0,0))::(Pst bp s i e (.slice aC cs.length capC)::G))∧Hq (∀u∈cs.take m,¬badC u)) cs.length
    ⟨0,F,rfl,rfl,Nat.zero_le _,rfl,rfl,⟨by simp⟩⟩ ?_
   conv=>whnf
   repeat intro _
   rename_i r hy L3 hJ
   obtain ⟨m,X,rfl,rfl,hm,e67,rfl,hc⟩:=hJ
   conv at e67=>lhs;whnf
   subst e67
   by_cases hmc:m=cs.length
   ·subst hmc
    rw [List.take_length] at hc
    rw [k5 hn hA hc.out]
    conv=>whnf
    repeat ((first | refine opsI.step ?_ | refine codeI.step ?_);conv=>whnf)
    repeat' first | ((first | (show Sto _ _ _ _;refine Sto.tl (A:=[]) (X:=X) rfl rfl ?_) | (show LdN _ _ _ _ _;refine LdN.tl (A:=[]) (F:=X) rfl ?_) | ((first | refine opsI.step ?_ | refine codeI.step ?_))) <;> (conv=>whnf)) | (refine cnd_lt (fun _=>?_) (fun _=>?_) <;> first | (exfalso;omega) | (conv=>whnf))
    exact RetN.all rfl
   ·obtain ⟨c,hcm⟩:∃c,cs[m]?=some c:=⟨_,List.getElem?_eq_getElem (by omega)⟩
    obtain ⟨bC,capC',cC,eC,hmC,hgC⟩:=g.block (by omega)
    cases eC
    have hcg:∀q,q<4→cC[m*4+q]?=(cnv c)[q]?:=fun q hq=>by
     rw [hgC (m*4+q) _ (by rw [cnc_get hcm q hq];exact List.getElem?_eq_getElem (by simpa [cnv] using hq))]
     exact (List.getElem?_eq_getElem (by simpa [cnv] using hq)).symm
    have hH:∀(A X:Own) (o:Nat × Obj) (q:Nat) (hq:q<4),Has hy (A++(X++(o::Pst bp s i e (.slice (some ⟨bC,0,none⟩) cs.length capC)::G))) ⟨bC,0+m*4+q,none⟩ ((cnv c).getD q undef):=fun A X o q hq=>⟨rfl,cC,_,(0,0),.inr (by simp;exact .inr (.inr (.inr (.inr hmC)))),by
      rw [show 0+m*4+q=m*4+q by omega,hcg q hq,List.getD_eq_getElem?_getD,List.getElem?_eq_getElem (by simpa [cnv] using hq)];rfl⟩
    have kk:=k4 hn hA m c hcm
    have kc:badC c↔c.n<c.low∨c.high<c.n:=Iff.rfl
    have kt:¬badC c→∀u∈cs.take (m+1),¬badC u:=fun x u hu=>by
     rw [take_snoc hcm] at hu
     rcases List.mem_append.1 hu with hu | hu
     ·exact hc.out u hu
     ·obtain rfl:u=c:=by simpa using hu
      exact x
    replace kk:=fun x=>kk x hc.out
    clear hc k1 k2 k3 k4 k5 hgC hcg
    obtain ⟨cp,cl,ch,cn⟩:=c
    simp only at kk kc
    replace hH:∀(A X:Own) (o:Nat × Obj) (q:Nat) (hq:q<4),Has hy (A++(X++(o::Pst bp s i e (.slice (some ⟨bC,0,none⟩) cs.length capC)::G))) ⟨bC,0+m*4+q,none⟩ ([.int .i64 cp,.int .i64 cl,.int .i64 ch,.int .i64 cn].getD q undef):=hH
    conv=>whnf
    repeat ((first | refine opsI.step ?_ | refine codeI.step ?_);conv=>whnf)
    repeat' first | ((first | (show Idx _ _ _ _ _;refine Idx.of m rfl rfl (by omega) ?_) | (show LdN _ _ _ _ _;first | refine LdN.tl (A:=[_]) (F:=X) rfl ?_ | (refine LdN.of [.int .i64 cp,.int .i64 cl,.int .i64 ch,.int .i64 cn] rfl (fun q hq=>(by rw [add_lit];exact hH [] X _ q hq)) ?_)) | (show Sto _ _ _ _;first | refine Sto.tl (A:=[_]) (X:=X) rfl rfl ?_ | refine Sto.lit 0 rfl rfl rfl ?_) | ((first | refine opsI.step ?_ | refine codeI.step ?_)) | intro (_:Nat) | refine WrapN.i64 (by omega) (by omega) ?_ | refine Ld.own 0 rfl rfl ?_) <;> (conv=>whnf)) | (refine cnd_lt (fun _=>?_) (fun _=>?_) <;> first | (exfalso;omega) | (conv=>whnf))
    ·rw [kk (kc.2 (.inl (by omega)))]
     exact RetN.all rfl
    ·rw [kk (kc.2 (.inr (by omega)))]
     exact RetN.all rfl
    ·exact ⟨rfl,cs.length-(m+1),by omega,m+1,_::X,rfl,rfl,by omega,vi (by omega),rfl,⟨kt fun x=>by have:=kc.1 x;omega⟩⟩
 ·obtain ⟨t,ht⟩:∃t,ts[j]?=some t:=⟨_,List.getElem?_eq_getElem (by omega)⟩
  have ht8:=w.lt t (List.mem_of_getElem? ht)
  have hps:=w.ps t (List.mem_of_getElem? ht)
  have htk:=take_snoc ht
  have q1:badN1 t→Q=(10,t.pos):=fun x=>k1 j t ht x hn.out
  have q2:¬badN1 t→∀u∈ts.take (j+1),¬badN1 u:=fun x u hu=>by
   rw [htk] at hu
   rcases List.mem_append.1 hu with hu | hu
   ·exact hn.out u hu
   ·obtain rfl:u=t:=by simpa using hu
    exact x
  have q3:¬badN2 t→(ts.take (j+1)).filter (fun t=>decide (badN2 t))=(ts.take j).filter (fun t=>decide (badN2 t)):=fun x=>by
   rw [htk,List.filter_append];simp [x]
  have q4:badN2 t→(ts.take (j+1)).filter (fun t=>decide (badN2 t))=(ts.take j).filter (fun t=>decide (badN2 t))++[t]:=fun x=>by
   rw [htk,List.filter_append];simp [x]
  obtain ⟨A,hA⟩:∃A,A=(ts.take j).filter (fun t=>decide (badN2 t)):=⟨_,rfl⟩
  obtain ⟨B,hB⟩:∃B,B=(ts.take (j+1)).filter (fun t=>decide (badN2 t)):=⟨_,rfl⟩
  rw [← hA] at q3 q4 gz hfl
  rw [← hB] at q3 q4
  have hn2:=hn.out
  have goN:∀F' vz',¬badN1 t→B.length≤j+1→GrowS Ty.syntax_Fault 2 vz' B.length (fzc B) F'→((ts.take (j+1)).filter (fun t=>decide (badN2 t))).length≤j+1∧GrowS Ty.syntax_Fault 2 vz' ((ts.take (j+1)).filter (fun t=>decide (badN2 t))).length (fzc ((ts.take (j+1)).filter (fun t=>decide (badN2 t)))) F'∧Hq (∀u∈ts.take (j+1),¬badN1 u):=fun F' vz' x y z=>by
   rw [← hB];exact ⟨y,z,⟨q2 x⟩⟩
  clear k1 k2 k3 k4 k5 hn hn2 q2
  have b1:t.kind≠1→¬badN1 t∧¬badN2 t:=fun x=>⟨fun y=>x y.1,fun y=>x y.1⟩
  have b2':t.kind=1→nought t.text→badN1 t:=fun x y=>⟨x,y⟩
  have b3:¬nought t.text→¬badN1 t:=fun x y=>x y.2
  have b4:t.kind=1→(parseL t.text).2≠0→badN2 t:=fun x y=>⟨x,y⟩
  have b5:(parseL t.text).2=0→¬badN2 t:=fun x y=>y.2 x
  have b6:slashI t.text<t.text.length→(nought t.text↔∀c∈t.text.drop (slashI t.text+1),c=48):=fun x=>⟨fun y=>y.2,fun y=>⟨x,y⟩⟩
  have b7:¬slashI t.text<t.text.length→¬nought t.text:=fun x y=>x y.1
  obtain ⟨bd1,hbd1⟩:∃p,p=badN1 t:=⟨_,rfl⟩
  obtain ⟨bd2,hbd2⟩:∃p,p=badN2 t:=⟨_,rfl⟩
  obtain ⟨ng,hng⟩:∃p,p=nought t.text:=⟨_,rfl⟩
  rw [← hbd1] at q1 goN b1 b2' b3
  rw [← hbd2] at q3 q4 b1 b4 b5
  rw [← hng] at b2' b3 b6 b7
  clear hbd1 hbd2 hng hA hB htk
  obtain ⟨K,hK⟩:∃k,k=t.kind:=⟨_,rfl⟩
  obtain ⟨tx,htx⟩:∃k,k=t.text:=⟨_,rfl⟩
  obtain ⟨tp,htp⟩:∃k,k=t.pos:=⟨_,rfl⟩
  have hT:∀{i:Int} {k:Addr→Prop},i=j→(∀b off,(∀L,Has hx L ⟨b,off,none⟩ (.int .i64 K))→(∀L,Has hx L ⟨b,off+1,none⟩ (.string (txt tx)))→(∀L,Has hx L ⟨b,off+2,none⟩ (.int .i64 tp))→k ⟨b,off,none⟩)→Idx s.a i s.l 3 k:=fun {i k} a f=>Idx.tok hwh j t a ht fun b off v0 v1 v2=>f b off (by rw [hK];exact v0) (by rw [htx];exact v1) (by rw [htp];exact v2)
  rw [← htp] at q1 hps
  rw [← hK] at b1 b2' b4 hps
  rw [← htx] at b4 b5 b6 b7 ht8 hps
  have c1:=fun h=>Cut_ct h tx ht8 hps.2.2
  have c3:=fun h tb=>Parse_ct h tb tx ht8
  obtain ⟨pq,hpq⟩:∃p,p=parseL tx:=⟨_,rfl⟩
  rw [← hpq] at b4 b5 c3
  have fzc_append:∀a b:List Tk,fzc (a++b)=fzc a++fzc b:=fun a b=>by unfold fzc;simp
  have hfz:fzc [t]=[.int .i64 1,.int .i64 tp]:=by rw [htp];rfl
  by_cases hs:slashI tx<tx.length
  ·unfold cutV at c1
   rw [if_pos hs] at c1
   replace b6:=b6 hs
   have c2:=fun h=>Trim_ct h (tx.drop (slashI tx+1)) (fun y hy=>ht8 y (List.mem_of_mem_drop hy)) (by rw [List.length_drop];omega)
   conv=>whnf
   repeat ((first | refine opsI.step ?_ | refine codeI.step ?_);conv=>whnf)
   repeat' first | ((first | (show SeqN _ _ _ _ _ _ _;refine SeqN.go ?_) | refine hT (by omega) (fun tb to v0 v1 v2=>?_) | ((first | refine opsI.step ?_ | refine codeI.step ?_)) | intro (_:Nat) | (show LdN _ _ _ _ _;first | refine LdN.hs3 (v0 _) (v1 _) (v2 _) ?_ | refine LdN.tl (A:=[_]) (F:=F) rfl ?_) | (show CallN _ _ _ _ _ _;first | refine CallN.quiet rfl (c1 _) ?_ | (refine CallN.fn rfl (c2 _) (fun v h' hl2 hr=>?_);obtain ⟨rfl,m,rfl,hm,hmb⟩:=hr;clear hl2) | (refine CallN.fn rfl (c3 _ tbh) (fun v h' hl2 hr=>?_);obtain ⟨ra,rb,rfl,hres⟩:=hr)) | (show Sto _ _ _ _;first | refine Sto.tl (A:=[_]) (X:=F) rfl rfl ?_ | refine Sto.lit 0 rfl rfl rfl ?_) | (show App _ _ _ _ _ _ _ _ _;refine App.growA (A:=[_,_,_]) (F:=F) (size:=2) (bytes:=16) (z:=[.int .i64 0,.int .i64 0]) rfl rfl gz ⟨_,0,none⟩ 1 1 [_,_] rfl (Has.front _) rfl (by decide) (by omega) (by omega) (by decide) (fun v' F' g' hsub=>?_)) | refine WrapN.i64 (by omega) (by omega) ?_ | (show Ld _ _ _ _;first | refine Ld.own 0 rfl rfl ?_ | refine Ld.own 1 rfl rfl ?_)) <;> (conv=>whnf)) | (show cnd _ _ _;first | (refine cnd_nil _ rfl rfl (fun hx=>?_) (fun hx=>?_) <;> (conv=>whnf)) | (refine cnd_lt (fun _=>?_) (fun _=>?_) <;> first | (exfalso;omega) | (conv=>whnf)) | (refine cnd_eq (fun _=>?_) (fun _=>?_) <;> first | (exfalso;omega) | (conv=>whnf)) | (refine cnd_not ?_))
   ·rw [q1 (b2' (by omega) (b6.2 (hm.1 (by assumption))))]
    exact RetN.all rfl
   ·have x1:=b3 fun x=>absurd (hm.2 (b6.1 x)) (by assumption)
    have x2:=b5 (by omega)
    have hlx:=Heap.le_trans hle hl2
    exact ⟨rfl,ts.length-(j+1),by omega,j+1,_::_::F,_,rfl,hlx,by omega,vi (by omega),rfl,rfl,goN _ _ x1 (by rw [q3 x2];omega) (by rw [q3 x2];exact (gz.cons _).cons _)⟩
   ·have x1:=b3 fun x=>absurd (hm.2 (b6.1 x)) (by assumption)
    have x2:=b4 (by omega) (by omega)
    have hlx:=Heap.le_trans hle hl2
    exact ⟨rfl,ts.length-(j+1),by omega,j+1,F',_,rfl,hlx,by omega,vi (by omega),rfl,rfl,goN _ _ x1 (by rw [q4 x2,List.length_append,List.length_singleton];omega) (by rw [q4 x2,List.length_append,List.length_singleton,fzc_append,hfz];exact g')⟩
   ·obtain ⟨x1,x2⟩:=b1 (by omega)
    exact ⟨rfl,ts.length-(j+1),by omega,j+1,_::F,_,rfl,hle,by omega,vi (by omega),rfl,rfl,goN _ _ x1 (by rw [q3 x2];omega) (by rw [q3 x2];exact gz.cons _)⟩
  ·unfold cutV at c1
   rw [if_neg hs] at c1
   have b7:=b3 (b7 hs)
   conv=>whnf
   repeat ((first | refine opsI.step ?_ | refine codeI.step ?_);conv=>whnf)
   repeat' first | ((first | (show SeqN _ _ _ _ _ _ _;refine SeqN.go ?_) | refine hT (by omega) (fun tb to v0 v1 v2=>?_) | ((first | refine opsI.step ?_ | refine codeI.step ?_)) | intro (_:Nat) | (show LdN _ _ _ _ _;refine LdN.hs3 (v0 _) (v1 _) (v2 _) ?_) | (show CallN _ _ _ _ _ _;first | refine CallN.quiet rfl (c1 _) ?_ | (refine CallN.fn rfl (c3 _ tbh) (fun v h' hl2 hr=>?_);obtain ⟨ra,rb,rfl,hres⟩:=hr)) | (show App _ _ _ _ _ _ _ _ _;refine App.growA (A:=[_,_,_]) (F:=F) (size:=2) (bytes:=16) (z:=[.int .i64 0,.int .i64 0]) rfl rfl gz ⟨_,0,none⟩ 1 1 [_,_] rfl (Has.front _) rfl (by decide) (by omega) (by omega) (by decide) (fun v' F' g' hsub=>?_)) | refine WrapN.i64 (by omega) (by omega) ?_ | (show Ld _ _ _ _;first | refine Ld.own 0 rfl rfl ?_ | refine Ld.own 1 rfl rfl ?_) | refine Sto.lit 0 rfl rfl rfl ?_) <;> (conv=>whnf)) | (show cnd _ _ _;first | (refine cnd_lt (fun _=>?_) (fun _=>?_) <;> first | (exfalso;omega) | (conv=>whnf)) | (refine cnd_eq (fun _=>?_) (fun _=>?_) <;> first | (exfalso;omega) | (conv=>whnf)) | (refine cnd_not ?_))
   ·have x2:=b5 (by omega)
    have hlx:=Heap.le_trans hle hl2
    exact ⟨rfl,ts.length-(j+1),by omega,j+1,_::_::F,_,rfl,hlx,by omega,vi (by omega),rfl,rfl,goN _ _ b7 (by rw [q3 x2];omega) (by rw [q3 x2];exact (gz.cons _).cons _)⟩
   ·have x2:=b4 (by omega) (by omega)
    have hlx:=Heap.le_trans hle hl2
    exact ⟨rfl,ts.length-(j+1),by omega,j+1,F',_,rfl,hlx,by omega,vi (by omega),rfl,rfl,goN _ _ b7 (by rw [q4 x2,List.length_append,List.length_singleton];omega) (by rw [q4 x2,List.length_append,List.length_singleton,fzc_append,hfz];exact g')⟩
   ·obtain ⟨x1,x2⟩:=b1 (by omega)
    exact ⟨rfl,ts.length-(j+1),by omega,j+1,_::F,_,rfl,hle,by omega,vi (by omega),rfl,rfl,goN _ _ x1 (by rw [q3 x2];omega) (by rw [q3 x2];exact gz.cons _)⟩
end Go.Proofs.YtbgicephinomlaaGreatDoor