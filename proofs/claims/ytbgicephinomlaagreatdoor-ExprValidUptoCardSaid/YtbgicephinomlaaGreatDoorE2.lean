/- Names of expressions: words, reserved words, the names of the elementary functions; the program's and the reference's. -/
import Derived.Test.YtbgicephinomlaaGreatDoorP4
set_option linter.unusedVariables false
set_option linter.unusedSimpArgs false
namespace Go.Dig
def ltr (c:Nat):Bool:=Nat.ble 97 c && Nat.ble c 122
theorem ltr_iff {c:Nat}:ltr c=true↔97≤c∧c≤122:=by unfold ltr;simp [Nat.ble_eq]
def aln (c:Nat):Bool:=ltr c || dgt c
def wlen:List Nat→Nat
 | []=>0
 | c::l=>if ltr c then (l.takeWhile aln).length+1 else 0
def fnames:List (List Nat):=[[101,120,112],[108,111,103],[115,105,110],[99,111,115],[116,97,110],[97,115,105,110],[97,99,111,115],[97,116,97,110]]
def rwords:List (List Nat):=[[112,105],[97,98,115],[109,105,110],[109,97,120],[114,111,111,116],[115,113,114,116],[105,102],[105,110,102],[102,111,114],[105,110],[119,104,101,114,101]]
def Resd (l:List Nat):Prop:=l∈rwords∨l∈fnames
instance (l:List Nat):Decidable (Resd l):=by unfold Resd;exact inferInstance
def IsNm (l:List Nat):Prop:=l.length≤8∧wlen l=l.length∧l≠[]∧¬Resd l
instance (l:List Nat):Decidable (IsNm l):=by unfold IsNm;exact inferInstance
def fnIx (l:List Nat):Nat:=if l∈fnames then fnames.idxOf l+1 else 0
theorem while_len {p:Nat→Bool} (l:List Nat):∀k,k≤l.length→(∀i,i<k→p (l.getD i 0)=true)→(k=l.length∨¬p (l.getD k 0)=true)→(l.takeWhile p).length=k:=by
 induction l with
 | nil=>intro k hk _ _;simp at hk;subst hk;simp
 | cons c l ih=>
  intro k hk h1 h2
  cases k with
  | zero=>
   rcases h2 with h2 | h2
   ·simp at h2
   ·simp at h2;simp [h2]
  | succ k=>
   have hc:=h1 0 (by omega)
   simp at hc
   have:=ih k (by simpa using hk) (fun i hi=>by have:=h1 (i+1) (by omega);simpa using this) (by
     rcases h2 with h2 | h2
     ·left;simpa using h2
     ·right;simpa using h2)
   simp [List.takeWhile_cons,hc,this]
theorem wlen_le (l:List Nat):wlen l≤l.length:=by
 cases l with
 | nil=>exact Nat.le_refl _
 | cons c l=>
  have:=(List.takeWhile_sublist (p:=aln) (l:=l)).length_le
  show (if ltr c then (l.takeWhile aln).length+1 else 0)≤l.length+1
  split <;> omega
end Go.Dig
namespace Go.Vc
open Go Go.Dig
theorem cnd_txt {a b:List Nat} {p q:Prop} (ha:∀y∈a,y<256) (hb:∀y∈b,y<256) (hp:a=b→p) (hq:a≠b→q):cnd (seq (txt a) (txt b)) p q:=
 cnd_seq (fun h=>hp (txt_inj ha hb h)) (fun h=>hq fun e=>h (by rw [e]))
theorem cnd_lit {s e:ByteArray} {p q:Prop} (l a:List Nat) (hs:s=txt l) (he:e=txt a) (hb:∀y∈l,y<256) (ha:∀y∈a,y<256) (hp:l=a→p) (hq:l≠a→q):cnd (seq s e) p q:=by
 subst hs he;exact cnd_txt hb ha hp hq
structure Strs (h:Heap) (s:Sl) (ls:List (List Nat)):Prop where
 len:s.l=ls.length
 mem:∃b c T fz,s.a=some ⟨b,0,none⟩∧h b=some (.cells c T fz)∧∀i,i<ls.length→c[i]?=some (.string (txt (ls.getD i [])))
theorem Strs.mono {h h':Heap} {s:Sl} {ls:List (List Nat)} (w:Strs h s ls) (hl:h.le h'):Strs h' s ls:=
 ⟨w.len,let ⟨b,c,T,fz,h1,h2,h3⟩:=w.mem;⟨b,c,T,fz,h1,hl _ _ h2,h3⟩⟩
theorem Idx.strs {h:Heap} {s:Sl} {ls:List (List Nat)} (w:Strs h s ls) {i:Int} {k:Addr→Prop} (j:Nat) (hi:i=j) (hj:j<ls.length) (hk:∀ad,(∀L,Has h L ad (.string (txt (ls.getD j []))))→k ad):Idx s.a i s.l 1 k:=by
 obtain ⟨b,c,T,fz,h1,h2,h3⟩:=w.mem
 exact Idx.one j h1 hi (by have:=w.len;omega) (by rw [Nat.zero_add];exact hk _ fun L=>Has.imm h2 (h3 j hj))
end Go.Vc
namespace Go.Proofs.YtbgicephinomlaaGreatDoor
open Go Go.Vc Go.Dig
theorem letter_ct (h:Heap) (c:Nat):Fn0 T F.syntax_letter [.int .u8 c] h fun v h'=>h'=h∧v=.bool (dec (ltr c=true)):=by
 have f1:97≤c→dec (ltr c=true)=Vc.le (c:Int) 122:=fun x=>by unfold dec Vc.le;congr 1;exact propext ⟨fun y=>by have:=ltr_iff.1 y;omega,fun y=>ltr_iff.2 ⟨x,by omega⟩⟩
 have f2:¬97≤c→dec (ltr c=true)=false:=fun x=>dec_false fun y=>x (ltr_iff.1 y).1
 refine fn0_of_codeI ok D.syntax_letter rfl ?_
 conv=>whnf
 repeat ((first | refine opsI.step ?_ | refine codeI.step ?_);conv=>whnf)
 repeat' first | ((first | ((first | refine opsI.step ?_ | refine codeI.step ?_))) <;> (conv=>whnf)) | (refine cnd_le (fun _=>?_) (fun _=>?_) <;> first | (exfalso;omega) | (conv=>whnf))
 ·exact RetN.all ⟨rfl,by rw [f1 (by omega)]⟩
 ·exact RetN.all ⟨rfl,by rw [f2 (by omega)]⟩
theorem digit8_ct (h:Heap) (c:Nat):Fn0 T F.syntax_digit [.int .u8 c] h fun v h'=>h'=h∧v=.bool (dec (dgt c=true)):=by
 have f1:48≤c→dec (dgt c=true)=Vc.le (c:Int) 57:=fun x=>by unfold dec Vc.le;congr 1;exact propext ⟨fun y=>by have:=dgt_iff.1 y;omega,fun y=>dgt_iff.2 ⟨x,by omega⟩⟩
 have f2:¬48≤c→dec (dgt c=true)=false:=fun x=>dec_false fun y=>x (dgt_iff.1 y).1
 refine fn0_of_codeI ok D.syntax_digit rfl ?_
 conv=>whnf
 repeat ((first | refine opsI.step ?_ | refine codeI.step ?_);conv=>whnf)
 repeat' first | ((first | ((first | refine opsI.step ?_ | refine codeI.step ?_))) <;> (conv=>whnf)) | (refine cnd_le (fun _=>?_) (fun _=>?_) <;> first | (exfalso;omega) | (conv=>whnf))
 ·exact RetN.all ⟨rfl,by rw [f1 (by omega)]⟩
 ·exact RetN.all ⟨rfl,by rw [f2 (by omega)]⟩
theorem strs_put {h:Heap} {b:Nat} {T:TypeId} {fz:Nat × Nat} {n:Nat} {ls:List (List Nat)} {cs:List Value} (hn:n=ls.length) (hc:cs=ls.map fun l=>.string (txt l)):Strs (h.put b (.cells cs.toArray T fz)) ⟨some ⟨b,0,none⟩,n,n⟩ ls:=by
 subst hc
 exact ⟨hn,b,(ls.map fun l=>Value.string (txt l)).toArray,T,fz,rfl,by simp [Heap.put],fun i hi=>by simp [hi,List.getD_eq_getElem?_getD]⟩
set_option maxRecDepth 20000 in
theorem names_ct (h:Heap):Fn0 T F.elem_names [] h fun v h'=>∃s:Sl,v=s.val∧Strs h' s fnames:=by
 refine fn0_of_codeI ok D.elem_names rfl ?_
 conv=>whnf
 repeat ((first | refine opsI.step ?_ | refine codeI.step ?_);conv=>whnf)
 repeat' first | ((first | ((first | refine opsI.step ?_ | refine codeI.step ?_)) | intro (_:Nat)) <;> (conv=>whnf))
 exact RetN.keep 0 rfl fun hle=>RetN.all ⟨⟨some ⟨_,0,none⟩,8,8⟩,rfl,strs_put rfl rfl⟩
set_option maxRecDepth 20000 in
theorem reserved_ct (h:Heap):Fn0 T F.ref04_reserved [] h fun v h'=>∃s:Sl,v=s.val∧Strs h' s (fnames++rwords):=by
 refine fn0_of_codeI ok D.ref04_reserved rfl ?_
 conv=>whnf
 repeat ((first | refine opsI.step ?_ | refine codeI.step ?_);conv=>whnf)
 repeat' first | ((first | ((first | refine opsI.step ?_ | refine codeI.step ?_)) | intro (_:Nat)) <;> (conv=>whnf))
 exact RetN.keep 0 rfl fun hle=>RetN.all ⟨⟨some ⟨_,0,none⟩,19,19⟩,rfl,strs_put rfl rfl⟩
theorem fnames_lt:∀l∈fnames,∀y∈l,y<256:=by decide
theorem rwords_lt:∀l∈rwords,∀y∈l,y<256:=by decide
theorem getD_mem {α:Type} {l:List α} {i:Nat} {d:α} (h:i<l.length):l.getD i d∈l:=by simp [List.getD_eq_getElem?_getD,h]
theorem fnIx_all:∀k,k<8→fnIx (fnames.getD k [])=k+1:=by decide
theorem idx_at (l:List Nat) (k:Nat) (hk:k<fnames.length) (h1:fnames.getD k []=l):l∈fnames∧fnIx l=k+1:=
 ⟨h1▸getD_mem hk,h1▸fnIx_all k hk⟩
theorem idx_no (l:List Nat) (h0:∀j,j<fnames.length→fnames.getD j []≠l):l∉fnames∧fnIx l=0:=by
 have hm:l∉fnames:=fun hm=>by
  obtain ⟨i,hi,rfl⟩:=List.getElem_of_mem hm
  exact h0 i hi (by simp [List.getD_eq_getElem?_getD,hi])
 exact ⟨hm,if_neg hm⟩
set_option maxRecDepth 20000 in
set_option maxHeartbeats 1000000 in
theorem Find_ct (h:Heap) (l:List Nat) (hb:∀y∈l,y<256):Fn0 T F.elem_Find [.string (txt l)] h fun v h'=>v=.tuple #[.int .i64 (fnIx l:Nat),.bool (dec (l∈fnames))]:=by
 have h8:fnames.length=8:=rfl
 refine fn0_of_codeI ok D.elem_Find rfl ?_
 conv=>whnf
 repeat ((first | refine opsI.step ?_ | refine codeI.step ?_);conv=>whnf)
 repeat' first | ((first | (show CallN _ _ _ _ _ _;(refine CallN.fn rfl (names_ct _) (fun v h' hl hr=>?_);obtain ⟨s,rfl,hs⟩:=hr;have hsl:=hs.len)) | ((first | refine opsI.step ?_ | refine codeI.step ?_))) <;> (conv=>whnf))
 refine LoopN.of (fun r ρ h1 L=>∃k:Nat,r=8-k∧h1=h'∧rd ρ 8=.int .i64 k∧k≤8∧Hq (∀j,j<k→fnames.getD j []≠l)) 8 ⟨0,rfl,rfl,vi (by omega),by omega,⟨fun i hi=>by omega⟩⟩ ?_
 conv=>whnf
 repeat intro _
 rename_i r h1 L1 hI
 obtain ⟨k,rfl,rfl,e8,hk,hd⟩:=hI
 conv at e8=>lhs;whnf
 subst e8
 have hg:k<8→∀y∈fnames.getD k [],y<256:=fun x=>fnames_lt _ (getD_mem (by omega))
 have g1:=fun (x:k<8) y=>idx_at l k (by omega) y
 have g2:=fun (x:k=8)=>idx_no l (by subst x;exact hd.out)
 have g3:k<8→fnames.getD k []≠l→∀j,j<k+1→fnames.getD j []≠l:=fun x y j hj=>by
  by_cases e:j=k
  ·subst e;exact y
  ·exact hd.out j (by omega)
 obtain ⟨X,hX⟩:∃X,X=fnames.getD k []:=⟨_,rfl⟩
 rw [← hX] at hg g1 g3
 replace g1:=Hq.mk g1
 replace g2:=Hq.mk g2
 replace g3:=Hq.mk g3
 conv=>whnf
 repeat ((first | refine opsI.step ?_ | refine codeI.step ?_);conv=>whnf)
 repeat' first | ((first | (show Idx _ _ _ _ _;refine Idx.strs hs k (by omega) (by omega) (fun ad hv=>?_)) | (show Ld _ _ _ _;(refine Ld.of (by first | exact hv _ | (rename_i hv;exact hv _)) ?_;rw [← hX])) | ((first | refine opsI.step ?_ | refine codeI.step ?_)) | refine WrapN.i64 (by omega) (by omega) ?_) <;> (conv=>whnf)) | (show cnd _ _ _;first | (refine cnd_txt (hg (by omega)) hb (fun _=>?_) (fun _=>?_) <;> (conv=>whnf)) | (refine cnd_lt (fun _=>?_) (fun _=>?_) <;> first | (exfalso;omega) | (conv=>whnf)))
 all_goals first
  | exact ⟨rfl,8-(k+1),by omega,k+1,rfl,rfl,vi (by omega),by omega,⟨g3.out (by omega) (by assumption)⟩⟩
  | (rw [(g1.out (by omega) (by assumption)).2,dec_true (g1.out (by omega) (by assumption)).1];exact RetN.all rfl)
  | (rw [(g2.out (by omega)).2,dec_false (g2.out (by omega)).1];exact RetN.all rfl)
theorem Resd_no {l:List Nat} (h:l∉rwords):dec (Resd l)=dec (l∈fnames):=by
 unfold dec Resd;congr 1;exact propext ⟨fun x=>x.elim (fun y=>absurd y h) id,.inr⟩
set_option maxRecDepth 20000 in
set_option maxHeartbeats 2000000 in
theorem Reserved_ct (h:Heap) (l:List Nat) (hb:∀y∈l,y<256):Fn0 T F.syntax_Reserved [.string (txt l)] h fun v h'=>v=.bool (dec (Resd l)):=by
 have f1:l∈rwords→dec (Resd l)=true:=fun x=>dec_true (.inl x)
 have f2:l∉rwords→dec (Resd l)=dec (l∈fnames):=Resd_no
 refine fn0_of_codeI ok D.syntax_Reserved rfl ?_
 conv=>whnf
 repeat ((first | refine opsI.step ?_ | refine codeI.step ?_);conv=>whnf)
 repeat' first | ((first | (show SeqN _ _ _ _ _ _ _;refine SeqN.go ?_) | (show CallN _ _ _ _ _ _;(refine CallN.fn rfl (Find_ct _ l hb) (fun v h' hl hr=>?_);obtain rfl:=hr)) | ((first | refine opsI.step ?_ | refine codeI.step ?_))) <;> (conv=>whnf)) | (show cnd _ _ _;first | (refine cnd_lit l [112,105] rfl rfl hb (by decide) (fun h1=>?_) (fun h1=>?_) <;> first | exact absurd h1 (by assumption) | exact absurd (by assumption) h1 | (conv=>whnf)) | (refine cnd_lit l [97,98,115] rfl rfl hb (by decide) (fun h1=>?_) (fun h1=>?_) <;> first | exact absurd h1 (by assumption) | exact absurd (by assumption) h1 | (conv=>whnf)) | (refine cnd_lit l [109,105,110] rfl rfl hb (by decide) (fun h1=>?_) (fun h1=>?_) <;> first | exact absurd h1 (by assumption) | exact absurd (by assumption) h1 | (conv=>whnf)) | (refine cnd_lit l [109,97,120] rfl rfl hb (by decide) (fun h1=>?_) (fun h1=>?_) <;> first | exact absurd h1 (by assumption) | exact absurd (by assumption) h1 | (conv=>whnf)) | (refine cnd_lit l [114,111,111,116] rfl rfl hb (by decide) (fun h1=>?_) (fun h1=>?_) <;> first | exact absurd h1 (by assumption) | exact absurd (by assumption) h1 | (conv=>whnf)) | (refine cnd_lit l [115,113,114,116] rfl rfl hb (by decide) (fun h1=>?_) (fun h1=>?_) <;> first | exact absurd h1 (by assumption) | exact absurd (by assumption) h1 | (conv=>whnf)) | (refine cnd_lit l [105,102] rfl rfl hb (by decide) (fun h1=>?_) (fun h1=>?_) <;> first | exact absurd h1 (by assumption) | exact absurd (by assumption) h1 | (conv=>whnf)) | (refine cnd_lit l [105,110,102] rfl rfl hb (by decide) (fun h1=>?_) (fun h1=>?_) <;> first | exact absurd h1 (by assumption) | exact absurd (by assumption) h1 | (conv=>whnf)) | (refine cnd_lit l [102,111,114] rfl rfl hb (by decide) (fun h1=>?_) (fun h1=>?_) <;> first | exact absurd h1 (by assumption) | exact absurd (by assumption) h1 | (conv=>whnf)) | (refine cnd_lit l [105,110] rfl rfl hb (by decide) (fun h1=>?_) (fun h1=>?_) <;> first | exact absurd h1 (by assumption) | exact absurd (by assumption) h1 | (conv=>whnf)) | (refine cnd_lit l [119,104,101,114,101] rfl rfl hb (by decide) (fun h1=>?_) (fun h1=>?_) <;> first | exact absurd h1 (by assumption) | exact absurd (by assumption) h1 | (conv=>whnf)))
 all_goals first
  | (rw [f1 (by unfold rwords;simp [*])];exact RetN.all rfl)
  | (rw [f2 (by unfold rwords;simp [*])];exact RetN.all rfl)
theorem aln_iff {c:Nat}:aln c=true↔ltr c=true∨dgt c=true:=by unfold aln;simp
set_option maxRecDepth 20000 in
set_option maxHeartbeats 1000000 in
theorem word_ct (h:Heap) (l:List Nat) (hb:∀y∈l,y<256) (hl:l.length≤9223372036854775807):Fn0 T F.syntax_word [.string (txt l)] h fun v h'=>h'=h∧v=.int .i64 (wlen l:Nat):=by
 have hz:=txt_size l
 cases l with
 | nil=>
  refine fn0_of_codeI ok D.syntax_word rfl ?_
  conv=>whnf
  repeat ((first | refine opsI.step ?_ | refine codeI.step ?_);conv=>whnf)
  repeat' first | ((first | ((first | refine opsI.step ?_ | refine codeI.step ?_))) <;> (conv=>whnf)) | (show cnd _ _ _;first | (refine cnd_nil [] rfl rfl (fun _=>?_) (fun hne=>?_) <;> first | exact absurd rfl hne | (conv=>whnf)))
  all_goals exact RetN.all ⟨rfl,rfl⟩
 | cons c m=>
  have hlc:(c::m).length=m.length+1:=rfl
  have w1:ltr c=true→wlen (c::m)=(m.takeWhile aln).length+1:=fun x=>if_pos x
  have w0:¬ltr c=true→wlen (c::m)=0:=fun x=>if_neg x
  refine fn0_of_codeI ok D.syntax_word rfl ?_
  conv=>whnf
  repeat ((first | refine opsI.step ?_ | refine codeI.step ?_);conv=>whnf)
  repeat' first | ((first | (show IdxS _ _ _;refine IdxS.at (c::m) c rfl hb 0 (by omega) rfl ?_) | (show CallN _ _ _ _ _ _;refine CallN.quiet rfl (letter_ct _ c) ?_) | ((first | refine opsI.step ?_ | refine codeI.step ?_))) <;> (conv=>whnf)) | (show cnd _ _ _;first | (refine cnd_nil (c::m) rfl rfl (fun hne=>?_) (fun _=>?_) <;> first | cases hne | (conv=>whnf)) | (refine cnd_not ?_) | (refine cnd_dec (fun _=>?_) (fun _=>?_) <;> first | (exfalso;omega) | (conv=>whnf)))
  all_goals first
   | (refine RetN.all ⟨rfl,?_⟩;rw [w0 (by assumption)];rfl)
   | skip
  have hc:ltr c=true:=by assumption
  refine LoopN.of (fun r ρ h' L=>∃k:Nat,r=m.length-k∧h'=h∧rd ρ 3=.int .i64 ((k+1:Nat):Int)∧k≤m.length∧Hq (∀i,i<k→aln (m.getD i 0)=true)) m.length ⟨0,rfl,rfl,vi (by omega),by omega,⟨fun i hi=>by omega⟩⟩ ?_
  conv=>whnf
  repeat intro _
  rename_i r h1 L1 hI
  obtain ⟨k,rfl,rfl,e3,hk,hd⟩:=hI
  conv at e3=>lhs;whnf
  subst e3
  have hs:=fun (x:k<m.length) (y:ltr (m.getD k 0)=true∨dgt (m.getD k 0)=true) i (hi:i<k+1)=>(by
    by_cases e:i=k
    ·subst e;exact aln_iff.2 y
    ·exact hd.out i (by omega):aln (m.getD i 0)=true)
  have hw:=while_len m k hk hd.out
  have hn:¬ltr (m.getD k 0)=true→¬dgt (m.getD k 0)=true→¬aln (m.getD k 0)=true:=fun x y z=>(aln_iff.1 z).elim x y
  have hgk:k<m.length→(c::m)[k+1]?=some (m.getD k 0):=fun x=>by simp [List.getD_eq_getElem?_getD,x]
  obtain ⟨X,hX⟩:∃X,X=m.getD k 0:=⟨_,rfl⟩
  rw [← hX] at hs hw hn hgk
  replace hs:=Hq.mk hs
  replace hw:=Hq.mk hw
  replace hn:=Hq.mk hn
  conv=>whnf
  repeat ((first | refine opsI.step ?_ | refine codeI.step ?_);conv=>whnf)
  repeat' first | ((first | (show IdxS _ _ _;refine IdxS.at (c::m) X rfl hb (k+1) (by omega) (hgk (by omega)) ?_) | (show CallN _ _ _ _ _ _;first | refine CallN.quiet rfl (letter_ct _ X) ?_ | refine CallN.quiet rfl (digit8_ct _ X) ?_) | ((first | refine opsI.step ?_ | refine codeI.step ?_)) | refine WrapN.i64 (by omega) (by omega) ?_) <;> (conv=>whnf)) | (show cnd _ _ _;first | (refine cnd_lt (fun _=>?_) (fun _=>?_) <;> first | (exfalso;omega) | (conv=>whnf)) | (refine cnd_dec (fun _=>?_) (fun _=>?_) <;> first | (exfalso;omega) | (conv=>whnf)))
  all_goals first
   | exact ⟨rfl,m.length-(k+1),by omega,k+1,rfl,rfl,vi (by omega),by omega,⟨hs.out (by omega) (by first | exact .inl (by assumption) | exact .inr (by assumption))⟩⟩
   | (refine RetN.all ⟨rfl,?_⟩;rw [w1 hc,hw.out (by first | (left;omega) | (right;exact hn.out (by assumption) (by assumption)))])
end Go.Proofs.YtbgicephinomlaaGreatDoor
/- Names of expressions: what a name is, on both sides. -/
namespace Go.Dig
def wat (l:List Nat) (j:Nat):Prop:=ltr (l.getD j 0)=true∨(j≠0∧dgt (l.getD j 0)=true)
theorem takeWhile_all {p:Nat→Bool}:∀(m:List Nat),(∀x∈m,p x=true)→(m.takeWhile p).length=m.length
 | [],_=>rfl
 | c::m,h=>by
  rw [List.takeWhile_cons,if_pos (h c List.mem_cons_self),List.length_cons,List.length_cons,takeWhile_all m fun x hx=>h x (List.mem_cons_of_mem _ hx)]
theorem takeWhile_not {p:Nat→Bool}:∀(m:List Nat),(∃x∈m,¬p x=true)→(m.takeWhile p).length<m.length
 | [],⟨x,hx,_⟩=>by cases hx
 | c::m,⟨x,hx,hp⟩=>by
  rw [List.takeWhile_cons]
  split
  ·rename_i hc
   rcases List.mem_cons.1 hx with rfl | hx
   ·exact absurd hc hp
   ·have:=takeWhile_not m ⟨x,hx,hp⟩
    simp only [List.length_cons];omega
  ·simp
theorem wlen_full {l:List Nat} (h:∀j,j<l.length→wat l j):wlen l=l.length:=by
 cases l with
 | nil=>rfl
 | cons c m=>
  have h0:ltr c=true:=by
   rcases h 0 (by simp) with x | x
   ·simpa using x
   ·exact absurd rfl x.1
  show (if ltr c then (m.takeWhile aln).length+1 else 0)=m.length+1
  rw [if_pos h0,takeWhile_all m]
  intro x hx
  obtain ⟨i,hi,rfl⟩:=List.getElem_of_mem hx
  unfold aln
  rcases h (i+1) (by simp;omega) with y | y
  ·simp [List.getD_eq_getElem?_getD,hi] at y;simp [y]
  ·have y:=y.2
   simp [List.getD_eq_getElem?_getD,hi] at y;simp [y]
theorem wlen_not {l:List Nat} {j:Nat} (hj:j<l.length) (h:¬wat l j):wlen l≠l.length:=by
 cases l with
 | nil=>simp at hj
 | cons c m=>
  show (if ltr c then (m.takeWhile aln).length+1 else 0)≠m.length+1
  by_cases hc:ltr c=true
  ·rw [if_pos hc]
   cases j with
   | zero=>exact absurd (.inl (by simpa using hc)) h
   | succ i=>
    have hi:i<m.length:=by simpa using hj
    have:=takeWhile_not (p:=aln) m ⟨m[i],List.getElem_mem hi,fun x=>h (by
      unfold aln at x
      unfold wat
      simp [List.getD_eq_getElem?_getD,hi]
      simpa using x)⟩
    omega
  ·rw [if_neg hc];omega
end Go.Dig
namespace Go.Proofs.YtbgicephinomlaaGreatDoor
open Go Go.Vc Go.Dig
set_option maxRecDepth 20000 in
set_option maxHeartbeats 1000000 in
theorem SIsName_ct (h:Heap) (l:List Nat) (hb:∀y∈l,y<256):Fn0 T F.syntax_IsName [.string (txt l)] h fun v h'=>v=.bool (dec (IsNm l)):=by
 have hz:=txt_size l
 have hw:=wlen_le l
 have f1:l.length≤8→wlen l=l.length→l≠[]→dec (IsNm l)=!dec (Resd l):=fun a b c=>by
  by_cases r:Resd l
  ·rw [dec_true r,dec_false fun x=>x.2.2.2 r];rfl
  ·rw [dec_false r,dec_true ⟨a,b,c,r⟩];rfl
 have f2:¬l.length≤8→dec (IsNm l)=false:=fun a=>dec_false fun x=>a x.1
 have f3:¬wlen l=l.length→dec (IsNm l)=false:=fun a=>dec_false fun x=>a x.2.1
 have f4:l=[]→dec (IsNm l)=false:=fun a=>dec_false fun x=>x.2.2.1 a
 refine fn0_of_codeI ok D.syntax_IsName rfl ?_
 conv=>whnf
 repeat ((first | refine opsI.step ?_ | refine codeI.step ?_);conv=>whnf)
 repeat' first | ((first | (show CallN _ _ _ _ _ _;first | refine CallN.quiet rfl (word_ct _ l hb (by omega)) ?_ | (refine CallN.fn rfl (Reserved_ct _ l hb) (fun v h' hl hr=>?_);obtain rfl:=hr)) | ((first | refine opsI.step ?_ | refine codeI.step ?_))) <;> (conv=>whnf)) | (show cnd _ _ _;first | (refine cnd_nil l rfl rfl (fun _=>?_) (fun _=>?_) <;> (conv=>whnf)) | (refine cnd_le (fun _=>?_) (fun _=>?_) <;> first | (exfalso;omega) | (conv=>whnf)) | (refine cnd_eq (fun _=>?_) (fun _=>?_) <;> first | (exfalso;omega) | (conv=>whnf)) | (refine cnd_not ?_))
 all_goals first
  | (rw [f1 (by omega) (by omega) (by assumption)];exact RetN.all rfl)
  | (rw [f2 (by omega)];exact RetN.all rfl)
  | (rw [f3 (by omega)];exact RetN.all rfl)
  | (rw [f4 (by assumption)];exact RetN.all rfl)
theorem XIsName_ct (h:Heap) (l:List Nat) (hb:∀y∈l,y<256):Fn0 T F.expr_IsName [.string (txt l)] h fun v h'=>v=.bool (dec (IsNm l)):=by
 refine fn0_of_codeI ok D.expr_IsName rfl ?_
 conv=>whnf
 repeat ((first | refine opsI.step ?_ | refine codeI.step ?_);conv=>whnf)
 repeat' first | ((first | (show CallN _ _ _ _ _ _;(refine CallN.fn rfl (SIsName_ct _ l hb) (fun v h' hl hr=>?_);obtain rfl:=hr)) | ((first | refine opsI.step ?_ | refine codeI.step ?_))) <;> (conv=>whnf))
 all_goals exact RetN.all rfl
set_option maxRecDepth 20000 in
set_option maxHeartbeats 1000000 in
theorem Rword_ct (h:Heap) (l:List Nat) (hb:∀y∈l,y<256) (hl:l.length≤9223372036854775807):Fn0 T F.ref04_word [.string (txt l)] h fun v h'=>h'=h∧v=.bool (dec (wlen l=l.length∧l≠[])):=by
 have hz:=txt_size l
 have f1:(∃j,j<l.length∧¬wat l j)→dec (wlen l=l.length∧l≠[])=false:=fun ⟨j,hj,hn⟩=>dec_false fun x=>wlen_not hj hn x.1
 have f2:(∀j,j<l.length→wat l j)→dec (wlen l=l.length∧l≠[])=Vc.lt 0 ((txt l).size:Int):=fun x=>by
  unfold dec Vc.lt
  congr 1
  refine propext ⟨fun y=>?_,fun y=>⟨wlen_full x,fun e=>by have h0:=congrArg List.length e;simp only [List.length_nil] at h0;omega⟩⟩
  have:=List.length_pos_iff.2 y.2
  omega
 refine fn0_of_codeI ok D.ref04_word rfl ?_
 conv=>whnf
 repeat ((first | refine opsI.step ?_ | refine codeI.step ?_);conv=>whnf)
 skip
 refine LoopN.of (fun r ρ h' L=>∃k:Nat,r=l.length-k∧h'=h∧rd ρ 3=.int .i64 k∧k≤l.length∧Hq (∀i,i<k→wat l i)) l.length ⟨0,rfl,rfl,vi (by omega),by omega,⟨fun i hi=>by omega⟩⟩ ?_
 conv=>whnf
 repeat intro _
 rename_i r h1 L1 hI
 obtain ⟨k,rfl,rfl,e3,hk,hd⟩:=hI
 conv at e3=>lhs;whnf
 subst e3
 have g1:=fun (x:k<l.length) (y:wat l k) i (hi:i<k+1)=>(by
   by_cases e:i=k
   ·subst e;exact y
   ·exact hd.out i (by omega):wat l i)
 have g2:k=l.length→dec (wlen l=l.length∧l≠[])=Vc.lt 0 ((txt l).size:Int):=fun e=>f2 fun j hj=>hd.out j (by omega)
 have g3:=fun (x:k<l.length) (y:¬wat l k)=>f1 ⟨k,x,y⟩
 have wy:(97≤l.getD k 0∧l.getD k 0≤122)∨(k≠0∧48≤l.getD k 0∧l.getD k 0≤57)→wat l k:=fun x=>x.elim (fun y=>.inl (ltr_iff.2 y)) fun y=>.inr ⟨y.1,dgt_iff.2 y.2⟩
 have wn:¬(97≤l.getD k 0∧l.getD k 0≤122)→(k=0∨¬(48≤l.getD k 0∧l.getD k 0≤57))→¬wat l k:=fun x y z=>z.elim (fun u=>x (ltr_iff.1 u)) fun u=>y.elim (fun e=>u.1 e) fun v=>v (dgt_iff.1 u.2)
 clear f1 f2
 obtain ⟨X,hX⟩:∃X,X=l.getD k 0:=⟨_,rfl⟩
 rw [← hX] at wy wn
 replace g1:=Hq.mk g1
 replace g3:=Hq.mk g3
 replace wy:=Hq.mk wy
 replace wn:=Hq.mk wn
 conv=>whnf
 repeat ((first | refine opsI.step ?_ | refine codeI.step ?_);conv=>whnf)
 repeat' first | ((first | (show IdxS _ _ _;(refine IdxS.txt l rfl hb k (by omega) (by omega) ?_;rw [← hX])) | ((first | refine opsI.step ?_ | refine codeI.step ?_)) | refine WrapN.i64 (by omega) (by omega) ?_) <;> (conv=>whnf)) | (show cnd _ _ _;first | (refine cnd_lt (fun _=>?_) (fun _=>?_) <;> first | (exfalso;omega) | (conv=>whnf)) | (refine cnd_le (fun _=>?_) (fun _=>?_) <;> first | (exfalso;omega) | (conv=>whnf)) | (refine cnd_eq (fun _=>?_) (fun _=>?_) <;> first | (exfalso;omega) | (conv=>whnf)) | (refine cnd_not ?_))
 all_goals first
  | exact ⟨rfl,l.length-(k+1),by omega,k+1,rfl,rfl,vi (by omega),by omega,⟨g1.out (by omega) (wy.out (by omega))⟩⟩
  | (refine RetN.all ⟨rfl,?_⟩;rw [g3.out (by omega) (wn.out (by omega) (by omega))])
  | (refine RetN.all ⟨rfl,?_⟩;rw [g2 (by omega)])
set_option maxRecDepth 20000 in
set_option maxHeartbeats 1000000 in
theorem RIsName_any (h:Heap) (l:List Nat) (hb:∀y∈l,y<256):Fn0 T F.ref04_IsName [.string (txt l)] h fun v h'=>v=.bool (dec (IsNm l)):=by
 have hz:=txt_size l
 obtain ⟨R,hR⟩:∃R,R=fnames++rwords:=⟨_,rfl⟩
 have hRl:R.length=19:=by rw [hR];rfl
 have hRb:∀w∈R,∀y∈w,y<256:=by
  rw [hR];intro w hw
  exact (List.mem_append.1 hw).elim (fnames_lt w) (rwords_lt w)
 have hRm:l∈R↔Resd l:=by rw [hR,List.mem_append];exact Or.comm
 have c1:=reserved_ct
 rw [← hR] at c1
 have f1:¬l.length≤8→dec (IsNm l)=false:=fun a=>dec_false fun x=>a x.1
 have f2:¬(wlen l=l.length∧l≠[])→dec (IsNm l)=false:=fun a=>dec_false fun x=>a ⟨x.2.1,x.2.2.1⟩
 have f3:l∈R→dec (IsNm l)=false:=fun a=>dec_false fun x=>x.2.2.2 (hRm.1 a)
 have f4:l.length≤8→(wlen l=l.length∧l≠[])→l∉R→dec (IsNm l)=true:=fun a b c=>dec_true ⟨a,b.1,b.2,fun x=>c (hRm.2 x)⟩
 clear hR hRm
 refine fn0_of_codeI ok D.ref04_IsName rfl ?_
 conv=>whnf
 repeat ((first | refine opsI.step ?_ | refine codeI.step ?_);conv=>whnf)
 repeat' first | ((first | (show CallN _ _ _ _ _ _;first | refine CallN.quiet rfl (Rword_ct _ l hb (by omega)) ?_ | (refine CallN.fn rfl (c1 _) (fun v h' hl hr=>?_);obtain ⟨s,rfl,hs⟩:=hr;have hsl:=hs.len)) | ((first | refine opsI.step ?_ | refine codeI.step ?_))) <;> (conv=>whnf)) | (show cnd _ _ _;first | (refine cnd_lt (fun _=>?_) (fun _=>?_) <;> first | (exfalso;omega) | (conv=>whnf)) | (refine cnd_not ?_) | (refine cnd_dec (fun _=>?_) (fun _=>?_) <;> first | (exfalso;omega) | (conv=>whnf)))
 all_goals first
  | (rw [f1 (by omega)];exact RetN.all rfl)
  | (rw [f2 (by assumption)];exact RetN.all rfl)
  | skip
 have f5:=f4 (by omega) (by assumption)
 clear f1 f2 f4
 refine LoopN.of (fun r ρ h1 L=>∃k:Nat,r=19-k∧h1=h'∧rd ρ 4=.int .i64 k∧k≤19∧Hq (∀j,j<k→R.getD j []≠l)) 19 ⟨0,rfl,rfl,vi (by omega),by omega,⟨fun i hi=>by omega⟩⟩ ?_
 conv=>whnf
 repeat intro _
 rename_i r h1 L1 hI
 obtain ⟨k,rfl,rfl,e4,hk,hd⟩:=hI
 conv at e4=>lhs;whnf
 subst e4
 have hg:k<19→∀y∈R.getD k [],y<256:=fun x=>hRb _ (getD_mem (by omega))
 have g1:=fun (x:k<19) (y:R.getD k []=l)=>f3 (y▸getD_mem (by omega))
 have g2:=fun (x:k=19)=>f5 fun hm=>by
  obtain ⟨i,hi,e⟩:=List.getElem_of_mem hm
  exact hd.out i (by omega) (by simp [List.getD_eq_getElem?_getD,hi,e])
 have g3:k<19→R.getD k []≠l→∀j,j<k+1→R.getD j []≠l:=fun x y j hj=>by
  by_cases e:j=k
  ·subst e;exact y
  ·exact hd.out j (by omega)
 obtain ⟨X,hX⟩:∃X,X=R.getD k []:=⟨_,rfl⟩
 rw [← hX] at hg g1 g3
 replace g1:=Hq.mk g1
 replace g2:=Hq.mk g2
 replace g3:=Hq.mk g3
 conv=>whnf
 repeat ((first | refine opsI.step ?_ | refine codeI.step ?_);conv=>whnf)
 repeat' first | ((first | (show Idx _ _ _ _ _;refine Idx.strs hs k (by omega) (by omega) (fun ad hv=>?_)) | (show Ld _ _ _ _;(refine Ld.of (by first | exact hv _ | (rename_i hv;exact hv _)) ?_;rw [← hX])) | ((first | refine opsI.step ?_ | refine codeI.step ?_)) | refine WrapN.i64 (by omega) (by omega) ?_) <;> (conv=>whnf)) | (show cnd _ _ _;first | (refine cnd_txt (hg (by omega)) hb (fun _=>?_) (fun _=>?_) <;> (conv=>whnf)) | (refine cnd_lt (fun _=>?_) (fun _=>?_) <;> first | (exfalso;omega) | (conv=>whnf)))
 all_goals first
  | exact ⟨rfl,19-(k+1),by omega,k+1,rfl,rfl,vi (by omega),by omega,⟨g3.out (by omega) (by assumption)⟩⟩
  | (rw [g1.out (by omega) (by assumption)];exact RetN.all rfl)
  | (rw [g2.out (by omega)];exact RetN.all rfl)
end Go.Proofs.YtbgicephinomlaaGreatDoor