/- Names of expressions: words, reserved words, the names of the elementary functions; the program's and the reference's. -/
import Derived.Test.YtdccpmlhflpeaaaGreatDoorP4
set_option linter.all false
set_option maxHeartbeats 2000000
set_option maxRecDepth 20000
namespace Go.Dig
def ltr(c:Nat):Bool:=Nat.ble 97 c && Nat.ble c 122
theorem kG{c:Nat}:ltr c=true↔97<=c/\c<=122:=by unfold ltr;simp[Nat.ble_eq]
def aln(c:Nat):Bool:=ltr c || dgt c
def cZ:List Nat->Nat
 | []=>0
 | c::l=>if ltr c then (l.takeWhile aln).length+1 else 0
def cB:List (List Nat):=[[101,120,112],[108,111,103],[115,105,110],[99,111,115],[116,97,110],[97,115,105,110],[97,99,111,115],[97,116,97,110]]
def pK:List (List Nat):=[[112,105],[97,98,115],[109,105,110],[109,97,120],[114,111,111,116],[115,113,114,116],[105,102],[105,110,102],[102,111,114],[105,110],[119,104,101,114,101]]
def tD(l:List Nat):Prop:=l∈pK\/l∈cB
instance (l:List Nat):Decidable (tD l):=by unfold tD;exact inferInstance
def fE(l:List Nat):Prop:=l.length<=8/\cZ l=l.length/\l≠[]/\¬tD l
instance (l:List Nat):Decidable (fE l):=by unfold fE;exact inferInstance
def aNd(l:List Nat):Nat:=if l∈cB then cB.idxOf l+1 else 0
theorem aB1{p:Nat->Bool}(l:List Nat):∀k,k<=l.length->(∀i,i<k->p (l.getD i 0)=true)->(k=l.length\/¬p (l.getD k 0)=true)->(l.takeWhile p).length=k:=by
 induction l with
 | nil=>intro k hk _ _;simp at hk;subst hk;simp
 | cons c l ih=>
  intro k hk h1 h2;cases k with
  | zero=>
   rcases h2 with h2|h2
   .simp at h2
   .simp at h2;simp[h2]
  | succ k=>
   have hc:=h1 0 Aa;simp at hc;have:=ih k (by simpa using hk) (fun i hi=>by have:=h1 (i+1) Aa;simpa using this) (by
     rcases h2 with h2|h2
     .left;simpa using h2
     .right;simpa using h2)
   simp[bF0,hc,this]
theorem aDx(l:List Nat):cZ l<=l.length:=by
 cases l with
 | nil=>exact bDx _
 | cons c l=>
  have:=(List.takeWhile_sublist (p:=aln) (l:=l)).length_le;show (if ltr c then (l.takeWhile aln).length+1 else 0)<=l.length+1
  split<;>omega
end Go.Dig
namespace Go.Vc
open Go Go.Dig
theorem nI{a b:List Nat}{p q:Prop}(ha:∀y∈a,y<256)(hb:∀y∈b,y<256)(hp:a=b->p)(hq:a≠b->q):cnd (seq (txt a) (txt b)) p q:=
 aDe (fun h=>hp (uH ha hb h)) (fun h=>hq fun e=>h (by rw[e]))
theorem jH{s e:ByteArray}{p q:Prop}(l a:List Nat)(hs:s=txt l)(he:e=txt a)(hb:∀y∈l,y<256)(ha:∀y∈a,y<256)(hp:l=a->p)(hq:l≠a->q):cnd (seq s e) p q:=by
 subst hs he;exact nI hb ha hp hq
structure aF5 (h:aA) (s:Sl) (ls:List (List Nat)):Prop where
 len:s.l=ls.length
 mem:∃b c T fz,s.a=some ⟨b,0,none⟩/\h b=some (.cells c T fz)/\∀i,i<ls.length->c[i]?=some (.string (txt (ls.getD i [])))
theorem aF5.mono{h h':aA}{s:Sl}{ls:List (List Nat)}(w:aF5 h s ls)(hl:h.le h'):aF5 h' s ls:=
 ⟨w.len,let ⟨b,c,T,fz,h1,h2,h3⟩:=w.mem;⟨b,c,T,fz,h1,hl _ _ h2,h3⟩⟩
theorem Idx.strs{h:aA}{s:Sl}{ls:List (List Nat)}(w:aF5 h s ls){i:Int}{k:Addr->Prop}(j:Nat)(hi:i=j)(hj:j<ls.length)(hk:∀ad,(∀L,Has h L ad (.string (txt (ls.getD j []))))->k ad):Idx s.a i s.l 1 k:=by
 obtain⟨b,c,T,fz,h1,h2,h3⟩:=w.mem;exact Idx.one j h1 hi (by have:=w.len;omega) (by rw[bDu];exact hk _ fun L=>Has.imm h2 (h3 j hj))
end Go.Vc
namespace Go.Proofs.Y
open Go Go.Vc Go.Dig
theorem aB2(h:aA)(c:Nat):Fn0 T F.q125 [.int .u8 c] h fun v h'=>h'=h/\v=.bool (dec (ltr c=true)):=by
 have f1:97<=c->dec (ltr c=true)=Vc.le (c:Int) 122:=fun x=>by unfold dec Vc.le;congr 1;exact propext ⟨fun y=>by have:=kG.1 y;omega,fun y=>kG.2 ⟨x,Aa⟩⟩
 have f2:¬97<=c->dec (ltr c=true)=false:=fun x=>aG fun y=>x (kG.1 y).1
 refine f0C ok D.q125 rfl ?_;conv=>whnf
 repeat' ((first|((first|apply oI.z|apply cI.z))|(apply bI<;>intro _<;>try (exfalso;omega)))<;>conv=>whnf)
 .exact RN.a ⟨rfl,by rw[f1 Aa]⟩
 .exact RN.a ⟨rfl,by rw[f2 Aa]⟩
theorem aB3(h:aA)(c:Nat):Fn0 T F.q126 [.int .u8 c] h fun v h'=>h'=h/\v=.bool (dec (dgt c=true)):=by
 have f1:48<=c->dec (dgt c=true)=Vc.le (c:Int) 57:=fun x=>by unfold dec Vc.le;congr 1;exact propext ⟨fun y=>by have:=eN.1 y;omega,fun y=>eN.2 ⟨x,Aa⟩⟩
 have f2:¬48<=c->dec (dgt c=true)=false:=fun x=>aG fun y=>x (eN.1 y).1
 refine f0C ok D.q126 rfl ?_;conv=>whnf
 repeat' ((first|((first|apply oI.z|apply cI.z))|(apply bI<;>intro _<;>try (exfalso;omega)))<;>conv=>whnf)
 .exact RN.a ⟨rfl,by rw[f1 Aa]⟩
 .exact RN.a ⟨rfl,by rw[f2 Aa]⟩
theorem aF6{h:aA}{b:Nat}{T:TypeId}{fz:Nat × Nat}{n:Nat}{ls:List (List Nat)}{cs:List Value}(hn:n=ls.length)(hc:cs=ls.map fun l=>.string (txt l)):aF5 (h.put b (.cells cs.toArray T fz)) ⟨some ⟨b,0,none⟩,n,n⟩ ls:=by
 subst hc;exact⟨hn,b,(ls.map fun l=>Value.string (txt l)).toArray,T,fz,rfl,by simp[aA.put],fun i hi=>by simp[hi,bC7]⟩
theorem aQk(h:aA):Fn0 T F.q127 [] h fun v h'=>∃s:Sl,v=s.val/\aF5 h' s cB:=by
 refine f0C ok D.q127 rfl ?_;conv=>whnf
 repeat' ((first|((first|apply oI.z|apply cI.z))|intro (_:Nat))<;>conv=>whnf)
 exact RN.keep 0 rfl fun hle=>RN.a ⟨⟨some ⟨_,0,none⟩,8,8⟩,rfl,aF6 rfl rfl⟩
theorem aF7(h:aA):Fn0 T F.q22 [] h fun v h'=>∃s:Sl,v=s.val/\aF5 h' s (cB++pK):=by
 refine f0C ok D.q22 rfl ?_;conv=>whnf
 repeat' ((first|((first|apply oI.z|apply cI.z))|intro (_:Nat))<;>conv=>whnf)
 exact RN.keep 0 rfl fun hle=>RN.a ⟨⟨some ⟨_,0,none⟩,19,19⟩,rfl,aF6 rfl rfl⟩
theorem aB4:∀l∈cB,∀y∈l,y<256:=Ad
theorem aNe:∀l∈pK,∀y∈l,y<256:=Ad
theorem oH{α:Type}{l:List α}{i:Nat}{d:α}(h:i<l.length):l.getD i d∈l:=by simp[bC7,h]
theorem aQl:∀k,k<8->aNd (cB.getD k [])=k+1:=Ad
theorem aYv(l:List Nat)(k:Nat)(hk:k<cB.length)(h1:cB.getD k []=l):l∈cB/\aNd l=k+1:=
 ⟨h1▸oH hk,h1▸aQl k hk⟩
theorem aYw(l:List Nat)(h0:∀j,j<cB.length->cB.getD j []≠l):l∉cB/\aNd l=0:=by
 have hm:l∉cB:=fun hm=>by
  obtain⟨i,hi,rfl⟩:=bFh hm;exact h0 i hi (by simp[bC7,hi])
 exact⟨hm,if_neg hm⟩
theorem aK0(h:aA)(l:List Nat)(hb:∀y∈l,y<256):Fn0 T F.q69 [.string (txt l)] h fun v h'=>v=.tuple #[.int .i64 (aNd l:Nat),.bool (dec (l∈cB))]:=by
 have h8:cB.length=8:=rfl;refine f0C ok D.q69 rfl ?_;conv=>whnf
 repeat' ((first|(show CN _ _ _ _ _ _;(refine CN.f rfl (aQk _) (fun v h' hl hr=>?_);obtain⟨s,rfl,hs⟩:=hr;have hsl:=hs.len))|((first|apply oI.z|apply cI.z)))<;>conv=>whnf)
 refine LpN.of (fun r ρ h1 L=>∃k:Nat,r=8-k/\h1=h'/\rd ρ 8=.int .i64 k/\k<=8/\Hq (∀j,j<k->cB.getD j []≠l)) 8 ⟨0,rfl,rfl,vi Aa,Aa,⟨fun i hi=>by omega⟩⟩ ?_
 conv=>whnf
 repeat intro _
 rename_i r h1 L1 hI;obtain⟨k,rfl,rfl,e8,hk,hd⟩:=hI;conv at e8=>lhs;whnf
 subst e8;have hg:k<8->∀y∈cB.getD k [],y<256:=fun x=>aB4 _ (oH Aa)
 have g1:=fun (x:k<8) y=>aYv l k Aa y
 have g2:=fun (x:k=8)=>aYw l (by subst x;exact hd.out)
 have g3:k<8->cB.getD k []≠l->∀j,j<k+1->cB.getD j []≠l:=fun x y j hj=>by
  by_cases e:j=k
  .subst e;exact y
  .exact hd.out j Aa
 obtain⟨X,hX⟩:=AB (cB.getD k []);rw[<-hX] at hg g1 g3;replace g1:=Hq.mk g1;replace g2:=Hq.mk g2;replace g3:=Hq.mk g3;conv=>whnf
 repeat' first|((first|(show Idx _ _ _ _ _;refine Idx.strs hs k Aa Aa (fun ad hv=>?_))|(show Ld _ _ _ _;(refine Ld.of (by first|exact hv _|(rename_i hv;exact hv _)) ?_;rw[<-hX]))|((first|apply oI.z|apply cI.z))|refine WN.i64 Aa Aa ?_)<;>conv=>whnf)|(show cnd _ _ _;first|(refine nI (hg Aa) hb (fun _=>?_) (fun _=>?_)<;>(conv=>whnf))|(apply aB<;>intro _<;>first|(exfalso;omega)|conv=>whnf))
 all_goals first
  | exact⟨rfl,8-(k+1),Aa,k+1,rfl,rfl,vi Aa,Aa,⟨g3.out Aa Ab⟩⟩
  | (rw[(g1.out Aa Ab).2,bA (g1.out Aa Ab).1];exact RN.a rfl)
  | (rw[(g2.out Aa).2,aG (g2.out Aa).1];exact RN.a rfl)
theorem aVc{l:List Nat}(h:l∉pK):dec (tD l)=dec (l∈cB):=by
 unfold dec tD;congr 1;exact propext ⟨fun x=>x.elim (fun y=>absurd y h) id,.inr⟩
theorem wU(h:aA)(l:List Nat)(hb:∀y∈l,y<256):Fn0 T F.q70 [.string (txt l)] h fun v h'=>v=.bool (dec (tD l)):=by
 have f1:l∈pK->dec (tD l)=true:=fun x=>bA (.inl x)
 have f2:l∉pK->dec (tD l)=dec (l∈cB):=aVc;refine f0C ok D.q70 rfl ?_;conv=>whnf
 repeat' first|((first|(apply aQ.go)|(show CN _ _ _ _ _ _;(refine CN.f rfl (aK0 _ l hb) (fun v h' hl hr=>?_);obtain rfl:=hr))|((first|apply oI.z|apply cI.z)))<;>conv=>whnf)|(show cnd _ _ _;first|(refine jH l [112,105] rfl rfl hb Ad (fun h1=>?_) (fun h1=>?_)<;>first|exact absurd h1 Ab|exact absurd Ab h1|(conv=>whnf))|(refine jH l [97,98,115] rfl rfl hb Ad (fun h1=>?_) (fun h1=>?_)<;>first|exact absurd h1 Ab|exact absurd Ab h1|(conv=>whnf))|(refine jH l [109,105,110] rfl rfl hb Ad (fun h1=>?_) (fun h1=>?_)<;>first|exact absurd h1 Ab|exact absurd Ab h1|(conv=>whnf))|(refine jH l [109,97,120] rfl rfl hb Ad (fun h1=>?_) (fun h1=>?_)<;>first|exact absurd h1 Ab|exact absurd Ab h1|(conv=>whnf))|(refine jH l [114,111,111,116] rfl rfl hb Ad (fun h1=>?_) (fun h1=>?_)<;>first|exact absurd h1 Ab|exact absurd Ab h1|(conv=>whnf))|(refine jH l [115,113,114,116] rfl rfl hb Ad (fun h1=>?_) (fun h1=>?_)<;>first|exact absurd h1 Ab|exact absurd Ab h1|(conv=>whnf))|(refine jH l [105,102] rfl rfl hb Ad (fun h1=>?_) (fun h1=>?_)<;>first|exact absurd h1 Ab|exact absurd Ab h1|(conv=>whnf))|(refine jH l [105,110,102] rfl rfl hb Ad (fun h1=>?_) (fun h1=>?_)<;>first|exact absurd h1 Ab|exact absurd Ab h1|(conv=>whnf))|(refine jH l [102,111,114] rfl rfl hb Ad (fun h1=>?_) (fun h1=>?_)<;>first|exact absurd h1 Ab|exact absurd Ab h1|(conv=>whnf))|(refine jH l [105,110] rfl rfl hb Ad (fun h1=>?_) (fun h1=>?_)<;>first|exact absurd h1 Ab|exact absurd Ab h1|(conv=>whnf))|(refine jH l [119,104,101,114,101] rfl rfl hb Ad (fun h1=>?_) (fun h1=>?_)<;>first|exact absurd h1 Ab|exact absurd Ab h1|(conv=>whnf)))
 all_goals first
  | (rw[f1 (by unfold pK;simp[*])];exact RN.a rfl)
  | (rw[f2 (by unfold pK;simp[*])];exact RN.a rfl)
theorem aDy{c:Nat}:aln c=true↔ltr c=true\/dgt c=true:=by unfold aln;simp
theorem aK1(h:aA)(l:List Nat)(hb:∀y∈l,y<256)(hl:l.length<=9223372036854775807):Fn0 T F.q68 [.string (txt l)] h fun v h'=>h'=h/\v=.int .i64 (cZ l:Nat):=by
 have hz:=bF l;cases l with
 | nil=>
  refine f0C ok D.q68 rfl ?_;conv=>whnf
  repeat' first|((first|((first|apply oI.z|apply cI.z)))<;>conv=>whnf)|(show cnd _ _ _;first|(refine iO [] rfl rfl (fun _=>?_) (fun hne=>?_)<;>first|exact absurd rfl hne|(conv=>whnf)))
  all_goals exact RN.a ⟨rfl,rfl⟩
 | cons c m=>
  have hlc:(c::m).length=m.length+1:=rfl;have w1:ltr c=true->cZ (c::m)=(m.takeWhile aln).length+1:=fun x=>if_pos x
  have w0:¬ltr c=true->cZ (c::m)=0:=fun x=>if_neg x
  refine f0C ok D.q68 rfl ?_;conv=>whnf
  repeat' first|((first|(show eB _ _ _;refine eB.at (c::m) c rfl hb 0 Aa rfl ?_)|(show CN _ _ _ _ _ _;refine CN.quiet rfl (aB2 _ c) ?_)|((first|apply oI.z|apply cI.z)))<;>conv=>whnf)|(show cnd _ _ _;first|(refine iO (c::m) rfl rfl (fun hne=>?_) (fun _=>?_)<;>first|cases hne|(conv=>whnf))|(refine aJ ?_)|(apply aW<;>intro _<;>first|(exfalso;omega)|conv=>whnf))
  all_goals first
   | (refine RN.a ⟨rfl,?_⟩;rw[w0 Ab];rfl)
   | skip
  have hc:ltr c=true:=Ab;refine LpN.of (fun r ρ h' L=>∃k:Nat,r=m.length-k/\h'=h/\rd ρ 3=.int .i64 ((k+1:Nat):Int)/\k<=m.length/\Hq (∀i,i<k->aln (m.getD i 0)=true)) m.length ⟨0,rfl,rfl,vi Aa,Aa,⟨fun i hi=>by omega⟩⟩ ?_
  conv=>whnf
  repeat intro _
  rename_i r h1 L1 hI;obtain⟨k,rfl,rfl,e3,hk,hd⟩:=hI;conv at e3=>lhs;whnf
  subst e3;have hs:=fun (x:k<m.length) (y:ltr (m.getD k 0)=true\/dgt (m.getD k 0)=true) i (hi:i<k+1)=>(by
    by_cases e:i=k
    .subst e;exact aDy.2 y
    .exact hd.out i Aa:aln (m.getD i 0)=true)
  have hw:=aB1 m k hk hd.out;have hn:¬ltr (m.getD k 0)=true->¬dgt (m.getD k 0)=true->¬aln (m.getD k 0)=true:=fun x y z=>(aDy.1 z).elim x y
  have hgk:k<m.length->(c::m)[k+1]?=some (m.getD k 0):=fun x=>by simp[bC7,x]
  obtain⟨X,hX⟩:=AB (m.getD k 0);rw[<-hX] at hs hw hn hgk;replace hs:=Hq.mk hs;replace hw:=Hq.mk hw;replace hn:=Hq.mk hn;conv=>whnf
  repeat' first|((first|(show eB _ _ _;refine eB.at (c::m) X rfl hb (k+1) Aa (hgk Aa) ?_)|(show CN _ _ _ _ _ _;first|refine CN.quiet rfl (aB2 _ X) ?_|refine CN.quiet rfl (aB3 _ X) ?_)|((first|apply oI.z|apply cI.z))|refine WN.i64 Aa Aa ?_)<;>conv=>whnf)|(show cnd _ _ _;first|((first|apply aB|apply aW)<;>intro _<;>first|(exfalso;omega)|conv=>whnf))
  all_goals first
   | exact⟨rfl,m.length-(k+1),Aa,k+1,rfl,rfl,vi Aa,Aa,⟨hs.out Aa (by first|exact .inl Ab|exact .inr Ab)⟩⟩
   | (refine RN.a ⟨rfl,?_⟩;rw[w1 hc,hw.out (by first|(left;omega)|(right;exact hn.out Ab Ab))])
end Go.Proofs.Y
/- Names of expressions: what a name is, on both sides. -/
namespace Go.Dig
def wat(l:List Nat)(j:Nat):Prop:=ltr (l.getD j 0)=true\/(j≠0/\dgt (l.getD j 0)=true)
theorem sO{p:Nat->Bool}:∀(m:List Nat),(∀x∈m,p x=true)->(m.takeWhile p).length=m.length
 | [],_=>rfl
 | c::m,h=>by
  rw[bF0,if_pos (h c bDe),bDa,bDa,sO m fun x hx=>h x (bDh _ hx)]
theorem kH{p:Nat->Bool}:∀(m:List Nat),(∃x∈m,¬p x=true)->(m.takeWhile p).length<m.length
 | [],⟨x,hx,_⟩=>by cases hx
 | c::m,⟨x,hx,hp⟩=>by
  rw[bF0]
  split
  .rename_i hc;rcases bDp.1 hx with rfl|hx
   .exact absurd hc hp
   .have:=kH m ⟨x,hx,hp⟩;simp only[bDa];omega
  .simp
theorem aNf{l:List Nat}(h:∀j,j<l.length->wat l j):cZ l=l.length:=by
 cases l with
 | nil=>rfl
 | cons c m=>
  have h0:ltr c=true:=by
   rcases h 0 Ao with x|x
   .simpa using x
   .exact absurd rfl x.1
  show (if ltr c then (m.takeWhile aln).length+1 else 0)=m.length+1
  rw[if_pos h0,sO m];intro x hx;obtain⟨i,hi,rfl⟩:=bFh hx;unfold aln;rcases h (i+1) Aq with y|y
  .simp[bC7,hi] at y;simp[y]
  .have y:=y.2;simp[bC7,hi] at y;simp[y]
theorem aQm{l:List Nat}{j:Nat}(hj:j<l.length)(h:¬wat l j):cZ l≠l.length:=by
 cases l with
 | nil=>simp at hj
 | cons c m=>
  show (if ltr c then (m.takeWhile aln).length+1 else 0)≠m.length+1
  by_cases hc:ltr c=true
  .rw[if_pos hc];cases j with
   | zero=>exact absurd (.inl (by simpa using hc)) h
   | succ i=>
    have hi:i<m.length:=by simpa using hj
    have:=kH (p:=aln) m ⟨m[i],bFe hi,fun x=>h (by
      unfold aln at x;unfold wat;simp[bC7,hi]
      simpa using x)⟩
    omega
  .rw[if_neg hc];omega
end Go.Dig
namespace Go.Proofs.Y
open Go Go.Vc Go.Dig
theorem zG(h:aA)(l:List Nat)(hb:∀y∈l,y<256):Fn0 T F.q59 [.string (txt l)] h fun v h'=>v=.bool (dec (fE l)):=by
 have hz:=bF l;have hw:=aDx l;have f1:l.length<=8->cZ l=l.length->l≠[]->dec (fE l)=!dec (tD l):=fun a b c=>by
  by_cases r:tD l
  .rw[bA r,aG fun x=>x.2.2.2 r];rfl
  .rw[aG r,bA ⟨a,b,c,r⟩];rfl
 have f2:¬l.length<=8->dec (fE l)=false:=fun a=>aG fun x=>a x.1
 have f3:¬cZ l=l.length->dec (fE l)=false:=fun a=>aG fun x=>a x.2.1
 have f4:l=[]->dec (fE l)=false:=fun a=>aG fun x=>x.2.2.1 a
 refine f0C ok D.q59 rfl ?_;conv=>whnf
 repeat' first|((first|(show CN _ _ _ _ _ _;first|refine CN.quiet rfl (aK1 _ l hb Aa) ?_|(refine CN.f rfl (wU _ l hb) (fun v h' hl hr=>?_);obtain rfl:=hr))|((first|apply oI.z|apply cI.z)))<;>conv=>whnf)|(show cnd _ _ _;first|(refine iO l rfl rfl (fun _=>?_) (fun _=>?_)<;>(conv=>whnf))|((first|apply bI|apply aD)<;>intro _<;>first|(exfalso;omega)|conv=>whnf)|(refine aJ ?_))
 all_goals first
  | (rw[f1 Aa Aa Ab];exact RN.a rfl)
  | (rw[f2 Aa];exact RN.a rfl)
  | (rw[f3 Aa];exact RN.a rfl)
  | (rw[f4 Ab];exact RN.a rfl)
theorem pL(h:aA)(l:List Nat)(hb:∀y∈l,y<256):Fn0 T F.q27 [.string (txt l)] h fun v h'=>v=.bool (dec (fE l)):=by
 refine f0C ok D.q27 rfl ?_;conv=>whnf
 repeat' ((first|(show CN _ _ _ _ _ _;(refine CN.f rfl (zG _ l hb) (fun v h' hl hr=>?_);obtain rfl:=hr))|((first|apply oI.z|apply cI.z)))<;>conv=>whnf)
 all_goals exact RN.a rfl
theorem aQn(h:aA)(l:List Nat)(hb:∀y∈l,y<256)(hl:l.length<=9223372036854775807):Fn0 T F.q21 [.string (txt l)] h fun v h'=>h'=h/\v=.bool (dec (cZ l=l.length/\l≠[])):=by
 have hz:=bF l;have f1:(∃j,j<l.length/\¬wat l j)->dec (cZ l=l.length/\l≠[])=false:=fun ⟨j,hj,hn⟩=>aG fun x=>aQm hj hn x.1
 have f2:(∀j,j<l.length->wat l j)->dec (cZ l=l.length/\l≠[])=Vc.lt 0 ((txt l).size:Int):=fun x=>by
  unfold dec Vc.lt
  congr 1
  refine propext ⟨fun y=>?_,fun y=>⟨aNf x,fun e=>by have h0:=congrArg List.length e;simp only[bDd] at h0;omega⟩⟩
  have:=List.length_pos_iff.2 y.2;omega
 refine f0C ok D.q21 rfl ?_;conv=>whnf
 repeat ((first|apply oI.z|apply cI.z);conv=>whnf)
 skip
 refine LpN.of (fun r ρ h' L=>∃k:Nat,r=l.length-k/\h'=h/\rd ρ 3=.int .i64 k/\k<=l.length/\Hq (∀i,i<k->wat l i)) l.length ⟨0,rfl,rfl,vi Aa,Aa,⟨fun i hi=>by omega⟩⟩ ?_
 conv=>whnf
 repeat intro _
 rename_i r h1 L1 hI;obtain⟨k,rfl,rfl,e3,hk,hd⟩:=hI;conv at e3=>lhs;whnf
 subst e3;have g1:=fun (x:k<l.length) (y:wat l k) i (hi:i<k+1)=>(by
   by_cases e:i=k
   .subst e;exact y
   .exact hd.out i Aa:wat l i)
 have g2:k=l.length->dec (cZ l=l.length/\l≠[])=Vc.lt 0 ((txt l).size:Int):=fun e=>f2 fun j hj=>hd.out j Aa
 have g3:=fun (x:k<l.length) (y:¬wat l k)=>f1 ⟨k,x,y⟩
 have wy:(97<=l.getD k 0/\l.getD k 0<=122)\/(k≠0/\48<=l.getD k 0/\l.getD k 0<=57)->wat l k:=fun x=>x.elim (fun y=>.inl (kG.2 y)) fun y=>.inr ⟨y.1,eN.2 y.2⟩
 have wn:¬(97<=l.getD k 0/\l.getD k 0<=122)->(k=0\/¬(48<=l.getD k 0/\l.getD k 0<=57))->¬wat l k:=fun x y z=>z.elim (fun u=>x (kG.1 u)) fun u=>y.elim (fun e=>u.1 e) fun v=>v (eN.1 u.2)
 clear f1 f2;obtain⟨X,hX⟩:=AB (l.getD k 0);rw[<-hX] at wy wn;replace g1:=Hq.mk g1;replace g3:=Hq.mk g3;replace wy:=Hq.mk wy;replace wn:=Hq.mk wn;conv=>whnf
 repeat' first|((first|(show eB _ _ _;(refine eB.txt l rfl hb k Aa Aa ?_;rw[<-hX]))|((first|apply oI.z|apply cI.z))|refine WN.i64 Aa Aa ?_)<;>conv=>whnf)|(show cnd _ _ _;first|((first|apply aB|apply bI|apply aD)<;>intro _<;>first|(exfalso;omega)|conv=>whnf)|(refine aJ ?_))
 all_goals first
  | exact⟨rfl,l.length-(k+1),Aa,k+1,rfl,rfl,vi Aa,Aa,⟨g1.out Aa (wy.out Aa)⟩⟩
  | (refine RN.a ⟨rfl,?_⟩;rw[g3.out Aa (wn.out Aa Aa)])
  | (refine RN.a ⟨rfl,?_⟩;rw[g2 Aa])
theorem wV(h:aA)(l:List Nat)(hb:∀y∈l,y<256):Fn0 T F.q6 [.string (txt l)] h fun v h'=>v=.bool (dec (fE l)):=by
 have hz:=bF l;obtain⟨R,hR⟩:=AB (cB++pK);have hRl:R.length=19:=by rw[hR];rfl
 have hRb:∀w∈R,∀y∈w,y<256:=by
  rw[hR];intro w hw;exact (bDf.1 hw).elim (aB4 w) (aNe w)
 have hRm:l∈R↔tD l:=by rw[hR,bDf];exact Or.comm
 have c1:=aF7;rw[<-hR] at c1;have f1:¬l.length<=8->dec (fE l)=false:=fun a=>aG fun x=>a x.1
 have f2:¬(cZ l=l.length/\l≠[])->dec (fE l)=false:=fun a=>aG fun x=>a ⟨x.2.1,x.2.2.1⟩
 have f3:l∈R->dec (fE l)=false:=fun a=>aG fun x=>x.2.2.2 (hRm.1 a)
 have f4:l.length<=8->(cZ l=l.length/\l≠[])->l∉R->dec (fE l)=true:=fun a b c=>bA ⟨a,b.1,b.2,fun x=>c (hRm.2 x)⟩
 clear hR hRm;refine f0C ok D.q6 rfl ?_;conv=>whnf
 repeat' first|((first|(show CN _ _ _ _ _ _;first|refine CN.quiet rfl (aQn _ l hb Aa) ?_|(refine CN.f rfl (c1 _) (fun v h' hl hr=>?_);obtain⟨s,rfl,hs⟩:=hr;have hsl:=hs.len))|((first|apply oI.z|apply cI.z)))<;>conv=>whnf)|(show cnd _ _ _;first|(apply aB<;>intro _<;>first|(exfalso;omega)|conv=>whnf)|(refine aJ ?_)|(apply aW<;>intro _<;>first|(exfalso;omega)|conv=>whnf))
 all_goals first
  | (rw[f1 Aa];exact RN.a rfl)
  | (rw[f2 Ab];exact RN.a rfl)
  | skip
 have f5:=f4 Aa Ab;clear f1 f2 f4;refine LpN.of (fun r ρ h1 L=>∃k:Nat,r=19-k/\h1=h'/\rd ρ 4=.int .i64 k/\k<=19/\Hq (∀j,j<k->R.getD j []≠l)) 19 ⟨0,rfl,rfl,vi Aa,Aa,⟨fun i hi=>by omega⟩⟩ ?_
 conv=>whnf
 repeat intro _
 rename_i r h1 L1 hI;obtain⟨k,rfl,rfl,e4,hk,hd⟩:=hI;conv at e4=>lhs;whnf
 subst e4;have hg:k<19->∀y∈R.getD k [],y<256:=fun x=>hRb _ (oH Aa)
 have g1:=fun (x:k<19) (y:R.getD k []=l)=>f3 (y▸oH Aa)
 have g2:=fun (x:k=19)=>f5 fun hm=>by
  obtain⟨i,hi,e⟩:=bFh hm;exact hd.out i Aa (by simp[bC7,hi,e])
 have g3:k<19->R.getD k []≠l->∀j,j<k+1->R.getD j []≠l:=fun x y j hj=>by
  by_cases e:j=k
  .subst e;exact y
  .exact hd.out j Aa
 obtain⟨X,hX⟩:=AB (R.getD k []);rw[<-hX] at hg g1 g3;replace g1:=Hq.mk g1;replace g2:=Hq.mk g2;replace g3:=Hq.mk g3;conv=>whnf
 repeat' first|((first|(show Idx _ _ _ _ _;refine Idx.strs hs k Aa Aa (fun ad hv=>?_))|(show Ld _ _ _ _;(refine Ld.of (by first|exact hv _|(rename_i hv;exact hv _)) ?_;rw[<-hX]))|((first|apply oI.z|apply cI.z))|refine WN.i64 Aa Aa ?_)<;>conv=>whnf)|(show cnd _ _ _;first|(refine nI (hg Aa) hb (fun _=>?_) (fun _=>?_)<;>(conv=>whnf))|(apply aB<;>intro _<;>first|(exfalso;omega)|conv=>whnf))
 all_goals first
  | exact⟨rfl,19-(k+1),Aa,k+1,rfl,rfl,vi Aa,Aa,⟨g3.out Aa Ab⟩⟩
  | (rw[g1.out Aa Ab];exact RN.a rfl)
  | (rw[g2.out Aa];exact RN.a rfl)
end Go.Proofs.Y