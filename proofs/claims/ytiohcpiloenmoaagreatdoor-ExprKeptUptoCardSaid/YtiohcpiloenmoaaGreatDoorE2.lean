/- Names of expressions: words, reserved words, the names of the elementary functions; the program's and the reference's. -/
import Derived.Test.YtiohcpiloenmoaaGreatDoorP4
set_option linter.all false
set_option maxHeartbeats 2000000
set_option maxRecDepth 20000
namespace Go.Dig
def ltr(c:Nat):Bool:=Nat.ble 97 c && Nat.ble c 122
theorem sE{c:Nat}:ltr c=true↔97<=c/\c<=122:=by unfold ltr;simp[Nat.ble_eq]
def aln(c:Nat):Bool:=ltr c || dgt c
def eE:List Nat->Nat
 | []=>0
 | c::l=>if ltr c then (l.takeWhile aln).length+1 else 0
def bI:List (List Nat):=[[101,120,112],[108,111,103],[115,105,110],[99,111,115],[116,97,110],[97,115,105,110],[97,99,111,115],[97,116,97,110]]
def nZ:List (List Nat):=[[112,105],[97,98,115],[109,105,110],[109,97,120],[114,111,111,116],[115,113,114,116],[105,102],[105,110,102],[102,111,114],[105,110],[119,104,101,114,101]]
def sF(l:List Nat):Prop:=l∈nZ\/l∈bI
instance (l:List Nat):Decidable (sF l):=by unfold sF;exact inferInstance
def dH(l:List Nat):Prop:=l.length<=8/\eE l=l.length/\l≠[]/\¬sF l
instance (l:List Nat):Decidable (dH l):=by unfold dH;exact inferInstance
def aNg(l:List Nat):Nat:=if l∈bI then bI.idxOf l+1 else 0
theorem zW{p:Nat->Bool}(l:List Nat):∀k,k<=l.length->(∀i,i<k->p (l.getD i 0)=true)->(k=l.length\/¬p (l.getD k 0)=true)->(l.takeWhile p).length=k:=by
 induction l with
 | nil=>intro k hk _ _;simp at hk;subst hk;simp
 | cons c l ih=>
  intro k hk h1 h2;cases k with
  | zero=>
   rcases h2 with h2|h2
   .simp at h2
   .simp at h2;simp[h2]
  | succ k=>
   have hc:=h1 0 Aa;simp at hc;have:=ih k (by simpa using hk) (fun i hi=>by have:=h1 (i+1) Aa;simpa using this) (by
     rcases h2 with h2|h2
     .left;simpa using h2
     .right;simpa using h2)
   simp[bCl,hc,this]
theorem aBv(l:List Nat):eE l<=l.length:=by
 cases l with
 | nil=>exact aZt _
 | cons c l=>
  have:=(List.takeWhile_sublist (p:=aln) (l:=l)).length_le;show (if ltr c then (l.takeWhile aln).length+1 else 0)<=l.length+1
  split<;>omega
end Go.Dig
namespace Go.Vc
open Go Go.Dig
theorem jV{a b:List Nat}{p q:Prop}(ha:∀y∈a,y<256)(hb:∀y∈b,y<256)(hp:a=b->p)(hq:a≠b->q):cnd (seq (txt a) (txt b)) p q:=
 aA9 (fun h=>hp (sD ha hb h)) (fun h=>hq fun e=>h (by rw[e]))
theorem iZ{s e:ByteArray}{p q:Prop}(l a:List Nat)(hs:s=txt l)(he:e=txt a)(hb:∀y∈l,y<256)(ha:∀y∈a,y<256)(hp:l=a->p)(hq:l≠a->q):cnd (seq s e) p q:=by
 subst hs he;exact jV hb ha hp hq
structure aDw (h:aA) (s:Sl) (ls:List (List Nat)):Prop where
 len:s.l=ls.length
 mem:∃b c T fz,s.a=some ⟨b,0,none⟩/\h b=some (.cells c T fz)/\∀i,i<ls.length->c[i]?=some (.string (txt (ls.getD i [])))
theorem aDw.mono{h h':aA}{s:Sl}{ls:List (List Nat)}(w:aDw h s ls)(hl:h.le h'):aDw h' s ls:=
 ⟨w.len,let ⟨b,c,T,fz,h1,h2,h3⟩:=w.mem;⟨b,c,T,fz,h1,hl _ _ h2,h3⟩⟩
theorem Idx.strs{h:aA}{s:Sl}{ls:List (List Nat)}(w:aDw h s ls){i:Int}{k:Addr->Prop}(j:Nat)(hi:i=j)(hj:j<ls.length)(hk:∀ad,(∀L,Has h L ad (.string (txt (ls.getD j []))))->k ad):Idx s.a i s.l 1 k:=by
 obtain⟨b,c,T,fz,h1,h2,h3⟩:=w.mem;exact Idx.one j h1 hi (by have:=w.len;omega) (by rw[aZq];exact hk _ fun L=>Has.imm h2 (h3 j hj))
end Go.Vc
namespace Go.Proofs.Y
open Go Go.Vc Go.Dig
theorem zX(h:aA)(c:Nat):Fn0 T F.q147 [.int .u8 c] h fun v h'=>h'=h/\v=.bool (dec (ltr c=true)):=by
 have f1:97<=c->dec (ltr c=true)=Vc.le (c:Int) 122:=fun x=>by unfold dec Vc.le;congr 1;exact propext ⟨fun y=>by have:=sE.1 y;omega,fun y=>sE.2 ⟨x,Aa⟩⟩
 have f2:¬97<=c->dec (ltr c=true)=false:=fun x=>aG fun y=>x (sE.1 y).1
 refine f0C ok D.q147 rfl ?_;conv=>whnf
 repeat' ((first|((first|apply oI.z|apply cI.z))|(apply bH<;>intro _<;>try (exfalso;omega)))<;>conv=>whnf)
 .exact RN.a ⟨rfl,by rw[f1 Aa]⟩
 .exact RN.a ⟨rfl,by rw[f2 Aa]⟩
theorem zY(h:aA)(c:Nat):Fn0 T F.q148 [.int .u8 c] h fun v h'=>h'=h/\v=.bool (dec (dgt c=true)):=by
 have f1:48<=c->dec (dgt c=true)=Vc.le (c:Int) 57:=fun x=>by unfold dec Vc.le;congr 1;exact propext ⟨fun y=>by have:=iL.1 y;omega,fun y=>iL.2 ⟨x,Aa⟩⟩
 have f2:¬48<=c->dec (dgt c=true)=false:=fun x=>aG fun y=>x (iL.1 y).1
 refine f0C ok D.q148 rfl ?_;conv=>whnf
 repeat' ((first|((first|apply oI.z|apply cI.z))|(apply bH<;>intro _<;>try (exfalso;omega)))<;>conv=>whnf)
 .exact RN.a ⟨rfl,by rw[f1 Aa]⟩
 .exact RN.a ⟨rfl,by rw[f2 Aa]⟩
theorem aDx{h:aA}{b:Nat}{T:TypeId}{fz:Nat × Nat}{n:Nat}{ls:List (List Nat)}{cs:List Value}(hn:n=ls.length)(hc:cs=ls.map fun l=>.string (txt l)):aDw (h.put b (.cells cs.toArray T fz)) ⟨some ⟨b,0,none⟩,n,n⟩ ls:=by
 subst hc;exact⟨hn,b,(ls.map fun l=>Value.string (txt l)).toArray,T,fz,rfl,by simp[aA.put],fun i hi=>by simp[hi,aY3]⟩
theorem aDy(h:aA):Fn0 T F.q149 [] h fun v h'=>∃s:Sl,v=s.val/\aDw h' s bI:=by
 refine f0C ok D.q149 rfl ?_;conv=>whnf
 repeat' ((first|((first|apply oI.z|apply cI.z))|intro (_:Nat))<;>conv=>whnf)
 exact RN.keep 0 rfl fun hle=>RN.a ⟨⟨some ⟨_,0,none⟩,8,8⟩,rfl,aDx rfl rfl⟩
theorem aDz(h:aA):Fn0 T F.q146 [] h fun v h'=>∃s:Sl,v=s.val/\aDw h' s (bI++nZ):=by
 refine f0C ok D.q146 rfl ?_;conv=>whnf
 repeat' ((first|((first|apply oI.z|apply cI.z))|intro (_:Nat))<;>conv=>whnf)
 exact RN.keep 0 rfl fun hle=>RN.a ⟨⟨some ⟨_,0,none⟩,19,19⟩,rfl,aDx rfl rfl⟩
theorem zZ:∀l∈bI,∀y∈l,y<256:=Ag
theorem aJ2:∀l∈nZ,∀y∈l,y<256:=Ag
theorem mZ{α:Type}{l:List α}{i:Nat}{d:α}(h:i<l.length):l.getD i d∈l:=by simp[aY3,h]
theorem aNh:∀k,k<8->aNg (bI.getD k [])=k+1:=Ag
theorem aVa(l:List Nat)(k:Nat)(hk:k<bI.length)(h1:bI.getD k []=l):l∈bI/\aNg l=k+1:=
 ⟨h1▸mZ hk,h1▸aNh k hk⟩
theorem aVb(l:List Nat)(h0:∀j,j<bI.length->bI.getD j []≠l):l∉bI/\aNg l=0:=by
 have hm:l∉bI:=fun hm=>by
  obtain⟨i,hi,rfl⟩:=bBe hm;exact h0 i hi (by simp[aY3,hi])
 exact⟨hm,if_neg hm⟩
theorem aH3(h:aA)(l:List Nat)(hb:∀y∈l,y<256):Fn0 T F.q86 [.string (txt l)] h fun v h'=>v=.tuple #[.int .i64 (aNg l:Nat),.bool (dec (l∈bI))]:=by
 have h8:bI.length=8:=rfl;refine f0C ok D.q86 rfl ?_;conv=>whnf
 repeat' ((first|(show CN _ _ _ _ _ _;(refine CN.f rfl (aDy _) (fun v h' hl hr=>?_);obtain⟨s,rfl,hs⟩:=hr;have hsl:=hs.len))|((first|apply oI.z|apply cI.z)))<;>conv=>whnf)
 refine LpN.of (fun r ρ h1 L=>∃k:Nat,r=8-k/\h1=h'/\rd ρ 8=.int .i64 k/\k<=8/\Hq (∀j,j<k->bI.getD j []≠l)) 8 ⟨0,rfl,rfl,vi Aa,Aa,⟨fun i hi=>by omega⟩⟩ ?_
 conv=>whnf
 repeat intro _
 rename_i r h1 L1 hI;obtain⟨k,rfl,rfl,e8,hk,hd⟩:=hI;conv at e8=>lhs;whnf
 subst e8;have hg:k<8->∀y∈bI.getD k [],y<256:=fun x=>zZ _ (mZ Aa)
 have g1:=fun (x:k<8) y=>aVa l k Aa y
 have g2:=fun (x:k=8)=>aVb l (by subst x;exact hd.out)
 have g3:k<8->bI.getD k []≠l->∀j,j<k+1->bI.getD j []≠l:=fun x y j hj=>by
  by_cases e:j=k
  .subst e;exact y
  .exact hd.out j Aa
 obtain⟨X,hX⟩:=AE (bI.getD k []);rw[<-hX] at hg g1 g3;replace g1:=Hq.mk g1;replace g2:=Hq.mk g2;replace g3:=Hq.mk g3;conv=>whnf
 repeat' first|((first|(show Idx _ _ _ _ _;refine Idx.strs hs k Aa Aa (fun ad hv=>?_))|(show Ld _ _ _ _;(refine Ld.of (by first|exact hv _|(rename_i hv;exact hv _)) ?_;rw[<-hX]))|((first|apply oI.z|apply cI.z))|refine WN.i64 Aa Aa ?_)<;>conv=>whnf)|(show cnd _ _ _;first|(refine jV (hg Aa) hb (fun _=>?_) (fun _=>?_)<;>(conv=>whnf))|(apply aB<;>intro _<;>first|(exfalso;omega)|conv=>whnf))
 all_goals first
  | exact⟨rfl,8-(k+1),Aa,k+1,rfl,rfl,vi Aa,Aa,⟨g3.out Aa Ab⟩⟩
  | (rw[(g1.out Aa Ab).2,aW (g1.out Aa Ab).1];exact RN.a rfl)
  | (rw[(g2.out Aa).2,aG (g2.out Aa).1];exact RN.a rfl)
theorem aRw{l:List Nat}(h:l∉nZ):dec (sF l)=dec (l∈bI):=by
 unfold dec sF;congr 1;exact propext ⟨fun x=>x.elim (fun y=>absurd y h) id,.inr⟩
theorem uO(h:aA)(l:List Nat)(hb:∀y∈l,y<256):Fn0 T F.q87 [.string (txt l)] h fun v h'=>v=.bool (dec (sF l)):=by
 have f1:l∈nZ->dec (sF l)=true:=fun x=>aW (.inl x)
 have f2:l∉nZ->dec (sF l)=dec (l∈bI):=aRw;refine f0C ok D.q87 rfl ?_;conv=>whnf
 repeat' first|((first|(apply aO.go)|(show CN _ _ _ _ _ _;(refine CN.f rfl (aH3 _ l hb) (fun v h' hl hr=>?_);obtain rfl:=hr))|((first|apply oI.z|apply cI.z)))<;>conv=>whnf)|(show cnd _ _ _;first|(refine iZ l [112,105] rfl rfl hb Ag (fun h1=>?_) (fun h1=>?_)<;>first|exact absurd h1 Ab|exact absurd Ab h1|(conv=>whnf))|(refine iZ l [97,98,115] rfl rfl hb Ag (fun h1=>?_) (fun h1=>?_)<;>first|exact absurd h1 Ab|exact absurd Ab h1|(conv=>whnf))|(refine iZ l [109,105,110] rfl rfl hb Ag (fun h1=>?_) (fun h1=>?_)<;>first|exact absurd h1 Ab|exact absurd Ab h1|(conv=>whnf))|(refine iZ l [109,97,120] rfl rfl hb Ag (fun h1=>?_) (fun h1=>?_)<;>first|exact absurd h1 Ab|exact absurd Ab h1|(conv=>whnf))|(refine iZ l [114,111,111,116] rfl rfl hb Ag (fun h1=>?_) (fun h1=>?_)<;>first|exact absurd h1 Ab|exact absurd Ab h1|(conv=>whnf))|(refine iZ l [115,113,114,116] rfl rfl hb Ag (fun h1=>?_) (fun h1=>?_)<;>first|exact absurd h1 Ab|exact absurd Ab h1|(conv=>whnf))|(refine iZ l [105,102] rfl rfl hb Ag (fun h1=>?_) (fun h1=>?_)<;>first|exact absurd h1 Ab|exact absurd Ab h1|(conv=>whnf))|(refine iZ l [105,110,102] rfl rfl hb Ag (fun h1=>?_) (fun h1=>?_)<;>first|exact absurd h1 Ab|exact absurd Ab h1|(conv=>whnf))|(refine iZ l [102,111,114] rfl rfl hb Ag (fun h1=>?_) (fun h1=>?_)<;>first|exact absurd h1 Ab|exact absurd Ab h1|(conv=>whnf))|(refine iZ l [105,110] rfl rfl hb Ag (fun h1=>?_) (fun h1=>?_)<;>first|exact absurd h1 Ab|exact absurd Ab h1|(conv=>whnf))|(refine iZ l [119,104,101,114,101] rfl rfl hb Ag (fun h1=>?_) (fun h1=>?_)<;>first|exact absurd h1 Ab|exact absurd Ab h1|(conv=>whnf)))
 all_goals first
  | (rw[f1 (by unfold nZ;simp[*])];exact RN.a rfl)
  | (rw[f2 (by unfold nZ;simp[*])];exact RN.a rfl)
theorem aH4{c:Nat}:aln c=true↔ltr c=true\/dgt c=true:=by unfold aln;simp
theorem aH5(h:aA)(l:List Nat)(hb:∀y∈l,y<256)(hl:l.length<=9223372036854775807):Fn0 T F.q85 [.string (txt l)] h fun v h'=>h'=h/\v=.int .i64 (eE l:Nat):=by
 have hz:=bF l;cases l with
 | nil=>
  refine f0C ok D.q85 rfl ?_;conv=>whnf
  repeat' first|((first|((first|apply oI.z|apply cI.z)))<;>conv=>whnf)|(show cnd _ _ _;first|(refine iK [] rfl rfl (fun _=>?_) (fun hne=>?_)<;>first|exact absurd rfl hne|(conv=>whnf)))
  all_goals exact RN.a ⟨rfl,rfl⟩
 | cons c m=>
  have hlc:(c::m).length=m.length+1:=rfl;have w1:ltr c=true->eE (c::m)=(m.takeWhile aln).length+1:=fun x=>if_pos x
  have w0:¬ltr c=true->eE (c::m)=0:=fun x=>if_neg x
  refine f0C ok D.q85 rfl ?_;conv=>whnf
  repeat' first|((first|(show eF _ _ _;refine eF.at (c::m) c rfl hb 0 Aa rfl ?_)|(show CN _ _ _ _ _ _;refine CN.quiet rfl (zX _ c) ?_)|((first|apply oI.z|apply cI.z)))<;>conv=>whnf)|(show cnd _ _ _;first|(refine iK (c::m) rfl rfl (fun hne=>?_) (fun _=>?_)<;>first|cases hne|(conv=>whnf))|(refine aI ?_)|(apply aN<;>intro _<;>first|(exfalso;omega)|conv=>whnf))
  all_goals first
   | (refine RN.a ⟨rfl,?_⟩;rw[w0 Ab];rfl)
   | skip
  have hc:ltr c=true:=Ab;refine LpN.of (fun r ρ h' L=>∃k:Nat,r=m.length-k/\h'=h/\rd ρ 3=.int .i64 ((k+1:Nat):Int)/\k<=m.length/\Hq (∀i,i<k->aln (m.getD i 0)=true)) m.length ⟨0,rfl,rfl,vi Aa,Aa,⟨fun i hi=>by omega⟩⟩ ?_
  conv=>whnf
  repeat intro _
  rename_i r h1 L1 hI;obtain⟨k,rfl,rfl,e3,hk,hd⟩:=hI;conv at e3=>lhs;whnf
  subst e3;have hs:=fun (x:k<m.length) (y:ltr (m.getD k 0)=true\/dgt (m.getD k 0)=true) i (hi:i<k+1)=>(by
    by_cases e:i=k
    .subst e;exact aH4.2 y
    .exact hd.out i Aa:aln (m.getD i 0)=true)
  have hw:=zW m k hk hd.out;have hn:¬ltr (m.getD k 0)=true->¬dgt (m.getD k 0)=true->¬aln (m.getD k 0)=true:=fun x y z=>(aH4.1 z).elim x y
  have hgk:k<m.length->(c::m)[k+1]?=some (m.getD k 0):=fun x=>by simp[aY3,x]
  obtain⟨X,hX⟩:=AE (m.getD k 0);rw[<-hX] at hs hw hn hgk;replace hs:=Hq.mk hs;replace hw:=Hq.mk hw;replace hn:=Hq.mk hn;conv=>whnf
  repeat' first|((first|(show eF _ _ _;refine eF.at (c::m) X rfl hb (k+1) Aa (hgk Aa) ?_)|(show CN _ _ _ _ _ _;first|refine CN.quiet rfl (zX _ X) ?_|refine CN.quiet rfl (zY _ X) ?_)|((first|apply oI.z|apply cI.z))|refine WN.i64 Aa Aa ?_)<;>conv=>whnf)|(show cnd _ _ _;first|((first|apply aB|apply aN)<;>intro _<;>first|(exfalso;omega)|conv=>whnf))
  all_goals first
   | exact⟨rfl,m.length-(k+1),Aa,k+1,rfl,rfl,vi Aa,Aa,⟨hs.out Aa (by first|exact .inl Ab|exact .inr Ab)⟩⟩
   | (refine RN.a ⟨rfl,?_⟩;rw[w1 hc,hw.out (by first|(left;omega)|(right;exact hn.out Ab Ab))])
end Go.Proofs.Y
/- Names of expressions: what a name is, on both sides. -/
namespace Go.Dig
def wat(l:List Nat)(j:Nat):Prop:=ltr (l.getD j 0)=true\/(j≠0/\dgt (l.getD j 0)=true)
theorem qU{p:Nat->Bool}:∀(m:List Nat),(∀x∈m,p x=true)->(m.takeWhile p).length=m.length
 | [],_=>rfl
 | c::m,h=>by
  rw[bCl,if_pos (h c aZa),aY6,aY6,qU m fun x hx=>h x (aZd _ hx)]
theorem mK{p:Nat->Bool}:∀(m:List Nat),(∃x∈m,¬p x=true)->(m.takeWhile p).length<m.length
 | [],⟨x,hx,_⟩=>by cases hx
 | c::m,⟨x,hx,hp⟩=>by
  rw[bCl]
  split
  .rename_i hc;rcases aZl.1 hx with rfl|hx
   .exact absurd hc hp
   .have:=mK m ⟨x,hx,hp⟩;simp only[aY6];omega
  .simp
theorem aJ3{l:List Nat}(h:∀j,j<l.length->wat l j):eE l=l.length:=by
 cases l with
 | nil=>rfl
 | cons c m=>
  have h0:ltr c=true:=by
   rcases h 0 Ar with x|x
   .simpa using x
   .exact absurd rfl x.1
  show (if ltr c then (m.takeWhile aln).length+1 else 0)=m.length+1
  rw[if_pos h0,qU m];intro x hx;obtain⟨i,hi,rfl⟩:=bBe hx;unfold aln;rcases h (i+1) As with y|y
  .simp[aY3,hi] at y;simp[y]
  .have y:=y.2;simp[aY3,hi] at y;simp[y]
theorem aNi{l:List Nat}{j:Nat}(hj:j<l.length)(h:¬wat l j):eE l≠l.length:=by
 cases l with
 | nil=>simp at hj
 | cons c m=>
  show (if ltr c then (m.takeWhile aln).length+1 else 0)≠m.length+1
  by_cases hc:ltr c=true
  .rw[if_pos hc];cases j with
   | zero=>exact absurd (.inl (by simpa using hc)) h
   | succ i=>
    have hi:i<m.length:=by simpa using hj
    have:=mK (p:=aln) m ⟨m[i],bBb hi,fun x=>h (by
      unfold aln at x;unfold wat;simp[aY3,hi]
      simpa using x)⟩
    omega
  .rw[if_neg hc];omega
end Go.Dig
namespace Go.Proofs.Y
open Go Go.Vc Go.Dig
theorem xC(h:aA)(l:List Nat)(hb:∀y∈l,y<256):Fn0 T F.q53 [.string (txt l)] h fun v h'=>v=.bool (dec (dH l)):=by
 have hz:=bF l;have hw:=aBv l;have f1:l.length<=8->eE l=l.length->l≠[]->dec (dH l)=!dec (sF l):=fun a b c=>by
  by_cases r:sF l
  .rw[aW r,aG fun x=>x.2.2.2 r];rfl
  .rw[aG r,aW ⟨a,b,c,r⟩];rfl
 have f2:¬l.length<=8->dec (dH l)=false:=fun a=>aG fun x=>a x.1
 have f3:¬eE l=l.length->dec (dH l)=false:=fun a=>aG fun x=>a x.2.1
 have f4:l=[]->dec (dH l)=false:=fun a=>aG fun x=>x.2.2.1 a
 refine f0C ok D.q53 rfl ?_;conv=>whnf
 repeat' first|((first|(show CN _ _ _ _ _ _;first|refine CN.quiet rfl (aH5 _ l hb Aa) ?_|(refine CN.f rfl (uO _ l hb) (fun v h' hl hr=>?_);obtain rfl:=hr))|((first|apply oI.z|apply cI.z)))<;>conv=>whnf)|(show cnd _ _ _;first|(refine iK l rfl rfl (fun _=>?_) (fun _=>?_)<;>(conv=>whnf))|((first|apply bH|apply aD)<;>intro _<;>first|(exfalso;omega)|conv=>whnf)|(refine aI ?_))
 all_goals first
  | (rw[f1 Aa Aa Ab];exact RN.a rfl)
  | (rw[f2 Aa];exact RN.a rfl)
  | (rw[f3 Aa];exact RN.a rfl)
  | (rw[f4 Ab];exact RN.a rfl)
theorem iN(h:aA)(l:List Nat)(hb:∀y∈l,y<256):Fn0 T F.q24 [.string (txt l)] h fun v h'=>v=.bool (dec (dH l)):=by
 refine f0C ok D.q24 rfl ?_;conv=>whnf
 repeat' ((first|(show CN _ _ _ _ _ _;(refine CN.f rfl (xC _ l hb) (fun v h' hl hr=>?_);obtain rfl:=hr))|((first|apply oI.z|apply cI.z)))<;>conv=>whnf)
 all_goals exact RN.a rfl
theorem aNj(h:aA)(l:List Nat)(hb:∀y∈l,y<256)(hl:l.length<=9223372036854775807):Fn0 T F.q145 [.string (txt l)] h fun v h'=>h'=h/\v=.bool (dec (eE l=l.length/\l≠[])):=by
 have hz:=bF l;have f1:(∃j,j<l.length/\¬wat l j)->dec (eE l=l.length/\l≠[])=false:=fun ⟨j,hj,hn⟩=>aG fun x=>aNi hj hn x.1
 have f2:(∀j,j<l.length->wat l j)->dec (eE l=l.length/\l≠[])=Vc.lt 0 ((txt l).size:Int):=fun x=>by
  unfold dec Vc.lt
  congr 1
  refine propext ⟨fun y=>?_,fun y=>⟨aJ3 x,fun e=>by have h0:=congrArg List.length e;simp only[aY9] at h0;omega⟩⟩
  have:=List.length_pos_iff.2 y.2;omega
 refine f0C ok D.q145 rfl ?_;conv=>whnf
 repeat ((first|apply oI.z|apply cI.z);conv=>whnf)
 skip
 refine LpN.of (fun r ρ h' L=>∃k:Nat,r=l.length-k/\h'=h/\rd ρ 3=.int .i64 k/\k<=l.length/\Hq (∀i,i<k->wat l i)) l.length ⟨0,rfl,rfl,vi Aa,Aa,⟨fun i hi=>by omega⟩⟩ ?_
 conv=>whnf
 repeat intro _
 rename_i r h1 L1 hI;obtain⟨k,rfl,rfl,e3,hk,hd⟩:=hI;conv at e3=>lhs;whnf
 subst e3;have g1:=fun (x:k<l.length) (y:wat l k) i (hi:i<k+1)=>(by
   by_cases e:i=k
   .subst e;exact y
   .exact hd.out i Aa:wat l i)
 have g2:k=l.length->dec (eE l=l.length/\l≠[])=Vc.lt 0 ((txt l).size:Int):=fun e=>f2 fun j hj=>hd.out j Aa
 have g3:=fun (x:k<l.length) (y:¬wat l k)=>f1 ⟨k,x,y⟩
 have wy:(97<=l.getD k 0/\l.getD k 0<=122)\/(k≠0/\48<=l.getD k 0/\l.getD k 0<=57)->wat l k:=fun x=>x.elim (fun y=>.inl (sE.2 y)) fun y=>.inr ⟨y.1,iL.2 y.2⟩
 have wn:¬(97<=l.getD k 0/\l.getD k 0<=122)->(k=0\/¬(48<=l.getD k 0/\l.getD k 0<=57))->¬wat l k:=fun x y z=>z.elim (fun u=>x (sE.1 u)) fun u=>y.elim (fun e=>u.1 e) fun v=>v (iL.1 u.2)
 clear f1 f2;obtain⟨X,hX⟩:=AE (l.getD k 0);rw[<-hX] at wy wn;replace g1:=Hq.mk g1;replace g3:=Hq.mk g3;replace wy:=Hq.mk wy;replace wn:=Hq.mk wn;conv=>whnf
 repeat' first|((first|(show eF _ _ _;(refine eF.txt l rfl hb k Aa Aa ?_;rw[<-hX]))|((first|apply oI.z|apply cI.z))|refine WN.i64 Aa Aa ?_)<;>conv=>whnf)|(show cnd _ _ _;first|((first|apply aB|apply bH|apply aD)<;>intro _<;>first|(exfalso;omega)|conv=>whnf)|(refine aI ?_))
 all_goals first
  | exact⟨rfl,l.length-(k+1),Aa,k+1,rfl,rfl,vi Aa,Aa,⟨g1.out Aa (wy.out Aa)⟩⟩
  | (refine RN.a ⟨rfl,?_⟩;rw[g3.out Aa (wn.out Aa Aa)])
  | (refine RN.a ⟨rfl,?_⟩;rw[g2 Aa])
theorem aD0(h:aA)(l:List Nat)(hb:∀y∈l,y<256):Fn0 T F.q84 [.string (txt l)] h fun v h'=>v=.bool (dec (dH l)):=by
 have hz:=bF l;obtain⟨R,hR⟩:=AE (bI++nZ);have hRl:R.length=19:=by rw[hR];rfl
 have hRb:∀w∈R,∀y∈w,y<256:=by
  rw[hR];intro w hw;exact (aZb.1 hw).elim (zZ w) (aJ2 w)
 have hRm:l∈R↔sF l:=by rw[hR,aZb];exact Or.comm
 have c1:=aDz;rw[<-hR] at c1;have f1:¬l.length<=8->dec (dH l)=false:=fun a=>aG fun x=>a x.1
 have f2:¬(eE l=l.length/\l≠[])->dec (dH l)=false:=fun a=>aG fun x=>a ⟨x.2.1,x.2.2.1⟩
 have f3:l∈R->dec (dH l)=false:=fun a=>aG fun x=>x.2.2.2 (hRm.1 a)
 have f4:l.length<=8->(eE l=l.length/\l≠[])->l∉R->dec (dH l)=true:=fun a b c=>aW ⟨a,b.1,b.2,fun x=>c (hRm.2 x)⟩
 clear hR hRm;refine f0C ok D.q84 rfl ?_;conv=>whnf
 repeat' first|((first|(show CN _ _ _ _ _ _;first|refine CN.quiet rfl (aNj _ l hb Aa) ?_|(refine CN.f rfl (c1 _) (fun v h' hl hr=>?_);obtain⟨s,rfl,hs⟩:=hr;have hsl:=hs.len))|((first|apply oI.z|apply cI.z)))<;>conv=>whnf)|(show cnd _ _ _;first|(apply aB<;>intro _<;>first|(exfalso;omega)|conv=>whnf)|(refine aI ?_)|(apply aN<;>intro _<;>first|(exfalso;omega)|conv=>whnf))
 all_goals first
  | (rw[f1 Aa];exact RN.a rfl)
  | (rw[f2 Ab];exact RN.a rfl)
  | skip
 have f5:=f4 Aa Ab;clear f1 f2 f4;refine LpN.of (fun r ρ h1 L=>∃k:Nat,r=19-k/\h1=h'/\rd ρ 4=.int .i64 k/\k<=19/\Hq (∀j,j<k->R.getD j []≠l)) 19 ⟨0,rfl,rfl,vi Aa,Aa,⟨fun i hi=>by omega⟩⟩ ?_
 conv=>whnf
 repeat intro _
 rename_i r h1 L1 hI;obtain⟨k,rfl,rfl,e4,hk,hd⟩:=hI;conv at e4=>lhs;whnf
 subst e4;have hg:k<19->∀y∈R.getD k [],y<256:=fun x=>hRb _ (mZ Aa)
 have g1:=fun (x:k<19) (y:R.getD k []=l)=>f3 (y▸mZ Aa)
 have g2:=fun (x:k=19)=>f5 fun hm=>by
  obtain⟨i,hi,e⟩:=bBe hm;exact hd.out i Aa (by simp[aY3,hi,e])
 have g3:k<19->R.getD k []≠l->∀j,j<k+1->R.getD j []≠l:=fun x y j hj=>by
  by_cases e:j=k
  .subst e;exact y
  .exact hd.out j Aa
 obtain⟨X,hX⟩:=AE (R.getD k []);rw[<-hX] at hg g1 g3;replace g1:=Hq.mk g1;replace g2:=Hq.mk g2;replace g3:=Hq.mk g3;conv=>whnf
 repeat' first|((first|(show Idx _ _ _ _ _;refine Idx.strs hs k Aa Aa (fun ad hv=>?_))|(show Ld _ _ _ _;(refine Ld.of (by first|exact hv _|(rename_i hv;exact hv _)) ?_;rw[<-hX]))|((first|apply oI.z|apply cI.z))|refine WN.i64 Aa Aa ?_)<;>conv=>whnf)|(show cnd _ _ _;first|(refine jV (hg Aa) hb (fun _=>?_) (fun _=>?_)<;>(conv=>whnf))|(apply aB<;>intro _<;>first|(exfalso;omega)|conv=>whnf))
 all_goals first
  | exact⟨rfl,19-(k+1),Aa,k+1,rfl,rfl,vi Aa,Aa,⟨g3.out Aa Ab⟩⟩
  | (rw[g1.out Aa Ab];exact RN.a rfl)
  | (rw[g2.out Aa];exact RN.a rfl)
end Go.Proofs.Y