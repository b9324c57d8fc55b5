/- Maps from texts to exponents: an entry made, increased, looked up; all entries handed out in some order. -/
import Derived.Maps.RangeRun
import Derived.Test.YtdccpmlhflpeaaaGreatDoorSq
import Derived.Laws.Cover1
import Derived.Test.YtdccpmlhflpeaaaGreatDoorPF5
set_option linter.all false
set_option maxHeartbeats 4000000
set_option maxRecDepth 20000
namespace Go.Vc
open Go Go.Dig
def mY(i:Nat)(t:Fac):MapEntry:={ key:=.string ⟨t.1.toArray⟩,val:=.int .i64 (t.2:Nat),born:=i }
def dQ:Nat->Mon->List MapEntry
 | _,[]=>[]
 | i,t::l=>mY i t::dQ (i+1) l
def qL(l:Mon):Obj:=.map (dQ 0 l).toArray l.length
def itO(bm:Nat)(l:Mon)(S:List Nat):Obj:=.mapIter (some bm) l.length S.toArray l.length
theorem aAz:∀(i:Nat) (l:Mon),(dQ i l).length=l.length
 | _,[]=>rfl
 | i,t::l=>by rw[dQ,bDa,aAz,bDa]
theorem mT:∀(l:Mon) (i j:Nat),(dQ i l)[j]?=l[j]?.map (mY (i+j))
 | [],_,_=>rfl
 | t::l,i,0=>rfl
 | t::l,i,j+1=>by
  rw[dQ,bGc,bGc,mT l (i+1) j,show i+1+j=i+(j+1) by omega]
theorem aCu:∀(l:Mon) (i:Nat) (t:Fac),dQ i (l++[t])=dQ i l++[mY (i+l.length) t]
 | [],i,t=>rfl
 | u::l,i,t=>by
  rw[bEn,dQ,dQ,aCu l (i+1) t,bEn,bDa,show i+1+l.length=i+(l.length+1) by omega]
theorem aHp:∀(l:Mon) (i j:Nat) (t:Fac),dQ i (l.set j t)=(dQ i l).set j (mY (i+j) t)
 | [],_,_,_=>rfl
 | u::l,i,0,t=>rfl
 | u::l,i,j+1,t=>by
  rw[bFj,dQ,dQ,bFj,aHp l (i+1) j t,show i+1+j=i+(j+1) by omega]
theorem aHq(x y:List UInt8):Instr.sameNow .string (.string ⟨x.toArray⟩) (.string ⟨y.toArray⟩)=some (decide (x=y)):=by
 show some ((⟨x.toArray⟩:ByteArray) == ⟨y.toArray⟩)=_
 congr 1
 by_cases h:x=y
 .subst h;rw[decide_eq_true rfl];exact (MapKept.bytes_beq _ _).2 rfl
 .rw[decide_eq_false h];cases hb:((⟨x.toArray⟩:ByteArray) == ⟨y.toArray⟩) with
  | false=>rfl
  | true=>
   have e:=congrArg ByteArray.toList ((MapKept.bytes_beq _ _).1 hb);rw[gM,gM] at e;exact absurd e h
theorem aA0(x:List UInt8):∀(l:Mon) (i i0:Nat),(∃j v,Instr.findNow .string (.string ⟨x.toArray⟩) (dQ i l) i0=some (some (i0+j,.int .i64 (v:Nat)))/\l[j]?=some (x,v))\/(Instr.findNow .string (.string ⟨x.toArray⟩) (dQ i l) i0=some none/\x∉l.map (·.1))
 | [],_,_=>.inr ⟨rfl,by simp⟩
 | (y,v)::l,i,i0=>by
  by_cases e:x=y
  .subst e;refine .inl ⟨0,v,?_,rfl⟩;rw[dQ,Instr.findNow,show Instr.sameNow .string (.string ⟨x.toArray⟩) (mY i (x,v)).key=some (decide (x=x)) from aHq x x,decide_eq_true rfl]
   rfl
  .have hs:Instr.sameNow .string (.string ⟨x.toArray⟩) (mY i (y,v)).key=some false:=by
    rw[show Instr.sameNow .string (.string ⟨x.toArray⟩) (mY i (y,v)).key=some (decide (x=y)) from aHq x y,decide_eq_false e]
   rcases aA0 x l (i+1) (i0+1) with ⟨j,w,h1,h2⟩|⟨h1,h2⟩
   .exact .inl ⟨j+1,w,by rw[dQ,Instr.findNow,hs];simpa[bGj,Nat.add_left_comm] using h1,by simpa using h2⟩
   .refine .inr ⟨by rw[dQ,Instr.findNow,hs];exact h1,?_⟩
    simp only[bEe,bDp,not_or];exact⟨e,h2⟩
theorem Ext.mapLook{T:Tab}{t kt et:TypeId}{m kO:Operand}{b:Nat}{l:Mon}(x:List UInt8){kb:ByteArray}{h:aA}{L:Vc.Own}{k:Value->aA->Vc.Own->Prop}(hL:(b,qL l)∈L\/h b=some (qL l))(hm:T.und t=some (.map kt et))(hd:T.und kt=some .string)(hz:∀w,(zeroValue et).run T.prog w=.ok (.int .i64 0) w)(hl:pY l)(hx:kb=⟨x.toArray⟩)
  (hk:k (.int .i64 (cf l x:Nat)) h L):Ext T (.lookup t m kO false) [m,kO] [.map (some b),.string kb] h L k:=by
 subst hx;refine⟨fun ok o ρ K Q w h0' L0 w' hop' hargs inv hout hP hK=>.inl ?_⟩
 simp only[bEe,bFd,List.cons.injEq,and_true] at hargs;obtain⟨a1,a2⟩:=hargs;have hg:w'.heap[b]?=some (.map (dQ 0 l).toArray l.length):=hL.elim (fun x=>inv.own _ x) (fun x=>inv.imm _ _ x)
 have hkey:MapKept.IsKey .string (.string ⟨x.toArray⟩):=trivial;have hck:=MapKept.run_checkKey (P:=T.prog) (w:=w') (ok.und _ _ hd) hkey (dQ 0 l).toArray.isEmpty 9999;have hr:(Instr.lookup t (.map (some b)) (.string ⟨x.toArray⟩) false).run T.prog w'=.ok (.int .i64 (cf l x:Nat)) w':=by
  rcases aA0 x l 0 0 with ⟨j,v,hf,hj⟩|⟨hf,hn⟩
  .have hf':Instr.findNow .string (.string ⟨x.toArray⟩) (dQ 0 l).toArray.toList 0=some (some (0+j,.int .i64 (v:Nat))):=hf;have hv:=aJy hl hj;have hfk:=MapKept.run_findKey (P:=T.prog) (w:=w') (ok.und _ _ hd) hf';dsimp only at hv;rw[hv]
   generalize hes:(dQ 0 l).toArray=es at hg hck hfk
   simp[Instr.lookup,run_underlying (ok.und _ _ hm),MapKept.run_getObj_map hg,hck,hfk,Result.andThen]
  .have hf':Instr.findNow .string (.string ⟨x.toArray⟩) (dQ 0 l).toArray.toList 0=some none:=hf;have hfk:=MapKept.run_findKey (P:=T.prog) (w:=w') (ok.und _ _ hd) hf';rw[aTg hn]
   generalize hes:(dQ 0 l).toArray=es at hg hck hfk
   simp[Instr.lookup,run_underlying (ok.und _ _ hm),MapKept.run_getObj_map hg,hck,hfk,hz,Result.andThen]
 refine aX (w':=w') (v:=.int .i64 (cf l x:Nat)) ?_ (hK _ _ _ _ inv hk);simp only[execOp,hop',a1,a2,bEg,hr]
 rfl
theorem aOu(l:Mon)(x:List UInt8)(v:Nat):Obj.map ((dQ 0 l).toArray.push { key:=.string ⟨x.toArray⟩,val:=.int .i64 (v:Nat),born:=l.length }) (l.length+1)=qL (l++[(x,v)]):=by
 unfold qL;rw[aCu,bDu,bC6]
 congr 1
 apply Array.toList_inj.1
 simp[mY]
theorem aTp(l:Mon)(i:Nat)(x:List UInt8)(v v':Nat)(hi:l[i]?=some (x,v)):Obj.map ((dQ 0 l).toArray.modify i fun e=>{ e with key:=.string ⟨x.toArray⟩,val:=.int .i64 (v':Nat) }) l.length=qL (l.set i (x,v')):=by
 unfold qL;rw[aHp,bFu]
 congr 1
 have he:(dQ 0 l).toArray[i]?=some (mY (0+i) (x,v)):=by rw[bD1,mT,hi];rfl
 apply Array.toList_inj.1
 rw[Go.Proofs.Y.modify_set he]
 rfl
theorem Ext.mapUp{T:Tab}{t kt et:TypeId}{m kO vO:Operand}{b:Nat}{l:Mon}{x:List UInt8}{v'':Int}(v':Nat){h:aA}{J:Vc.Own}{k:Value->aA->Vc.Own->Prop}(hm:T.und t=some (.map kt et))(hd:T.und kt=some .string)(hl:pY l)(ev:v''=v')
  (hk':∀i:Nat,(etF l x)[i]?=some (x,cf l x)->k undef h (J++[(b,qL ((etF l x).set i (x,v')))])):Ext T (.mapUpdate t m kO vO) [m,kO,vO] [.map (some b),.string ⟨x.toArray⟩,.int .i64 v''] h (J++[(b,qL l)]) k:=by
 subst ev;have hL:(J++[(b,qL l)])[J.length]?=some (b,qL l):=mL J _ [];have hk:∀i:Nat,(etF l x)[i]?=some (x,cf l x)->k undef h ((J++[(b,qL l)]).set J.length (b,qL ((etF l x).set i (x,v')))):=fun i hi=>by rw[uS];exact hk' i hi
 clear hk';refine⟨fun ok o ρ K Q w h0' L0 w' hop' hargs inv hout hP hK=>.inl ?_⟩
 simp only[bEe,bFd,List.cons.injEq,and_true] at hargs;obtain⟨a1,a2,a3⟩:=hargs;have hg:w'.heap[b]?=some (.map (dQ 0 l).toArray l.length):=inv.own _ (bDc hL);have hkey:MapKept.IsKey .string (.string ⟨x.toArray⟩):=trivial;have hck:=MapKept.run_checkKey (P:=T.prog) (w:=w') (ok.und _ _ hd) hkey false 9999;rcases aA0 x l 0 0 with ⟨j,v,hf,hj⟩|⟨hf,hn⟩
 .have hf':Instr.findNow .string (.string ⟨x.toArray⟩) (dQ 0 l).toArray.toList 0=some (some (0+j,.int .i64 (v:Nat))):=hf;rw[bDu] at hf';have hfk:=MapKept.run_findKey (P:=T.prog) (w:=w') (ok.und _ _ hd) hf';have hv:=aJy hl hj;dsimp only at hv;have hx:x∈l.map (·.1):=List.mem_map.2 ⟨_,bDc hj,rfl⟩;have e1:etF l x=l:=if_pos hx;have he:(dQ 0 l).toArray[j]?=some (mY j (x,v)):=by rw[bD1,mT,hj,bDu];rfl
  have hst:(Instr.keyThatStays ((Option.map (fun x=>x.key) (dQ 0 l).toArray[j]?).getD (.string ⟨x.toArray⟩)) (.string ⟨x.toArray⟩)).run T.prog w'=.ok (.string ⟨x.toArray⟩) w':=by
   rw[he];exact MapKept.run_keyThatStays hkey
  have hr:(Instr.mapUpdate t (.map (some b)) (.string ⟨x.toArray⟩) (.int .i64 (v':Nat))).run T.prog w'=.ok () { w' with heap:=w'.heap.setIfInBounds b (.map ((dQ 0 l).toArray.modify j fun e=>{ e with key:=.string ⟨x.toArray⟩,val:=.int .i64 (v':Nat) }) l.length) }:=by
   clear hf he
   generalize hes:(dQ 0 l).toArray=es at hg hfk hst ⊢
   simp[Instr.mapUpdate,run_underlying (ok.und _ _ hm),MapKept.run_getObj_map hg,hck,hfk,hst,MapKept.run_setObj_map _ hg,Result.andThen]
  have hkk:=hk j (by rw[e1,hj,hv]);rw[e1,<-aTp l j x v v' hj] at hkk;refine qO (w':=_) ?_ (hK undef _ _ _ (inv.upd hL (xU _ hg)) hkk);simp only[execOp,hop',a1,a2,a3,bEg,hr]
  rfl
 .have hf':Instr.findNow .string (.string ⟨x.toArray⟩) (dQ 0 l).toArray.toList 0=some none:=hf;have hfk:=MapKept.run_findKey (P:=T.prog) (w:=w') (ok.und _ _ hd) hf';have e1:etF l x=l++[(x,0)]:=if_neg hn;have hr:(Instr.mapUpdate t (.map (some b)) (.string ⟨x.toArray⟩) (.int .i64 (v':Nat))).run T.prog w'=.ok () { w' with heap:=w'.heap.setIfInBounds b (.map ((dQ 0 l).toArray.push { key:=.string ⟨x.toArray⟩,val:=.int .i64 (v':Nat),born:=l.length }) (l.length+1)) }:=by
   generalize hes:(dQ 0 l).toArray=es at hg hfk ⊢
   simp[Instr.mapUpdate,run_underlying (ok.und _ _ hm),MapKept.run_getObj_map hg,hck,hfk,MapKept.run_setObj_map _ hg,Result.andThen]
  have hkk:=hk l.length (by rw[e1,bDs (bDx _),bFr,aTg hn];rfl)
  have e2:(etF l x).set l.length (x,v')=l++[(x,v')]:=by rw[e1,bEo _ _ (bDx _),bFr];rfl
  rw[e2,<-aOu] at hkk;refine qO (w':=_) ?_ (hK undef _ _ _ (inv.upd hL (xU _ hg)) hkk);simp only[execOp,hop',a1,a2,a3,bEg,hr]
  rfl
theorem Ext.rangeM{T:Tab}{t kt et:TypeId}{x:Operand}{b:Nat}{l:Mon}{h:aA}{L:Vc.Own}{k:Value->aA->Vc.Own->Prop}(hL:(b,qL l)∈L)(hm:T.und t=some (.map kt et))(hk:∀r,k (.pointer (some ⟨r,0,none⟩)) h ((r,itO b l [])::L)):Ext T (.range t x) [x] [.map (some b)] h L k:=by
 refine⟨fun ok o ρ K Q w h0' L0 w' hop' hargs inv hout hP hK=>.inl ?_⟩
 simp only[bEe,bFd,List.cons.injEq,and_true] at hargs;have hg:w'.heap[b]?=some (.map (dQ 0 l).toArray l.length):=inv.own _ hL;have hr:=run_range_map (P:=T.prog) w' t kt et b _ _ (ok.und _ _ hm) hg;refine aX (w':=_) (v:=.pointer (some ⟨w'.heap.size,0,none⟩)) ?_ (hK _ _ _ _ (inv.alloc (.mapIter (some b) l.length #[] l.length) rfl) (hk _));simp only[execOp,hop',hargs,bEg,hr]
 rfl
theorem aXf{w:World}{b:Nat}{o:Obj}(o':Obj)(hb:w.heap[b]?=some o)(hs:aH7 o'):Upd w b o' (ChangeMaps.setBlock w b o'):=by
 have hlt:=(Array.getElem?_eq_some_iff.1 hb).1;refine⟨?_,fun x hx=>?_,?_,rfl,rfl,rfl,hs⟩
 .simp[ChangeMaps.setBlock,hlt]
 .simp only[ChangeMaps.setBlock];rw[Array.getElem?_setIfInBounds_ne (Ne.symm hx)]
 .simp[ChangeMaps.setBlock]
theorem aTq{l:Mon}{S:List Nat}{e:MapEntry}(h:e∈(leftOf (dQ 0 l).toArray S.toArray).toList):∃i t,l[i]?=some t/\i∉S/\e=mY i t:=by
 unfold leftOf at h;rw[Array.mem_toList_iff,Array.mem_filter] at h;obtain⟨h1,h2⟩:=h;rw[List.mem_toArray] at h1;obtain⟨i,hi,rfl⟩:=List.mem_iff_getElem.1 h1;have g:=mT l 0 i;have hil:i<l.length:=by rw[aAz] at hi;exact hi
 rw[bC8 hi,bC8 hil,bDu] at g;have g:=Option.some.inj g;refine⟨i,l[i],bC8 hil,fun hS=>?_,g⟩
 rw[g] at h2;have:S.toArray.contains i=true:=by rw[List.contains_toArray];exact List.contains_iff_mem.2 hS
 rw[show (mY i l[i]).born=i from rfl,this] at h2;cases h2
theorem aOv{l:Mon}{S:List Nat}(h:(leftOf (dQ 0 l).toArray S.toArray).size=0):∀i,i<l.length->i∈S:=fun i hi=>by
 refine Decidable.byContradiction fun hn=>?_
 have hmem:mY i l[i]∈leftOf (dQ 0 l).toArray S.toArray:=by
  unfold leftOf;rw[Array.mem_filter];refine⟨?_,?_⟩
  .rw[List.mem_toArray];have g:=mT l 0 i;rw[bC8 hi,bDu] at g;exact bDc g
  .have:S.toArray.contains i=false:=by
    rw[List.contains_toArray];cases hc:S.contains i with
    | false=>rfl
    | true=>exact absurd (List.contains_iff_mem.1 hc) hn
   rw[show (mY i l[i]).born=i from rfl,this];rfl
 have:=Array.eq_empty_of_size_eq_zero h;rw[this] at hmem;simp at hmem
theorem aTr(l:Mon):∀x∈(dQ 0 l).toArray.toList,x.born<l.length:=fun x hx=>by
 obtain⟨i,hi,rfl⟩:=List.mem_iff_getElem.1 hx;have hi':i<(dQ 0 l).length:=hi;have g:=mT l 0 i;have hil:i<l.length:=by rw[aAz] at hi';exact hi'
 rw[bC8 hi',bC8 hil,bDu] at g;show ((dQ 0 l)[i]).born<l.length;rw[Option.some.inj g];exact hil
theorem aOw(l:Mon):((dQ 0 l).toArray.toList.map (·.born)).Nodup:=by
 have:∀(l:Mon) (i:Nat),((dQ i l).map (·.born)).Nodup/\∀x∈(dQ i l).map (·.born),i<=x:=by
  intro l
  induction l with
  | nil=>intro i;exact⟨bHz,fun x hx=>by simp[dQ] at hx⟩
  | cons t l ih=>
   intro i;obtain⟨h1,h2⟩:=ih (i+1);rw[dQ,bEe];refine⟨List.nodup_cons.2 ⟨fun hm=>?_,h1⟩,fun x hx=>?_⟩
   .have:=h2 _ hm;have e:(mY i t).born=i:=rfl;omega
   .rcases bDp.1 hx with rfl|hx
    .exact bDx _
    .have:=h2 x hx;omega
 exact (this l 0).1
theorem Ext.nextM{T:Tab}{x:Operand}{r b:Nat}{l:Mon}{S:List Nat}{h:aA}{Fx:Vc.Own}{k:Value->aA->Vc.Own->Prop}(hL:h b=some (qL l))
  (h0:(∀i,i<l.length->i∈S)->k (.tuple #[.bool false]) h (Fx++[(r,itO b l S)]))
  (h1':∀i x e,l[i]?=some (x,e)->i∉S->k (.tuple #[.bool true,.string ⟨x.toArray⟩,.int .i64 (e:Nat)]) h (Fx++[(r,itO b l (S++[i]))])):Ext T (.next x false) [x] [.pointer (some ⟨r,0,none⟩)] h (Fx++[(r,itO b l S)]) k:=by
 have hr:(Fx++[(r,itO b l S)])[Fx.length]?=some (r,itO b l S):=mL Fx _ [];have h1:∀i t,l[i]?=some t->i∉S->k (.tuple #[.bool true,.string ⟨t.1.toArray⟩,.int .i64 (t.2:Nat)]) h ((Fx++[(r,itO b l S)]).set Fx.length (r,itO b l (S++[i]))):=fun i ⟨x,e⟩ a c=>by rw[uS];exact h1' i x e a c
 clear h1';refine⟨fun ok o ρ K Q w h0' L0 w' hop' hargs inv hout hP hK=>.inl ?_⟩
 simp only[bEe,bFd,List.cons.injEq,and_true] at hargs;have hg:w'.heap[b]?=some (.map (dQ 0 l).toArray l.length):=inv.imm _ _ hL;have hi:w'.heap[r]?=some (.mapIter (some b) l.length S.toArray l.length):=inv.own _ (bDc hr);rcases run_next_at (P:=T.prog) w' o.type r b l.length l.length S.toArray _ _ hi hg (aTr l) (bDx _) with ⟨hs,hrun⟩|⟨e,he,w1,hw1,hrun⟩
 .refine aX (w':=w') (v:=.tuple #[.bool false]) ?_ (hK _ _ _ _ inv (h0 (aOv hs)));simp only[execOp,hop',hargs,bEg,hrun]
  rfl
 .obtain⟨i,t,hit,hiS,rfl⟩:=aTq he;have hpush:S.toArray.push (mY i t).born=(S++[i]).toArray:=by
   apply Array.toList_inj.1
   simp[mY]
  rw[hpush] at hrun;have hi1:w1.heap[r]?=some (.mapIter (some b) l.length S.toArray l.length):=by rcases hw1 with rfl|rfl<;>exact hi
  have inv1:Inv w h0' L0 h (Fx++[(r,itO b l S)]) w1:=by
   rcases hw1 with rfl|rfl
   .exact inv
   .exact inv.drew
  refine aX (w':=_) (v:=.tuple #[.bool true,.string ⟨t.1.toArray⟩,.int .i64 (t.2:Nat)]) ?_ (hK _ _ _ _ (inv1.upd hr (aXf (.mapIter (some b) l.length (S++[i]).toArray l.length) hi1 rfl)) (h1 i t hit hiS));simp only[execOp,hop',hargs,bEg,hrun]
  rfl
theorem Ext.entM{T:Tab}{x:Operand}{r b q:Nat}{l:Mon}{S:List Nat}{x':List UInt8}{e':Nat}{h:aA}{Fx:Vc.Own}{k:Value->aA->Vc.Own->Prop}(hL:h b=some (qL l))(ht:l[q]?=some (x',e'))
  (hk:k (.tuple #[.string ⟨x'.toArray⟩,.int .i64 (e':Nat)]) h (Fx++[(r,itO b l (S++[q]))])):Ext T (.entry x) [x] [.pointer (some ⟨r,0,none⟩)] h (Fx++[(r,itO b l (S++[q]))]) k:=by
 have hr:(Fx++[(r,itO b l (S++[q]))])[Fx.length]?=some (r,itO b l (S++[q])):=mL Fx _ [];refine⟨fun ok o ρ K Q w h0' L0 w' hop' hargs inv hout hP hK=>.inl ?_⟩
 simp only[bEe,bFd,List.cons.injEq,and_true] at hargs;have hg:w'.heap[b]?=some (.map (dQ 0 l).toArray l.length):=inv.imm _ _ hL;have hpush:(S++[q]).toArray=S.toArray.push (mY q (x',e')).born:=by
  apply Array.toList_inj.1
  simp[mY]
 have hi:w'.heap[r]?=some (.mapIter (some b) l.length (S.toArray.push (mY q (x',e')).born) l.length):=by rw[<-hpush];exact inv.own _ (bDc hr)
 have hme:mY q (x',e')∈(dQ 0 l).toArray.toList:=by
  have g:=mT l 0 q;rw[ht,bDu] at g;exact bDc g
 have hrun:=run_entry_at (P:=T.prog) w' r b l.length S.toArray _ _ (mY q (x',e')) hi hg hme (aOw l);refine aX (w':=w') (v:=.tuple #[.string ⟨x'.toArray⟩,.int .i64 (e':Nat)]) ?_ (hK _ _ _ _ inv hk);simp only[execOp,hop',hargs,bEg,hrun]
 rfl
theorem LpN.dropBack{body:fN->Env->aA->Vc.Own->Prop}{ws:List Nat}{Q:fN}{ρ:Env}{h:aA}{x:Nat × Obj}:∀{J:Vc.Own},LpN body ws Q ρ h [x]->LpN body ws Q ρ h (x::J)
 | [],w=>w
 | _::J,w=>⟨.drop 1 (LpN.dropBack (J:=J) w).ex⟩
theorem LpN.keepTl{body:fN->Env->aA->Vc.Own->Prop}{ws:List Nat}{Q:fN}{ρ:Env}{h:aA}{x:Nat × Obj}{J:Vc.Own}{b:Nat}{o:Obj}(hk:∀h',h.le h'->h' b=some o->LpN body ws Q ρ h' [x]):LpN body ws Q ρ h (x::(J++[(b,o)])):=by
 refine LpN.keep (b:=b) (o:=o) (J.length+1) (mL J _ []) fun hle=>?_
 have e:(x::(J++[(b,o)])).eraseIdx (J.length+1)=x::J:=by
  rw[bHo,bGl (bDx _)];simp
 rw[e];exact LpN.dropBack (hk _ hle (by simp[aA.put]))
theorem vE(x:List UInt8):(⟨x.toArray⟩:ByteArray)=txt (x.map UInt8.toNat):=by
 unfold txt;rw[bGx]
 congr 2
 exact (List.map_id x).symm.trans (bHh fun c _=>by simp)
theorem bAr(x:List UInt8):∀y∈x.map UInt8.toNat,y<256:=fun y hy=>by
 obtain⟨c,_,rfl⟩:=List.mem_map.1 hy;exact c.toNat_lt
end Go.Vc
/- slices.SortFunc at factors: a row of the call's own, put in order by atom (the kit's contract of the library's sort). -/
namespace Go.Vc
open Go Go.Dig
theorem Inv.ahead{w0 w:World}{h0 h:aA}{L0 L:Vc.Own}(i:Inv w0 h0 L0 h L w)(n:Nat):Inv w0 h0 L0 h L (Sort.ahead w n):=
 ⟨⟨i.imm,i.own,i.sep,i.nd⟩,i.os,i.tape,i.output,i.size,i.fr,i.hle,i.hnew,i.lnew,i.lsoft,i.frz⟩
theorem Inv.grow{w0 w:World}{h0 h:aA}{L0 L:Vc.Own}(i:Inv w0 h0 L0 h L w)(os:Array Obj):Inv w0 h0 L0 h L (Sort.grow w os):=by
 have get:∀(b:Nat) (o:Obj),w.heap[b]?=some o->(Sort.grow w os).heap[b]?=some o:=fun b o hb=>by
  show (w.heap++os)[b]?=_
  rw[Array.getElem?_append_left (Array.getElem?_eq_some_iff.1 hb).1];exact hb
 refine⟨⟨fun b o hb=>get _ _ (i.imm b o hb),fun x hx=>get _ _ (i.own x hx),i.sep,i.nd⟩,i.os,i.tape,i.output,?_,fun b hb hn=>?_,i.hle,i.hnew,i.lnew,i.lsoft,fun hs b o hb ho=>rfl⟩
 .show _<=(w.heap++os).size
  have:=i.size;rw[Array.size_append];omega
 .have:=i.size;rw[<-i.fr b hb hn];show (w.heap++os)[b]?=_;rw[Array.getElem?_append_left Aa]
end Go.Vc
namespace Go.Proofs.Y
open Go Go.Vc Go.Dig Go.Shelf Go.RowKit
theorem aTs(a:ByteArray)(W:World):Calls Tryz.prog 248 #[.string a] W fun e w'=>e=.returned (.bool false)/\w'=W:=by
 go_enter Tryz.func248,Tryz.ntmps248
 go_wp2
 go_ret
 exact⟨by simp,rfl⟩
theorem bAs(x y:List UInt8)(W:World):Calls Tryz.prog 231 #[.string ⟨x.toArray⟩,.string ⟨y.toArray⟩] W fun e w'=>e=.returned (.int .i64 (tH x y))/\w'=W:=by
 have hn:=aTs;obtain⟨r,hr⟩:=AB (tH x y);rw[<-hr]
 go_enter Tryz.func231,Tryz.ntmps231
 go_wp2_with (go_at_call 248;refine (hn _ _).mono ?_;rintro e w' ⟨rfl,rfl⟩)
 .go_ret
  have a:Op.bytesLess x y=true:=Ab;rw[blt_eq] at a;exact⟨by rw[hr,show tH x y=-1 from if_pos (of_decide_eq_true a)];rfl,rfl⟩
 .go_ret
  have a:Op.bytesLess x y=false:=Ab;have b:(!x == y)=true:=Ab;rw[blt_eq] at a;have hxy:x≠y:=fun e=>by rw[e] at b;simp at b
  have hlt:y<x:=by
   rcases pN x y with h|h|h
   .exact absurd h (of_decide_eq_false a)
   .exact absurd h hxy
   .exact h
  exact⟨by rw[hr,show tH x y=1 from (if_neg (of_decide_eq_false a)).trans (if_pos hlt)];rfl,rfl⟩
 .go_ret
  have a:Op.bytesLess x y=false:=Ab;have b:(!x == y)=false:=Ab;rw[blt_eq] at a;have hxy:x=y:=by simpa using b
  subst hxy;exact⟨by rw[hr,show tH x x=0 from (if_neg (of_decide_eq_false a)).trans (if_neg (of_decide_eq_false a))];rfl,rfl⟩
def aEz(t:Fac):List Value:=fcv t
def cfF(t u:Fac):Int:=tH t.1 u.1
theorem bAt(x y:Fac)(W:World):Calls Tryz.prog 230 #[.agg (aEz x).toArray,.agg (aEz y).toArray] W fun e w'=>e=.returned (.int .i64 (cfF x y))/\∃q os',w'=Sort.grow (W.drewN q) os':=by
 have hcon:=fun W'=>bAs x.1 y.1 W'
 unfold aEz fcv cfF
 generalize tH x.1 y.1=r at hcon ⊢
 go_enter Tryz.func230,Tryz.ntmps230
 go_wp2_with (go_at_call 231;refine (hcon _).mono ?_;rintro e w' ⟨rfl,rfl⟩)
 go_ret
 exact⟨rfl,0,_,by rw[Sort.alloc_eq_grow,Sort.alloc_eq_grow,Sort.grow_grow];rfl⟩
theorem yC(x y:Fac):ltOf cfF x y=decide (x.1<y.1):=by
 unfold ltOf cfF tH;by_cases h1:x.1<y.1
 .rw[if_pos h1,decide_eq_true h1];rfl
 .rw[if_neg h1,decide_eq_false h1]
  split<;>rfl
theorem bC0:Sort.SWO (ltOf cfF) where
 irrefl x:=by rw[yC];exact decide_eq_false (bGo _)
 trans x y z h1 h2:=by
  rw[yC] at *;exact decide_eq_true (bHr (of_decide_eq_true h1) (of_decide_eq_true h2))
 ntrans x y z h1 h2:=by
  rw[yC] at *;refine decide_eq_false fun h3=>?_
  have h1:=of_decide_eq_false h1;have h2:=of_decide_eq_false h2;rcases pN x.1 y.1 with e|e|e
  .exact h1 e
  .rw[e] at h3;exact h2 h3
  .exact h2 (bHr e h3)
theorem aHr(l:Mon):Sort.flatK aEz 2 l.toArray=(fcs l).toArray:=by
 refine Sort.ext_get! (by rw[Sort.size_flatK];simp[gQ]) fun t ht=>?_
 rw[Sort.size_flatK] at ht;have ht':t<l.length*2:=by simpa using ht
 rw[Sort.get_flatK _ _ _ _ ht];have hd:t / 2<l.length:=Aa;have hm:t%2<2:=bE3 _ Ad;have hg:l[t / 2]?=some l[t / 2]:=bC8 hd;have h1:=aLp hg (t%2) hm;rw[show t / 2*2+t%2=t by omega] at h1
 have hb:t<(fcs l).length:=by rw[gQ];exact ht'
 have e1:l.toArray[t / 2]! =l[t / 2]:=by rw[getElem!_pos _ _ (by simpa using hd)];simp
 rw[e1,getElem!_pos (fcs l).toArray t (by simpa using hb)];rw[bC8 hb] at h1;have h2:(fcv l[t / 2])[t%2]! =(fcs l)[t]:=by
  rw[getElem!_def,<-h1]
 rw[show aEz l[t / 2]=fcv l[t / 2] from rfl,h2];simp
def bAu(bp:Nat)(zs:List Value)(l:Mon):Nat × Obj:=(bp,.cells (fcs l++zs).toArray 96 (0,0))
theorem aOx(a b zs:List Value)(h:a.length=b.length):Sort.putCells id 0 b.toArray (a++zs).toArray=(b++zs).toArray:=by
 unfold Sort.putCells;apply Array.toList_inj.1;refine bGr fun i=>?_
 simp only[bDw,true_and,bDu,Nat.sub_zero,id,bE6];rw[Array.getElem?_toList,Array.getElem?_mapIdx,bD1];by_cases hi:i<b.length
 .rw[bDi Aa,bDi hi,bC8 Aa,bC8 hi,bGq,if_pos hi];rw[getElem!_pos _ _ (by simpa using hi)];simp
 .rw[bDs Aa,bDs Aa,h];cases zs[i-b.length]? with
  | none=>rfl
  | some v=>rw[bGq,if_neg hi]
theorem aTt(h:aA)(bp cap:Nat)(zs:List Value)(l:Mon)(hb:l.length<=1099511627776):
  Vc.Fn T F.q229 [.slice (some ⟨bp,0,none⟩) l.length cap,.func (.func F.q230) #[] #[]] h [bAu bp zs l] fun v h' L'=>h'=h/\∃l':Mon,l'.Perm l/\(l'.Pairwise fun s t=>¬t.1<s.1)/\L'=[bAu bp zs l']:=by
 intro w s;have hrow:w.heap[bp]?=some (.cells (fcs l++zs).toArray 96 (0,0)):=s.own (bAu bp zs l) (bDk.2 rfl);have hlt:=(Array.getElem?_eq_some_iff.1 hrow).1;have hH:Sort.HoldsK aEz 2 w bp 0 l.toArray:=by
  unfold Sort.HoldsK;rw[aHr];intro j hj;have hj':j<(fcs l).length:=by simpa using hj
  refine⟨?_,by simp[World.frozen?,hrow]⟩
  simp only[World.cell?,hrow,bDu];rw[getElem!_pos (fcs l).toArray j (by simpa using hj')];simp[hj',bDi]
 have hcon:=AnyQ.slices_SortFunc Tryz.sortFL 2 (fun _=>by kernel_rfl) (fun _=>by kernel_rfl) aEz (fun _=>rfl) (fun x v hv=>by
     simp only[aEz,fcv,bDp,bFy,or_false] at hv;rcases hv with rfl|rfl<;>rfl) cfF bC0 230 #[] bp 0 cap l.toArray w
  (fun args w=>ok.fn 230 rfl args w) (fun _ _ _ _ x y=>bAt x y _) hH hlt Aq
 change Calls Tryz.prog 229 _ _ _ at hcon
 have hsz:l.toArray.size=l.length:=by simp
 rw[hsz] at hcon;refine hcon.mono fun e w' he=>?_
 obtain⟨rfl,d',n,os,hp,hs,rfl⟩:=he;obtain⟨p1,-,p3⟩:=hp;obtain⟨l',rfl⟩:∃l':Mon,d'=l'.toArray:=⟨d'.toList,by simp⟩
 have hlen:l'.length=l.length:=by simpa using p1
 have hperm:l'.Perm l:=by
  rw[show (l'.toArray.extract 0 l.length).toList=l' from by simp[<-hlen],show (l.toArray.extract 0 l.length).toList=l from by simp] at p3
  exact p3
 have hu:Upd (Sort.ahead w n) bp (.cells (fcs l'++zs).toArray 96 (0,0)) (Sort.putRowK aEz 2 (Sort.ahead w n) bp 0 l'.toArray):=by
  unfold Sort.putRowK Sort.putRow;rw[aHr];refine⟨?_,fun x hx=>?_,by simp[Sort.mapBlock],rfl,rfl,rfl,rfl⟩
  .show ((Sort.ahead w n).heap.modify bp _)[bp]?=_
   rw[Array.getElem?_modify,if_pos rfl];show Option.map _ w.heap[bp]?=_;rw[hrow];show some (Obj.cells (Sort.putCells id 0 (fcs l').toArray (fcs l++zs).toArray) _ _)=_;rw[aOx _ _ _ (by rw[gQ,gQ,hlen])]
  .show ((Sort.ahead w n).heap.modify bp _)[x]?=_
   rw[Array.getElem?_modify,if_neg (Ne.symm hx)]
 have i1:=(((Inv.init s).ahead n).upd (n:=0) rfl hu).grow os;refine⟨h,_,i1,rfl,l',hperm,?_,rfl⟩;rw[List.pairwise_iff_getElem];intro i j hi hj hij;have:=hs i j (bDw _) hij (by rw[<-hlen];exact hj);rw[yC] at this;have:=of_decide_eq_false this;rw[getElem!_pos l'.toArray i (by simpa using hi),getElem!_pos l'.toArray j (by simpa using hj)] at this
 simpa using this
theorem aOy(h:aA)(f:Value):Fn0 T F.q229 [.slice none 0 0,f] h fun v h'=>h'=h:=by
 refine Fn0.make fun w s=>?_
 have hcon:=AnyF.slices_SortFunc_none Tryz.sortFL none 0 f w
 change Calls Tryz.prog 229 _ _ _ at hcon
 refine hcon.mono fun e w' he=>?_
 obtain⟨rfl,rfl⟩:=he;exact⟨h,[],Inv.init s,rfl,rfl⟩
end Go.Proofs.Y
/- Products of factors, as the program forms them. -/
namespace Go.Vc
open Go Go.Dig
theorem aTu(A J:Vc.Own)(x:Nat × Obj):x∈A++(J++[x]):=bD0 _ (bD0 _ (bDk.2 rfl))
theorem aXg(a b:Mon):fcs (a++b)=fcs a++fcs b:=List.flatMap_append
theorem aTv(x:List UInt8):txt ([49,32,47,32]++x.map UInt8.toNat)=⟨(iL++x).toArray⟩:=by
 rw[vE];unfold iL;rw[bDl];rfl
theorem aTw(x:List UInt8)(a b:Nat):(⟨x.toArray⟩:ByteArray).extract a b=⟨((x.take b).drop a).toArray⟩:=by
 rw[vE,eZ,vE,List.map_drop,List.map_take]
theorem aMd(x:List UInt8):(⟨x.toArray⟩:ByteArray).size=x.length:=by simp[ByteArray.size]
theorem Cut.b8{p q z:Int}{k:Nat->Nat->Nat->Prop}(x:List UInt8)(a b:Nat)(hp:p=a)(hq:q=b)(hz:z=(⟨x.toArray⟩:ByteArray).size)(h1:a<=b)(h2:b<=x.length)(hk:k a b (⟨x.toArray⟩:ByteArray).size):Cut p q z k:=
 ⟨a,b,_,hp,hq,hz,h1,by rw[aMd];exact h2,hk⟩
theorem Cat.four{x:List UInt8}{lit:ByteArray}{k:ByteArray->Prop}(hlit:lit=⟨#[49,32,47,32]⟩)(hl:x.length<=1000000)(hk:k ⟨(iL++x).toArray⟩):Cat lit ⟨x.toArray⟩ k:=by
 subst hlit;rw[vE x];exact Cat.txt (a:=[49,32,47,32]) (b:=x.map UInt8.toNat) rfl rfl (by rw[bDt];show 4+_<=_;omega) (by rw[aTv];exact hk)
theorem aE.fac{e:TypeId}{v:Value}{n:Nat}{out:Mon}{L:Vc.Own}{x:List UInt8}{X:Int}(m:Nat)(g:aE e 2 v (n+1) (fcs out++[.string ⟨x.toArray⟩,.int .i64 X]) L)(h:X=(m:Nat)):aE e 2 v (n+1) (fcs (out++[(x,m)])) L:=by
 subst h;rw[aXg];exact g
theorem aE.app{e:TypeId}{size n:Nat}{v:Value}{xs:List Value}{F:Vc.Own}(tl:Vc.Own)(g:aE e size v n xs F):aE e size v n xs (F++tl):=
 ⟨g.1,match g.2 with
   | .inl e=>.inl e
   | .inr ⟨i,b,cap,zs,h1,h2,h3,h4⟩=>.inr ⟨i,b,cap,zs,h1,by rw[bDi (bC9.1 h2).1];exact h2,h3,h4⟩⟩
theorem Has.twoC{h:aA}{b:Nat}{u v:Value}{T:TypeId}{fz:Nat × Nat}(L:Vc.Own)(j:Nat)(hj:j < [u,v].length):Has h ((b,.cells [u,v].toArray T fz)::L) ((⟨b,0,none⟩:Addr).add j) ([u,v].getD j undef):=by
 rw[bB];refine⟨rfl,_,_,_,.inr (bDe),?_⟩
 match j,hj with
 | 0,_=>rfl
 | 1,_=>rfl
end Go.Vc
namespace Go.Proofs.Y
open Go Go.Vc Go.Dig
theorem zI(w:World):(zeroValue 3).run T.prog w=.ok (.int .i64 0) w:=by kernel_rfl
theorem bAv(h:aA)(x:List UInt8):Fn0 T F.q27 [.string ⟨x.toArray⟩] h fun v h'=>v=.bool (dec (nmA x)):=by
 rw[vE];exact pL h _ (bAr x)
theorem aTx{h:aA}{L:Vc.Own}{k:Value->aA->Vc.Own->Prop}{v:Value}{n:Nat}{out:Mon}(g:aE Ty.api_Factor 2 v n (fcs out) L)(hn:n=out.length)(hb:n<=1000000)
  (hk:∀v2 (out':Mon) L',aE Ty.api_Factor 2 v n (fcs out') L'->out'.Perm out->(out'.Pairwise fun s t=>¬t.1<s.1)->k v2 h L'):CN T F.q229 [v,.func (.func F.q230) #[] #[]] h L k:=by
 obtain⟨gl,⟨rfl,rfl⟩|⟨i,b,cap,zs,rfl,hi,hc,hlen⟩⟩:=g
 .have e:out=[]:=bD7.1 hn.symm;subst e;exact CN.f rfl (aOy h _) fun v h' hl hr=>by subst hr;exact hk _ [] L (aE.nil _ _ _) (.refl _) List.Pairwise.nil
 .subst hn;have hil:=(bC9.1 hi).1;refine CN.own i hi rfl (aTt h b cap zs out Aa) fun v h' La hl hr=>?_
  obtain⟨rfl,l',p,o,rfl⟩:=hr;exact⟨_,rfl,hk _ l' _ ⟨by rw[gQ,p.length_eq],.inr ⟨i,b,cap,zs,rfl,bEy hil,hc,by rw[bC6] at hlen ⊢;rw[gQ] at hlen ⊢;rw[p.length_eq];exact hlen⟩⟩ p o⟩
attribute [local irreducible] Vc.Fn FnP
theorem aOz(h:aA)(s1 s2:Sl)(a b:Mon)(w1:Rw h s1 2 (fcs a))(w2:Rw h s2 2 (fcs b))(hl:a.length+b.length<=1000000)(he:∀t∈a++b,t.2<=1000/\t.1.length<=4000):
  Fn0 T F.q199 [s1.val,s2.val] h fun v h'=>∃s:Sl,v=s.val/\Rw h' s 2 (fcs (jn a b)):=by
 have c1:=bAv;have hexp:∀s,cf (a++b) s<=1000000000:=fun s=>by
  have:=bCe (M:=1000) (fun t ht=>(he t ht).1) s
  rw[bC6] at this;have h2:(a.length+b.length)*1000<=1000000*1000:=bDq _ hl;omega
 refine f0C ok D.q199 rfl ?_;conv=>whnf
 repeat' ((first|(show Ext _ _ _ _ _ _ _;refine Ext.makeMap (fun _=>?_))|((first|apply oI.z|apply cI.z))|intro (_:Nat))<;>conv=>whnf)
 rename_i bm bs;refine LpN.keep0 fun h1 hl1 hb1=>?_
 have sel:∀j:Nat,j<2->∃(c q:Mon) (sc:Sl),[s1.val,s2.val].toArray[j]?=some sc.val/\Rw h1 sc 2 (fcs c)/\(∀t∈c,t.2<=1000/\t.1.length<=4000)/\c.length<=1000000/\(([a,b].take j).flatten=q)/\([a,b].take (j+1)).flatten=q++c/\q.length+c.length<=1000000/\∀s,cf (q++c) s<=1000000000:=fun j hj=>by
  match j,hj with
  | 0,_=>exact⟨a,[],s1,rfl,w1.mono hl1,fun t ht=>he t (bDz _ ht),Aa,rfl,by simp,by simp;omega,fun s=>by
      rw[bEm];exact bDv (by rw[jK];omega) (hexp s)⟩
  | 1,_=>exact⟨b,a,s2,rfl,w2.mono hl1,fun t ht=>he t (bD0 _ ht),Aa,by simp,by simp,Aa,hexp⟩
 refine LpN.of (fun r ρ hx L=>∃(j:Nat) (J:Vc.Own) (l:Mon),r=2-j/\hx=h1/\j<=2/\rd ρ 18=.int .i64 j/\L=J++[(bm,qL l)]/\Hq (pY l)/\Hq (∀s,cf l s=cf ([a,b].take j).flatten s)/\l.length<=([a,b].take j).flatten.length/\Hq (∀t∈l,t.1.length<=4000)) 2
  ⟨0,[],[],rfl,rfl,Ad,rfl,rfl,⟨bHz⟩,⟨fun s=>rfl⟩,bDx _,⟨fun t ht=>by cases ht⟩⟩ ?_
 conv=>whnf
 repeat intro _
 rename_i r h2 L2 hI;obtain⟨j,J,l,rfl,rfl,hj,e18,rfl,⟨hk⟩,⟨hc⟩,hll,⟨hat⟩⟩:=hI;conv at e18=>lhs;whnf
 subst e18;by_cases hj2:j=2
 .have e2:([a,b].take j).flatten=a++b:=by rw[hj2];simp
  rw[e2] at hc hll;rw[bC6] at hll;have hcl:∀s,cf l s<=1000000000:=fun s=>by rw[hc];exact hexp s
  clear sel hb1;conv=>whnf
  repeat' ((first|(show Ext _ _ _ _ _ _ _;refine Ext.rangeM (aTu [] J _) rfl (fun _=>?_))|((first|apply oI.z|apply cI.z))|(apply aB<;>intro _<;>try (exfalso;omega)))<;>conv=>whnf)
  rename_i rb;refine LpN.keepTl fun h3 hl3 hb3=>?_
  refine LpN.of (fun r ρ hx L=>∃(S:List Nat) (F:Vc.Own) (v:Value),r=l.length-S.length/\h3.le hx/\L=F++[(rb,itO bm l S)]/\rd ρ 10=v/\aE Ty.api_Factor 2 v (cnL l (aAx l S)).length (fcs (cnL l (aAx l S))) F/\S.length<=l.length/\Hq S.Nodup/\Hq (∀i∈S,i<l.length)) l.length
   ⟨[],[],_,rfl,aA.lr _,rfl,rfl,aE.nil _ _ _,bDw _,⟨bHz⟩,⟨fun i hi=>by cases hi⟩⟩ ?_
  conv=>whnf
  repeat intro _
  rename_i r4 h4 L4 hI;obtain⟨S,F,v,rfl,hle,rfl,e10,g,hSl,⟨hSn⟩,⟨hSm⟩⟩:=hI;conv at e10=>lhs;whnf
  subst e10;have hb4:=hle _ _ hb3;have hol:(cnL l (aAx l S)).length<=1000000:=bDv (aW6 _ _) (by unfold aAx;rw[bDt];omega);obtain⟨out,hout⟩:=AB (cnL l (aAx l S));rw[<-hout] at g hol;conv=>whnf
  repeat' first|((first|(apply aQ.go)|refine aTx (g.app _) rfl hol (fun v2 out' L' g' p' o'=>?_)|((first|apply oI.z|apply cI.z)))<;>conv=>whnf)|(show Ext _ _ _ _ _ _ _;(first|(refine Ext.nextM hb4 (fun ha=>?_) (fun i x e hit hiS=>?_))|(refine Ext.entM hb4 hit ?_))<;>conv=>whnf)
  .have hp:out'.Perm (cnL l l):=p'.trans (by rw[hout];exact aTh (aOk hSn hSm ha))
   rw[<-aW7 hk hc hp o'];exact RN.growR (size:=2) Ad g' fun h' s hl e w=>⟨s,e,w⟩
  .have hbx:∀hx,h3.le hx->hx bm=some (qL l):=fun hx hl=>hl _ _ hb3
   have hsz:=aMd x;have r1:nmA x->rv l x=cf l (iL++x):=fun a=>by unfold rv inv;rw[if_pos a]
   have r2:¬nmA x->4<x.length->x.take 4=iL->nmA (x.drop 4)->rv l x=cf l (x.drop 4):=fun a b c d=>by unfold rv inv;rw[if_neg a,if_pos ⟨b,c,d⟩]
   have r3:¬nmA x->¬(4<x.length/\x.take 4=iL/\nmA (x.drop 4))->rv l x=0:=fun a b=>by unfold rv inv;rw[if_neg a,if_neg b]
   have hxe:e<=1000000000:=by
    have h:=hcl x;rw[show cf l x=e from aJy hk hit] at h;exact h
   have hcl1:=hcl (iL++x);have hcl2:=hcl (x.drop 4);have hxl:x.length<=1000000:=bDv (hat _ (bDc hit)) Ad;have hS1:(S++[i]).length=S.length+1:=by rw[bC6];rfl
   have hil:i<l.length:=(bC9.1 hit).1;have hSn':=aJz hSn hiS;have hSm':∀i'∈S++[i],i'<l.length:=fun i' hi'=>(bDf.1 hi').elim (hSm i') fun h=>by rw[bDk.1 h];exact hil
   have hlen1:=aW9 hSn' hSm';rw[hS1] at hlen1;have e1:∀n,cnF l (x,e)=n->n≠0->out++[(x,n)]=cnL l (aAx l (S++[i])):=fun n h1 h2=>by rw[aCr hit,aHi,h1,if_neg h2,hout]
   have e2:cnF l (x,e)=0->out=cnL l (aAx l (S++[i])):=fun h1=>by rw[aCr hit,aHi,h1,if_pos rfl,bDg,hout]
   have hcnF:cnF l (x,e)=e-min e (rv l x):=rfl;obtain⟨N,hN⟩:=AB (cnF l (x,e));rw[<-hN] at e1 e2 hcnF;replace r1:nmA x->N=e-min e (cf l (iL++x)):=fun a=>by rw[hcnF,r1 a]
   replace r2:¬nmA x->4<x.length->x.take 4=iL->nmA (x.drop 4)->N=e-min e (cf l (x.drop 4)):=fun a b c d=>by rw[hcnF,r2 a b c d]
   replace r3:¬nmA x->¬(4<x.length/\x.take 4=iL/\nmA (x.drop 4))->N=e:=fun a b=>by rw[hcnF,r3 a b];omega
   obtain⟨A1,hA1⟩:=AB (cf l (iL++x));obtain⟨A2,hA2⟩:=AB (cf l (x.drop 4));rw[<-hA1] at r1 hcl1;rw[<-hA2] at r2 hcl2;have hm1:=aIm e A1;have hm2:=aIm e A2;clear hN hcnF hout hit;conv=>whnf
   repeat' first|((first|(show CN _ _ _ _ _ _;(refine CN.f rfl (c1 _ _) (fun v h' hl hr=>?_);subst hr))|(show Cat _ _ _;refine Cat.four rfl hxl ?_)|(show Ext _ _ _ _ _ _ _;first|(refine Ext.mapLook (iL++x) (.inr (hbx _ Ac)) rfl rfl zI hk rfl ?_;rw[<-hA1])|(refine Ext.mapLook (x.drop 4) (.inr (hbx _ Ac)) rfl rfl zI hk rfl ?_;rw[<-hA2]))|(show Cut _ _ _ _;first|(refine Cut.b8 x 0 4 rfl rfl rfl Ad Aa ?_;rw[aTw,bE5])|(refine Cut.b8 x 4 x.length rfl Aa rfl Aa Aa ?_;rw[aTw,bDm]))|(show App _ _ _ _ _ _ _ _ _;refine App.growA (A:=[_]) (F:=F) (size:=2) (bytes:=24) (z:=[.string ByteArray.empty,.int .i64 0]) rfl rfl g ⟨_,0,none⟩ 1 1 [_,_] rfl (Has.twoC _) rfl Ad Aa Aa Ad (fun v' F' g' _=>?_))|((first|apply oI.z|apply cI.z))|intro (_:Nat)|refine WN.i64 Aa Aa ?_)<;>conv=>whnf)|(show cnd _ _ _;first|(refine aY9 (x:=x.take 4) (y:=iL) (fun h4=>?_) (fun h4=>?_)<;>(conv=>whnf))|((first|apply aB|apply aW)<;>intro _<;>first|(exfalso;omega)|conv=>whnf))
   all_goals first
    | (have hN:=r1 Ab
       exact⟨rfl,l.length-(S.length+1),Aa,S++[i],F',_,by rw[hS1],Ac,rfl,rfl,by rw[<-e1 N rfl Aa,bC6];exact aE.fac N (X:=(e:Int)-mm false (e:Int) (A1:Int)) g' Aa,by rw[hS1];exact hlen1,⟨hSn'⟩,⟨hSm'⟩⟩)
    | (have hN:=r1 Ab
       exact⟨rfl,l.length-(S.length+1),Aa,S++[i],F,_,by rw[hS1],Ac,rfl,rfl,by rw[<-e2 Aa];exact g,by rw[hS1];exact hlen1,⟨hSn'⟩,⟨hSm'⟩⟩)
    | (have hN:=r2 Ab Aa Ab Ab
       exact⟨rfl,l.length-(S.length+1),Aa,S++[i],F',_,by rw[hS1],Ac,rfl,rfl,by rw[<-e1 N rfl Aa,bC6];exact aE.fac N (X:=(e:Int)-mm false (e:Int) (A2:Int)) g' Aa,by rw[hS1];exact hlen1,⟨hSn'⟩,⟨hSm'⟩⟩)
    | (have hN:=r2 Ab Aa Ab Ab
       exact⟨rfl,l.length-(S.length+1),Aa,S++[i],F,_,by rw[hS1],Ac,rfl,rfl,by rw[<-e2 Aa];exact g,by rw[hS1];exact hlen1,⟨hSn'⟩,⟨hSm'⟩⟩)
    | (have hN:=r3 Ab (fun z=>by first|exact absurd z.2.1 Ab|exact absurd z.2.2 Ab|(have:=z.1;omega))
       exact⟨rfl,l.length-(S.length+1),Aa,S++[i],F',_,by rw[hS1],Ac,rfl,rfl,by rw[<-e1 N rfl Aa,bC6];exact aE.fac N (X:=(e:Int)) g' Aa,by rw[hS1];exact hlen1,⟨hSn'⟩,⟨hSm'⟩⟩)
    | (have hN:=r3 Ab (fun z=>by first|exact absurd z.2.1 Ab|exact absurd z.2.2 Ab|(have:=z.1;omega))
       exact⟨rfl,l.length-(S.length+1),Aa,S++[i],F,_,by rw[hS1],Ac,rfl,rfl,by rw[<-e2 Aa];exact g,by rw[hS1];exact hlen1,⟨hSn'⟩,⟨hSm'⟩⟩)
 .obtain⟨c,q,sc,e1,wc,hcb,hcl,e2,e3,hqc,hcf⟩:=sel j Aa;rw[e2] at hc hll;have hcl2:sc.l=c.length:=by have:=wc.len;rw[gQ] at this;omega
  conv=>whnf
  repeat' ((first|(show Idx _ _ _ _ _;refine Idx.one j rfl Aa Aa ?_)|(show Ld _ _ _ _;(refine Ld.of (Has.imm hb1 (by rw[bDu];exact e1)) ?_))|((first|apply oI.z|apply cI.z))|(apply aB<;>intro _<;>try (exfalso;omega)))<;>conv=>whnf)
  refine LpN.of (fun r ρ hx L=>∃(i:Nat) (J:Vc.Own) (l:Mon),r=c.length-i/\hx=h2/\i<=c.length/\rd ρ 24=.int .i64 i/\L=J++[(bm,qL l)]/\Hq (pY l)/\Hq (∀s,cf l s=cf (q++c.take i) s)/\l.length<=q.length+i/\Hq (∀t∈l,t.1.length<=4000)) c.length
   ⟨0,J,l,rfl,rfl,bDw _,rfl,rfl,⟨hk⟩,⟨fun s=>by rw[hc,bFa,bDg]⟩,hll,⟨hat⟩⟩ ?_
  clear hk hc hll hat;conv=>whnf
  repeat intro _
  rename_i r3 h3 L3 hI;obtain⟨i,J,l,rfl,rfl,hi,e24,rfl,⟨hk⟩,⟨hc⟩,hll,⟨hat⟩⟩:=hI;conv at e24=>lhs;whnf
  subst e24;by_cases hic:i=c.length
  .rw[hic,bDm] at hc;obtain⟨N,hN⟩:=AB c.length;rw[<-hN] at hic hcl2 ⊢;conv=>whnf
   repeat' ((first|((first|apply oI.z|apply cI.z))|refine WN.i64 Aa Aa ?_|(apply aB<;>intro _<;>try (exfalso;omega)))<;>conv=>whnf)
   exact⟨rfl,2-(j+1),Aa,j+1,J,l,rfl,rfl,Aa,vi Aa,rfl,⟨hk⟩,⟨fun s=>by rw[e3];exact hc s⟩,by rw[e3,bC6];omega,⟨hat⟩⟩
  .obtain⟨t,ht⟩:∃t,c[i]?=some t:=⟨_,bC8 Aa⟩
   have hs:=bD ht;have hxb:=(hcb t (bDc ht)).2;have hle:cf l t.1+t.2<=1000000000:=by
    refine bDv ?_ (hcf t.1);have h5:cf (q++c) t.1=cf (q++c.take (i+1)) t.1+cf (c.drop (i+1)) t.1:=by
     rw[<-jK,bDb,bDo]
    have h6:cf (q++c.take (i+1)) t.1=cf l t.1+t.2:=by
     rw[hs,<-bDb,jK,<-hc,aO,if_pos rfl,kB,bEh]
    omega
   obtain⟨x,e⟩:=t;dsimp only at hle;have hadd:=fun i' hi'=>bAg (i:=i') (x:=x) e hk hi'
   have hel:=bAi l x;conv=>whnf
   repeat' ((first|(show Idx _ _ _ _ _;refine Idx.fac wc i _ Aa ht (fun bk off k0 k1=>?_))|(show LdN _ _ _ _ _;refine LdN.two (k0 _) (k1 _) ?_)|(show Ext _ _ _ _ _ _ _;first|refine Ext.mapLook x (.inl (aTu [_] J _)) rfl rfl zI hk rfl ?_|refine Ext.mapUp (J:=_::J) (cf l x+e) rfl rfl hk Aa (fun i' hi'=>?_))|((first|apply oI.z|apply cI.z))|intro (_:Nat)|refine WN.i64 Aa Aa ?_|refine Ld.o 0 rfl rfl ?_|refine Sto.l 0 rfl rfl rfl ?_|(apply aB<;>intro _<;>try (exfalso;omega)))<;>conv=>whnf)
   exact⟨rfl,c.length-(i+1),Aa,i+1,_::J,_,rfl,rfl,Aa,vi Aa,rfl,⟨(hadd i' hi').1⟩,⟨fun s=>by
     rw[(hadd i' hi').2,hc,hs,<-bDb,jK (a:=q++c.take i),aO,kB];show _+(if x=s then e else 0)=_+(if x=s then e+0 else 0)
     rw[bEh]⟩,by rw[bFu];show (etF l x).length<=_;omega,⟨bAh (P:=fun s=>s.length<=4000) hat hxb⟩⟩
end Go.Proofs.Y