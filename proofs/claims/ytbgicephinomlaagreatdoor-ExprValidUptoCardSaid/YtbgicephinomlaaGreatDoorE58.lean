/- The names of a tree's variables in ascending order: the program's side. -/
import Derived.Test.YtbgicephinomlaaGreatDoorE57
import Derived.Test.YtbgicephinomlaaGreatDoorIt
import Derived.Maps.OwnIn
import Derived.WalkSmall
import Derived.StringKeys
import Derived.Test.YtbgicephinomlaaGreatDoorE29
set_option linter.unusedVariables false
set_option linter.unusedSimpArgs false
namespace Go.Proofs.YtbgicephinomlaaGreatDoor
open Go Go.Vc Go.Dig Go.RowKit Go.Shelf Go.Maps Go.Sort
attribute [local go_sem] Oper.semAt_some
theorem keysM_in (mb:Option Nat) (W:World):CallsIn Fence.wide 5 Tryz.prog 54 #[.map mb] W fun e w'=>e=.returned (.func (.func 106) #[] #[.pointer (some ⟨W.heap.size,0,none⟩)])∧w'=W.alloc (.cells #[.map mb] 75):=
 AnyZ.keys_in Tryz.keysL Fence.wide 5 trivial rfl mb W
theorem sortsM (m:Nat):AnyZ.SortsIn Tryz.prog Tryz.sortedL_ren Fence.wide m:=
 ⟨fun blk off cap ss W hH hblk hsz=>callsIn_wide.2 (AnyM.slices_Sort_string Tryz.sortL blk off cap ss W hH hblk hsz),
  fun p cap W=>callsIn_wide.2 (AnyM.slices_Sort_string_none Tryz.sortL p cap W)⟩
set_option maxHeartbeats 1000000 in
theorem sortedM_in {H:Type} (b nn:Nat) (D0:DataW H) (R:Value→Option (DataW H × List MemPlace)) (w:World) (hown:w.ownsMap Tryz.prog 9 R b nn D0) (hmax:Maps.size D0≤maxLen) (hbytes:Maps.size D0*16≤140737488355328):
  CallsIn Fence.wide 5 Tryz.prog 53 #[.func (.func 106) #[] #[.pointer (some ⟨w.heap.size,0,none⟩)]] (w.alloc (.cells #[.map (some b)] 75)) fun e w'=>∃(v:Value) (ss:List (List UInt8)),e=.returned v∧ss.Perm (strKeys D0)∧
   w'.ownsRow (w.alloc (.cells #[.map (some b)] 75)).heap.size 9 1 v ss.length ((ss.mergeSort (fun x y=>decide (x≤y))).map encStr)∧(v=.slice none 0 0↔ss=[])∧Below (w.alloc (.cells #[.map (some b)] 75)).heap.size (w.alloc (.cells #[.map (some b)] 75)) w':=by
 have hbl:=hown.lt
 have hseq:SeqGives Fence.wide 2 Tryz.prog 106 #[.pointer (some ⟨w.heap.size,0,none⟩)] encStr (fun ss=>ss.Perm (strKeys D0)) (Maps.size D0) (w.alloc (.cells #[.map (some b)] 75)):=
  AnyZ.keys_gives (ρ:=Tryz.keysL_ren) { Tryz.keysL with } Fence.wide _ trivial rfl (by omega) w.heap.size b nn D0 _ (by simp) (by simp) (by
    obtain ⟨es,clock,hb,Ft,hs,hD⟩:=hown
    exact ⟨es,clock,(Below.heap_alloc _ _ b hbl).trans hb,Ft,hs,hD⟩)
 exact AnyZ.sorted_in Tryz.sortedL Fence.wide 5 trivial trivial trivial trivial rfl (by omega) (sortsM _) (enters_of Tryz.func105 (by kernel_rfl) rfl) 106 #[.pointer (some ⟨w.heap.size,0,none⟩)] trivial (enters_of Tryz.func106 (by kernel_rfl) rfl) _ _ hmax hbytes _ hseq
def VarD (xs:List (List UInt8)) (D:DataW Unit):Prop:=Maps.IsMap D∧∀x,Maps.has D (.string x)=true↔x∈xs
theorem VarD.nil:VarD [] (.map []):=⟨Maps.isMap_empty,fun x=>by simp [Maps.has]⟩
theorem VarD.put {xs:List (List UInt8)} {DD:DataW Unit} (h:VarD xs DD) (x:List UInt8) (d:DataW Unit):VarD (xs++[x]) (DD.put (.string x) d):=by
 refine ⟨h.1.put _ _,fun z=>?_⟩
 by_cases e:z=x
 ·subst e
  rw [Maps.has_put_same h.1 (k:=.string z) (show WideAt.IsKeyLit (.string z) from True.intro)];simp
 ·rw [Maps.has_put_other (fun h=>e (by cases h;rfl)),h.2 z];simp [e]
theorem srt_nodup:∀{xs:List (List UInt8)},Srt xs→xs.Nodup
 | [],_=>List.nodup_nil
 | y::ys,h=>List.nodup_cons.2 ⟨fun hm=>List.lt_irrefl y ((List.pairwise_cons.1 h).1 y hm),srt_nodup (List.pairwise_cons.1 h).2⟩
theorem srt_le:∀{xs:List (List UInt8)},Srt xs→xs.Pairwise fun a b=>leB a b=true
 | [],_=>List.Pairwise.nil
 | y::ys,h=>List.pairwise_cons.2 ⟨fun z hz=>decide_eq_true (List.le_of_lt ((List.pairwise_cons.1 h).1 z hz)),srt_le (List.pairwise_cons.1 h).2⟩
theorem srt_sort {xs:List (List UInt8)} (h:Srt xs):xs.mergeSort leB=xs:=List.mergeSort_of_pairwise (srt_le h)
theorem VarD.sorted {xs ss:List (List UInt8)} {D:DataW Unit} {P:Program} {k:TypeId} {R:Value→Option (DataW Unit × List MemPlace)} {W:World} {b n:Nat} (h:VarD xs D) (hown:W.ownsMap P k R b n D) (K:Keyed P k) (hk:P.underlying k=some .string)
  (hs:ss.Perm (strKeys D)):ss.mergeSort leB=xs.foldl putL []∧ss.length=(xs.foldl putL []).length:=by
 have hsr:Srt (xs.foldl putL []):=foldP_srt xs List.Pairwise.nil
 have hp:(xs.foldl putL []).Perm (strKeys D):=by
  obtain ⟨es,hD,hpw,_⟩:=hown.entries K
  obtain ⟨es',hD',hko⟩:=hown.keysOf
  obtain rfl:es=es':=by rw [hD] at hD';simpa using hD'
  subst hD
  exact perm_strKeys hpw (fun p hp=>by obtain ⟨v,hv⟩:=hko p hp;obtain ⟨x,_,hx,_⟩:=Maps.keyOf_str hk hv;exact ⟨x,hx⟩) (srt_nodup hsr) (fun x=>by rw [foldP_mem,h.2 x];simp)
 have hq:=hs.trans hp.symm
 exact ⟨by rw [mergeSort_of_perm hq,srt_sort hsr],hq.length_eq⟩
theorem valid_w (n:Nat) (t:Tr) (h:Heap) (tb:Tb h) (vs:List Value) (wE:IsE h vs t) (W:World) (s:Sat h [] W):CallsIn Fence.wide n Tryz.prog 25 #[.agg vs.toArray] W fun e W'=>e=.returned (.bool (dec (ValT t)))∧Below W.heap.size W W':=by
 refine callsIn_wide.2 (((Valid_ct t h vs tb wE).out W s).mono fun e W' he=>?_)
 cases e with
 | returned v=>
  obtain ⟨h',L',hi,hL,rfl⟩:=he
  exact ⟨rfl,hi.os,hi.tape,hi.output,hi.size,fun k hk=>hi.fr k hk (by simp)⟩
 | panicked c=>exact he.elim
 | outgrown=>exact he.elim
theorem sat_alloc {h:Heap} {w:World} (s:Sat h [] w) (o:Obj):Sat h [] (w.alloc o):=
 ⟨fun b x hb=>(Below.heap_alloc w o b (Array.getElem?_eq_some_iff.1 (s.imm b x hb)).1).trans (s.imm b x hb),by simp,by simp,by simp⟩
set_option maxRecDepth 100000 in
set_option maxHeartbeats 2000000 in
theorem vars_bad (t:Tr) (op arg:Int) (neg:Bool) (a b:Sl) (name:List Nat) (s:Sl) (h:Heap) (tb:Tb h) (w:World) (wE:IsE h [.int .i64 op,.int .i64 arg,.bool neg,a.val,b.val,.string (txt name),s.val] t) (hs:Sat h [] w) (hval:¬ValT t):
  CallsIn Fence.wide 6 Tryz.prog 21 #[.agg #[.int .i64 op,.int .i64 arg,.bool neg,a.val,b.val,.string (txt name),s.val]] w fun e W'=>Below w.heap.size w W'∧e=.returned (.tuple #[.slice none 0 0,.int .i64 40]):=by
 have hfV:Fence.wide.fn 25:=trivial
 have hV:=fun n W s'=>valid_w n t h tb _ wE W s'
 rw [dec_false hval] at hV
 obtain ⟨sa,sl,sc⟩:=a
 obtain ⟨ta,tl,tc⟩:=b
 obtain ⟨ka,kl,kc⟩:=s
 dsimp only [Sl.val] at hV ⊢
 refine callsIn_of_wp Tryz.func21 rfl trivial ?_ rfl
 simp only [Tryz.ntmps21,List.size_toArray,List.length_cons,List.length_nil,Nat.reduceAdd,Nat.reduceSub,Array.replicate_succ,Array.replicate_zero,List.push_toArray,List.append_toArray,List.nil_append,List.cons_append]
 gi_wp2_with (gi_at_call 25;refine (hV _ _ (sat_alloc hs _)).mono ?_;rintro e w' ⟨rfl,hb⟩)
 refine bodyPost_ret (results_tmp2 rfl _ _ _) rfl ?_
 exact ⟨((Below.refl _ w).alloc (Nat.le_refl _) _).trans (hb.mono (by simp)),rfl⟩
theorem keepC_below {w w':World} (b:Below w.heap.size w w'):KeepC w w':=⟨b.os,b.tape,b.output,b.size,fun k c T fz h=>(b.block k (Array.getElem?_eq_some_iff.1 h).1).trans h⟩
theorem cells_two {w w1:World} {c:Array Value} {t:TypeId} (hb:Below (w.alloc (.cells c t)).heap.size (w.alloc (.cells c t)) w1) (o o':Obj) (i:Nat) (v:Value) (h:c[i]?=some v):((w1.alloc o).alloc o').cell? ⟨w.heap.size,i,none⟩=some v:=by
 have h1:w1.heap[w.heap.size]?=some (.cells c t (0,0)):=(hb.block _ (by simp)).trans (World.alloc_heap_new w _)
 have h2:w.heap.size<w1.heap.size:=(Array.getElem?_eq_some_iff.1 h1).1
 have h3:((w1.alloc o).alloc o').heap[w.heap.size]?=some (.cells c t (0,0)):=(Below.heap_alloc _ _ _ (by simp;omega)).trans ((Below.heap_alloc _ _ _ h2).trans h1)
 simp [World.cell?,h3,h]
theorem keepC_map {H:Type} {W W2:World} {P:Program} {k:TypeId} {R:Value→Option (DataW H × List MemPlace)} {b n:Nat} {D:DataW H} (hg:W.grownBy W2 (some b)) (hD:W.ownsMap P k R b n D):KeepC W W2:=by
 refine ⟨hg.os,hg.tape,hg.output,hg.size,fun q c T fz h=>(hg.block q (Array.getElem?_eq_some_iff.1 h).1 (fun e=>?_)).trans h⟩
 obtain ⟨es,clock,hb,_⟩:=hD
 cases e
 rw [h] at hb;cases hb
theorem ownsMap_size {H:Type} {W:World} {P:Program} {k:TypeId} {R:Value→Option (DataW H × List MemPlace)} {b n:Nat} {D:DataW H} (hD:W.ownsMap P k R b n D):Maps.size D≤n:=by
 obtain ⟨es,clock,hb,F,hs,rfl⟩:=hD
 show (List.foldr DataW.insert [] _).length≤n
 rw [length_sorted];simpa using hs
theorem vard_cast {xs ys:List (List UInt8)} {D:DataW Unit} (e:ys=xs) (h:VarD xs D):VarD ys D:=e▸h
theorem varsL_snoc_t (pre:List NodeV) (x:NodeV) (h:x.op=2):varsL ((pre++[x]).map NodeV.tag)=varsL (pre.map NodeV.tag)++[b8 x.name]:=by
 rw [List.map_append,varsL_app]
 show _++varsL [(x.op,x.name)]=_
 rw [varsL_cons,if_pos h];rfl
theorem varsL_snoc_f (pre:List NodeV) (x:NodeV) (h:x.op≠2):varsL ((pre++[x]).map NodeV.tag)=varsL (pre.map NodeV.tag):=by
 rw [List.map_append,varsL_app]
 show _++varsL [(x.op,x.name)]=_
 rw [varsL_cons,if_neg h];exact List.append_nil _
set_option maxRecDepth 100000 in
set_option maxHeartbeats 2000000 in
theorem vars_in (t:Tr) (x:NodeV) (h:Heap) (tb:Tb h) (w:World) (wE:IsE h x.cells t) (s:Sat h [] w) (hval:ValT t):
  CallsIn Fence.wide 6 Tryz.prog 21 #[.agg x.cells.toArray] w fun e W'=>Below w.heap.size w W'∧∃v,e=.returned (.tuple #[v,.int .i64 0])∧W'.ownsRow w.heap.size 9 1 v (namesT t).length ((namesT t).map sv):=by
 have hfV:Fence.wide.fn 25:=trivial
 have hfN:Fence.wide.fn 52:=trivial
 have hfK:Fence.wide.fn 54:=trivial
 have hfS:Fence.wide.fn 53:=trivial
 have hV:=fun n W s'=>valid_w n t h tb x.cells wE W s'
 rw [dec_true hval] at hV
 have hst:=fun Bt=>nodes_stops Fence.wide rfl 5 trivial trivial rfl Bt 1 h t x
 have hmm:=@run_makeMap Tryz.prog
 obtain ⟨o1,a1,n1,⟨sa,sl,sc⟩,⟨ta,tl,tc⟩,nm1,⟨ka,kl,kc⟩,lt1⟩:=x
 dsimp only [NodeV.cells] at hst hV ⊢
 refine callsIn_of_wp_marks Tryz.func21 rfl trivial ?_ rfl
 simp only [Tryz.ntmps21,List.size_toArray,List.length_cons,List.length_nil,Nat.reduceAdd,Nat.reduceSub,Array.replicate_succ,Array.replicate_zero,List.push_toArray,List.append_toArray,List.nil_append,List.cons_append]
 gi_wp2_with (first
   | (gi_at_call 25;refine (hV _ _ (sat_alloc s _)).mono ?_;rintro e w1 ⟨rfl,hb1⟩;have kc:=cells_two hb1;have k0:=fun o o'=>kc o o' 0 _ rfl;have k1:=fun o o'=>kc o o' 1 _ rfl;have k2:=fun o o'=>kc o o' 2 _ rfl;have k3:=fun o o'=>kc o o' 3 _ rfl;have k4:=fun o o'=>kc o o' 4 _ rfl;have k5:=fun o o'=>kc o o' 5 _ rfl;have k6:=fun o o'=>kc o o' 6 _ rfl;clear kc)
   | (gi_at_call 52;refine (nodes_in Fence.wide _ trivial rfl _ _ _ _ _ _ _ _).mono ?_;rintro e w' ⟨rfl,rfl⟩))
 generalize hCE:Obj.cells #[Value.int IntKind.i64 o1,Value.int IntKind.i64 a1,Value.bool n1,Value.slice sa sl sc,Value.slice ta tl tc,Value.string (txt nm1),Value.slice ka kl kc] 27=CE at *
 clear k0 k1 k2 k3 k4 k5 k6 hmm hV hfV hfN
 have hB1:Below w.heap.size w w1:=((Below.refl _ w).alloc (Nat.le_refl _) _).trans (hb1.mono (by simp))
 have hK1:KeepC w w1:=keepC_below hB1
 have bN:=(Boxed.new (w1.alloc (.map #[] 0)) 75 (.map (some w1.heap.size))).alloc CE
 have oM:=((World.ownsMap_made (H:=Unit) w1 Tryz.prog 9 (plainElem Tryz.prog 4)).alloc (.cells #[Value.map (some w1.heap.size)] 75)).alloc CE
 have bE:=World.alloc_heap_new ((w1.alloc (.map #[] 0)).alloc (.cells #[Value.map (some w1.heap.size)] 75)) CE
 have hB0:Below w.heap.size w (((w1.alloc (.map #[] 0)).alloc (.cells #[Value.map (some w1.heap.size)] 75)).alloc CE):=((hB1.alloc hB1.size _).alloc (by simp;have:=hB1.size;omega) _).alloc (by simp;have:=hB1.size;omega) _
 have hK0:KeepC w (((w1.alloc (.map #[] 0)).alloc (.cells #[Value.map (some w1.heap.size)] 75)).alloc CE):=((hK1.trans (KeepC.alloc _ _)).trans (KeepC.alloc _ _)).trans (KeepC.alloc _ _)
 have hsz:(((w1.alloc (.map #[] 0)).alloc (.cells #[Value.map (some w1.heap.size)] 75)).alloc CE).heap.size=w1.heap.size+3:=by simp
 simp only [World.size_alloc] at bN bE
 have hw1:=hB1.size
 obtain ⟨W0,hW0⟩:∃W0,(((w1.alloc (.map #[] 0)).alloc (.cells #[Value.map (some w1.heap.size)] 75)).alloc CE)=W0:=⟨_,rfl⟩
 rw [hW0] at bN bE hB0 hK0 hsz oM ⊢
 obtain ⟨Bm,hBm⟩:∃Bm,Bm=w1.heap.size:=⟨_,rfl⟩
 rw [← hBm] at bN bE hsz oM hw1 ⊢
 clear hW0 hb1 hB1 hK1 hBm w1
 subst hCE
 refine wpIn_rangeFunc_ownH rfl (by decide) (gf:=102) (lb:=#[.pointer (some ⟨Bm+1+1,0,none⟩)]) rfl trivial (enters_of Tryz.func102 (by kernel_rfl) rfl)
  (hst _ W0 bE wE hval.1 ((sat_him s).keep hK0)) keepC_t (fun W l o o' hl hob hc _=>KeepC.putObj W l o o' hob hc) (Below.refl _ _) (fun _=>rfl)
  (fun pre W=>(Boxed W (Bm+1) 75 (.map (some Bm))∧Below w.heap.size w W)∧∃D,W.ownsMap Tryz.prog 9 (plainElem Tryz.prog 4) Bm pre.length D∧VarD (varsL (pre.map NodeV.tag)) D)
  (fun c pre W=>False)
  (OwnFrom.and (OwnFrom.and (Own.from (boxed_own _ _ (fun _=>_)) _) (ownFrom_below (Nat.le_refl _) (by omega))) (fun s X Y row hs hg hr=>by
    obtain ⟨D,h1,h2⟩:=hs
    exact ⟨D,h1.kept hg (fun e=>by have:=(hr _ e.symm).1;omega),h2⟩))
  (fun c=>fun _ _ _ _ hs _ _=>hs)
  ⟨⟨bN,hB0⟩,_,oM,VarD.nil⟩
  (fun x a' W=>∃Bx,Bm+1<Bx∧W.heap[Bx]?=some (Obj.cells x.cells.toArray 27 (0,0))∧a'={ tmps:=#[.agg #[Value.int IntKind.i64 o1,Value.int IntKind.i64 a1,Value.bool n1,Value.slice sa sl sc,Value.slice ta tl tc,Value.string (txt nm1),Value.slice ka kl kc],.pointer (some ⟨w.heap.size,0,none⟩),.slice none 0 0,.int .i64 0,.pointer (some ⟨Bm+1,0,none⟩),.pointer (some ⟨Bx,0,none⟩),.agg #[Value.int IntKind.i64 o1,Value.int IntKind.i64 a1,Value.bool n1,Value.slice sa sl sc,Value.slice ta tl tc,Value.string (txt nm1),Value.slice ka kl kc],.bool true,.bool false,.map (some Bm),.agg #[Value.int IntKind.i64 o1,Value.int IntKind.i64 a1,Value.bool n1,Value.slice sa sl sc,Value.slice ta tl tc,Value.string (txt nm1),Value.slice ka kl kc],.func (.func 102) #[] #[.pointer (some ⟨Bm+1+1,0,none⟩)],.agg x.cells.toArray,undef,undef,undef,undef,undef,undef,undef,undef,undef],defers:=[] })
  (fun x a' _ X Y row hs hg hr=>by obtain ⟨Bx,h1,h2,h3⟩:=hs;exact ⟨Bx,h1,cells_grown h2 hg (fun r e=>(hr r e).2),h3⟩)
  ?assign ?body ?done ?stop
 case assign=>
  rintro l pre ⟨o2,a2,n2,⟨sa2,sl2,sc2⟩,⟨ta2,tl2,tc2⟩,nm2,⟨ka2,kl2,kc2⟩,lt2⟩ W K ⟨⟨b1,hB1⟩,D,hD,hv⟩ hK
  dsimp only [NodeV.cells] at hK ⊢
  gi_wp2
  exact hK _ _ ((KeepsOthers.alloc _ _).from _) (KeepC.alloc _ _) ⟨⟨b1.alloc _,hB1.alloc hB1.size _⟩,D,hD.alloc _,hv⟩ ⟨W.heap.size,b1.lt,World.alloc_heap_new W _,rfl⟩
 case body=>
  rintro l pre ⟨o2,a2,n2,⟨sa2,sl2,sc2⟩,⟨ta2,tl2,tc2⟩,nm2,⟨ka2,kl2,kc2⟩,lt2⟩ a' W hl ⟨r,hr⟩ ⟨⟨b1,hB1⟩,D,hD,hv⟩ ⟨Bx,hBx,bX,rfl⟩ hlt
  have c1:=b1.cell
  have hc:∀(i:Nat) v,(NodeV.cells ⟨o2,a2,n2,⟨sa2,sl2,sc2⟩,⟨ta2,tl2,tc2⟩,nm2,⟨ka2,kl2,kc2⟩,lt2⟩)[i]?=some v→W.cell? ⟨Bx,i,none⟩=some v:=fun i v hv=>by simp [World.cell?,bX,hv]
  have k0:=hc 0 _ rfl
  have k3:=hc 5 _ rfl
  dsimp only at k0 k3
  dsimp only [NodeV.cells]
  have hmax:pre.length<maxLen:=by
   have h1:=hval.2
   have h2:(300:Nat)<maxLen:=by decide
   omega
  have hnm:(txt nm2).size≤maxLen:=by
   have h1:(txt nm2).size=nm2.length:=by unfold txt;simp [ByteArray.size]
   have:(8:Nat)≤maxLen:=by decide
   have:=lt2.2
   omega
  have hkey:=Go.WideMaps.keyOf_string_mk Tryz.underlying9 hnm
  gi_wp2_with (refine wpListIn_mapUpdate_own _ rfl _ _ _ 75 rfl 9 4 (string_keyed Tryz.underlying9) Tryz.underlying75 (plainElem Tryz.prog 4) Bm pre.length D rfl hD hmax _ _ _ rfl rfl hkey _ [] (plainElem_bool Tryz.underlying4 true) ?_;intro W2 hown2 hg2)
  ·rename_i h1
   have h2:o2=2:=eq_of_beq h1
   refine ⟨KeepsFrom.of_grownBy hg2 (fun j e=>by cases e;omega),keepC_map hg2 hD,⟨b1.kept hg2 (fun e=>by injection e with e;omega),hB1.grown hg2 hB1.size (fun k e=>by cases e;exact hw1)⟩,_,?_,hv.put (b8 nm2) (.lit (.bool true)) |> vard_cast (varsL_snoc_t pre _ h2)⟩
   rw [List.length_append]
   exact hown2
  ·rename_i h1
   have h2:o2≠2:=fun e=>by rw [e] at h1;cases h1
   exact ⟨(KeepsOthers.refl _).from _,KeepC.refl _,⟨b1,hB1⟩,D,by rw [List.length_append];exact hD.mono (by omega),vard_cast (varsL_snoc_f pre _ h2) hv⟩
 case done=>
  rintro Dd xs W hDd hxs ⟨⟨b1,hB1⟩,D,hD,hv⟩ hK
  have c1:=b1.cell
  rw [hxs] at hv
  have hlx:xs.length≤300:=by
   have h1:=congrArg List.length hxs
   rw [List.length_map,tagsT_len] at h1
   have:=hval.2
   omega
  have hsz2:=ownsMap_size hD
  have hmx:Maps.size D≤maxLen:=by
   have h2:(300:Nat)≤maxLen:=by decide
   omega
  have hS:=sortedM_in Bm xs.length D _ W hD hmx (by omega)
  have hKd:(W.alloc (.cells #[Value.map (some Bm)] 75)).heap[Dd]?=some (.deferred (some [])):=(Below.heap_alloc _ _ _ (Array.getElem?_eq_some_iff.1 hK).1).trans hK
  have hB2:Below w.heap.size w (W.alloc (.cells #[Value.map (some Bm)] 75)):=hB1.alloc hB1.size _
  gi_wp2_with (first
    | (gi_at_call 54;refine (keysM_in _ _).mono ?_;rintro e w' ⟨rfl,rfl⟩)
    | (gi_at_call 53;refine hS.mono ?_;rintro e w2 ⟨v,ss,rfl,hp,hrow,hnil,hb2⟩))
  have hKw:w2.heap[Dd]?=some (.deferred (some [])):=(hb2.block Dd (Array.getElem?_eq_some_iff.1 hKd).1).trans hKd
  have hlD:=(Array.getElem?_eq_some_iff.1 hK).1
  refine ⟨by simp,.inl ⟨_,_,rfl,run_takeDeferred hKw,?_⟩⟩
  obtain ⟨hs1,hs2⟩:=hv.sorted hD (string_keyed Tryz.underlying9) Tryz.underlying9 hp
  rw [show (ss.mergeSort fun x y=>decide (x≤y))=namesT t from hs1,show ss.length=(namesT t).length from hs2] at hrow
  refine ⟨.tuple #[v,.int .i64 0],by simp [results,Tryz.f21,go_sem],(hB2.trans (hb2.mono hB2.size)).trans (belowK_b (w:=w) (Nat.le_refl _) _ Dd _ _ (by omega) hKw rfl rfl),v,rfl,?_⟩
  obtain ⟨q1,⟨rfl,q2⟩ | ⟨g,cap,cur,rfl,hg,hh,q3,q4,q5,q6⟩⟩:=hrow
  ·exact ⟨q1,.inl ⟨rfl,q2⟩⟩
  ·have h8:=hB2.size
   have h9:W.heap.size≤(W.alloc (.cells #[Value.map (some Bm)] 75)).heap.size:=by simp
   exact ⟨q1,.inr ⟨g,cap,cur,rfl,by omega,((grownBy_putObj' w2 Dd (.deferred none)).block g (Array.getElem?_eq_some_iff.1 hh).1 (fun e=>by injection e with e;omega)).trans hh,q3,q4,q5,q6⟩⟩
 case stop=>
  rintro Dd c pre W hDd hpre hf hK
  exact hf.elim
end Go.Proofs.YtbgicephinomlaaGreatDoor
/- Valid's law: Valid, Size, Vars and Smooth on both sides agree. -/
namespace Go.Proofs.YtbgicephinomlaaGreatDoor
open Go Go.Vc Go.Dig
theorem Inv.belowPut {w w':World} {h:Heap} {g:Nat} {o:Obj} (s:Sat h [] w) (b:RowKit.Below w.heap.size w w') (hg:w.heap.size≤g) (ho:w'.heap[g]?=some o):Inv w h [] (h.put g o) [] w':=
 have hle:h.le (h.put g o):=fun x y e=>by
  have:=s.lt_imm e
  unfold Heap.put;rw [if_neg (by omega)];exact e
 { (Inv.below s b) with
   imm:=fun x y e=>by
     unfold Heap.put at e
     split at e
     ·rename_i hx;subst hx;cases e;exact ho
     ·exact (Inv.below s b).imm _ _ e
   sep:=by simp
   hle:=hle
   hnew:=fun x y e hx _=>by unfold Heap.put at e;rwa [if_neg (by omega)] at e }
def varE (t:Tr):Nat:=if ValT t then 0 else 40
def varN (t:Tr):List (List UInt8):=if ValT t then namesT t else []
theorem Vars_ct (t:Tr) (h:Heap) (vs:List Value) (tb:Tb h) (w:IsE h vs t):Fn0 T F.expr_Vars [.agg vs.toArray] h fun v h'=>∃s:Sl,v=.tuple #[s.val,.int .i64 (varE t)]∧Rw h' s 1 ((varN t).map sv):=by
 refine Fn0.make fun w0 s=>?_
 by_cases hv:ValT t
 ·have e1:varE t=0:=if_pos hv
  have e2:varN t=namesT t:=if_pos hv
  rw [e1,e2]
  obtain ⟨op,arg,neg,l,m,name,ks⟩:=t
  obtain ⟨x,rfl,-,-⟩:=w.nodeV hv.1
  refine ((callsIn_wide (n:=6)).1 (vars_in _ x h tb w0 w s hv)).mono fun e w' he=>?_
  obtain ⟨hb,v,rfl,hlen,⟨rfl,hn⟩ | ⟨g,cap,cur,rfl,hg,hh,hnc,hcm,hcs,hct⟩⟩:=he
  ·refine ⟨h,[],Inv.below s hb,rfl,⟨none,0,0⟩,rfl,⟨by rw [hlen,hn],Nat.le_refl _,fun hne=>?_⟩⟩
   exact absurd (List.eq_nil_of_length_eq_zero (by rw [hlen,hn])) hne
  ·refine ⟨h.put g (.cells cur 9 (0,0)),[],Inv.belowPut s hb hg hh,rfl,⟨some ⟨g,0,none⟩,_,cap⟩,rfl,⟨hlen.symm,hnc,fun _=>⟨g,0,cur,9,(0,0),rfl,by simp [Heap.put],fun i hi=>?_⟩⟩⟩
   rw [Nat.zero_add,← hct,List.getElem?_take,if_pos (by omega),Array.getElem?_toList]
 ·have e1:varE t=40:=if_neg hv
  have e2:varN t=[]:=if_neg hv
  rw [e1,e2]
  obtain ⟨op,arg,neg,l,m,name,ks⟩:=t
  obtain ⟨a1,b1,s1,rfl,-⟩:=w.isK
  refine ((callsIn_wide (n:=6)).1 (vars_bad _ _ _ _ _ _ _ _ h tb w0 w s hv)).mono fun e w' he=>?_
  obtain ⟨hb,rfl⟩:=he
  exact ⟨h,[],Inv.below s hb,rfl,⟨none,0,0⟩,rfl,⟨rfl,Nat.le_refl _,fun hne=>absurd rfl hne⟩⟩
set_option maxRecDepth 20000 in
theorem RVars_ct (t:Tr) (h:Heap) (vs:List Value) (w:IsE h vs t):Fn0 T F.ref04_Vars [.agg vs.toArray] h fun v h'=>∃s:Sl,v=.tuple #[s.val,.int .i64 (varE t)]∧Rw h' s 1 ((varN t).map sv):=by
 have c1:=fun h w=>RValid_ct t h vs w
 have c2:=fun h w (x:ValT t)=>Names_ct t 1 x.1 h vs ⟨none,0,0⟩ [] w ⟨rfl,Nat.le_refl _,fun x=>absurd rfl x⟩ (by have:=x.2;simp only [List.length_nil];omega)
 have r1:ValT t→varE t=0∧varN t=namesT t:=fun x=>⟨if_pos x,if_pos x⟩
 have r2:¬ValT t→varE t=40∧varN t=[]:=fun x=>⟨if_neg x,if_neg x⟩
 have hnm:(varsL (tagsT t)).foldl putL []=namesT t:=rfl
 rw [hnm] at c2
 obtain ⟨X,hX⟩:∃X,X=namesT t:=⟨_,rfl⟩
 rw [← hX] at c2 r1
 clear hnm hX
 obtain ⟨⟨op,arg,neg,l,m,name,ks⟩,ht⟩:∃x,x=t:=⟨_,rfl⟩
 obtain ⟨a,b,s,hvs,-⟩:=(ht.symm▸w:IsE h vs (.mk op arg neg l m name ks)).isK
 subst hvs
 refine fn0_of_codeI ok D.ref04_Vars rfl ?_
 conv=>whnf
 repeat ((first | refine opsI.step ?_ | refine codeI.step ?_);conv=>whnf)
 repeat' first | ((first | (show CallN _ _ _ _ _ _;first | (refine CallN.fn rfl (c1 _ (by assumption)) (fun v h' hl2 hr=>?_);subst hr) | (refine CallN.fn rfl (c2 _ (by (iterate 30 (try first | assumption | refine IsE.mono ?_ (by assumption)));first | done | assumption) (by assumption)) (fun v h' hl2 hr=>?_);obtain ⟨s',rfl,hs'⟩:=hr)) | ((first | refine opsI.step ?_ | refine codeI.step ?_)) | intro (_:Nat) | refine LdN.own 0 rfl rfl ?_) <;> (conv=>whnf)) | (show cnd _ _ _;first | (refine cnd_not ?_) | (refine cnd_dec (fun _=>?_) (fun _=>?_) <;> first | (exfalso;omega) | (conv=>whnf)))
 all_goals first
  | (rw [(r2 (by assumption)).1,(r2 (by assumption)).2];exact RetN.all ⟨⟨none,0,0⟩,rfl,⟨rfl,Nat.le_refl _,fun hne=>absurd rfl hne⟩⟩)
  | (rw [(r1 (by assumption)).1,(r1 (by assumption)).2];exact RetN.all ⟨_,rfl,by assumption⟩)
set_option maxRecDepth 20000 in
set_option maxHeartbeats 1000000 in
theorem same_ct (h:Heap) (s s':Sl) (xs:List (List UInt8)) (w:Rw h s 1 (xs.map sv)) (w':Rw h s' 1 (xs.map sv)) (hn:xs.length≤1000):Fn0 T F.law04_same [s.val,s'.val] h fun v h'=>v=.bool true:=by
 have h1:=w.len
 have h2:=w'.len
 rw [List.length_map] at h1 h2
 refine fn0_of_codeI ok D.law04_same rfl ?_
 conv=>whnf
 repeat ((first | refine opsI.step ?_ | refine codeI.step ?_);conv=>whnf)
 repeat' first | ((first | ((first | refine opsI.step ?_ | refine codeI.step ?_))) <;> (conv=>whnf)) | (show cnd _ _ _;first | (refine cnd_eq (fun _=>?_) (fun _=>?_) <;> first | (exfalso;omega) | (conv=>whnf)) | (refine cnd_not ?_))
 refine LoopN.keepL (fun r ρ hx=>∃j:Nat,r=xs.length-j∧j≤xs.length∧rd ρ 5=.int .i64 j) xs.length ⟨0,rfl,Nat.zero_le _,rfl⟩ ?_
 conv=>whnf
 repeat intro _
 rename_i r hx hle hI
 obtain ⟨j,rfl,hj,e5⟩:=hI
 conv at e5=>lhs;whnf
 subst e5
 have wx:=w.mono hle
 have wx':=w'.mono hle
 by_cases hjl:j=xs.length
 ·conv=>whnf
  repeat ((first | refine opsI.step ?_ | refine codeI.step ?_);conv=>whnf)
  repeat' first | ((first | ((first | refine opsI.step ?_ | refine codeI.step ?_))) <;> (conv=>whnf)) | (refine cnd_lt (fun _=>?_) (fun _=>?_) <;> first | (exfalso;omega) | (conv=>whnf))
  exact RetN.all rfl
 ·obtain ⟨y,hy⟩:∃y,xs[j]?=some y:=⟨_,List.getElem?_eq_getElem (by omega)⟩
  conv=>whnf
  repeat ((first | refine opsI.step ?_ | refine codeI.step ?_);conv=>whnf)
  repeat' first | ((first | (show Idx _ _ _ _ _;first | refine Idx.sv wx j y (by omega) hy (fun ad hv=>?_) | refine Idx.sv wx' j y (by omega) hy (fun ad hv=>?_)) | (show Ld _ _ _ _;(refine Ld.of (by first | exact hv _ | (rename_i hv;exact hv _)) ?_)) | ((first | refine opsI.step ?_ | refine codeI.step ?_)) | refine WrapN.i64 (by omega) (by omega) ?_ | refine DrawN.run (by decide +kernel) ?_) <;> (conv=>whnf)) | (show cnd _ _ _;first | (refine cnd_sv (fun _=>?_) (fun hne=>?_) <;> first | exact absurd rfl hne | (conv=>whnf)) | (refine cnd_lt (fun _=>?_) (fun _=>?_) <;> first | (exfalso;omega) | (conv=>whnf)) | (refine cnd_not ?_))
  all_goals exact ⟨rfl,xs.length-(j+1),by omega,(by assumption),rfl,j+1,rfl,by omega,vi (by omega)⟩
set_option maxRecDepth 20000 in
set_option maxHeartbeats 1000000 in
theorem XValid_law (h:Heap) (tb:Tb h) (pw:Pw h) (t:Tr) (vs:List Value) (w:IsE h vs t):Fn0 T F.law04_ExprValid [.agg vs.toArray] h fun v h'=>v=.bool true:=by
 have c1:=fun h w=>RValid_ct t h vs w
 have c2:=fun h tb w=>Size_ct t h vs tb w
 have c3:=fun h w=>RSize_ct t h vs w
 have c4:=fun h tb w=>Vars_ct t h vs tb w
 have c5:=fun h w=>RVars_ct t h vs w
 have c6:=fun h tb w=>SmoothX_ct t h vs tb w
 have c7:=fun h w=>RSmooth_ct t h vs w
 have c8:=fun h tb w=>Valid_ct t h vs tb w
 have c10:=fun h tb pw=>sane_ct h tb pw
 have hvn:(varN t).length≤1000:=by
  unfold varN
  split
  ·rename_i x
   have h1:=foldP_len (varsL (tagsT t)) []
   have h2:=varsL_len (tagsT t)
   have h3:=tagsT_len t
   have h4:=x.2
   rw [List.length_nil] at h1
   show (List.foldl putL [] (varsL (tagsT t))).length≤1000
   omega
  ·exact Nat.zero_le _
 have c9:=fun h s s' w w'=>same_ct h s s' (varN t) w w' hvn
 obtain ⟨VN,hVN⟩:∃X,X=varN t:=⟨_,rfl⟩
 rw [← hVN] at c4 c5 c9
 obtain ⟨VE,hVE⟩:∃X,X=varE t:=⟨_,rfl⟩
 rw [← hVE] at c4 c5
 obtain ⟨⟨X1,X2⟩,hX⟩:∃X,X=sizX t:=⟨_,rfl⟩
 rw [← hX] at c2 c3
 replace c2:∀h,Tb h→IsE h vs t→Fn0 T F.expr_Size [.agg vs.toArray] h fun v h'=>v=.tuple #[.int .i64 X1,.int .i64 X2]:=c2
 replace c3:∀h,IsE h vs t→Fn0 T F.ref04_Size [.agg vs.toArray] h fun v h'=>v=.tuple #[.int .i64 X1,.int .i64 X2]:=c3
 obtain ⟨⟨Y1,Y2⟩,hY⟩:∃X,X=smX t:=⟨_,rfl⟩
 rw [← hY] at c6 c7
 replace c6:∀h,Tb h→IsE h vs t→Fn0 T F.expr_Smooth [.agg vs.toArray] h fun v h'=>v=.tuple #[.bool Y1,.int .i64 Y2]:=c6
 replace c7:∀h,IsE h vs t→Fn0 T F.ref04_Smooth [.agg vs.toArray] h fun v h'=>v=.tuple #[.bool Y1,.int .i64 Y2]:=c7
 obtain ⟨B,hB⟩:∃B,B=dec (ValT t):=⟨_,rfl⟩
 rw [← hB] at c1 c8
 clear hvn hVN hVE hX hY hB
 obtain ⟨⟨op,arg,neg,l,m,name,ks⟩,ht⟩:∃x,x=t:=⟨_,rfl⟩
 obtain ⟨a,b,s,hvs,-⟩:=(ht.symm▸w:IsE h vs (.mk op arg neg l m name ks)).isK
 subst hvs
 refine fn0_of_codeI ok D.law04_ExprValid rfl ?_
 conv=>whnf
 repeat ((first | refine opsI.step ?_ | refine codeI.step ?_);conv=>whnf)
 repeat' first | ((first | (show CallN _ _ _ _ _ _;first | (refine CallN.fn rfl (c8 _ (by (iterate 30 (try first | assumption | refine Tb.mono ?_ (by assumption)));first | done | assumption) (by (iterate 30 (try first | assumption | refine IsE.mono ?_ (by assumption)));first | done | assumption)) (fun v h' hl2 hr=>?_);subst hr) | (refine CallN.fn rfl (c1 _ (by assumption)) (fun v h' hl2 hr=>?_);subst hr) | (refine CallN.fn rfl (c2 _ (by (iterate 30 (try first | assumption | refine Tb.mono ?_ (by assumption)));first | done | assumption) (by (iterate 30 (try first | assumption | refine IsE.mono ?_ (by assumption)));first | done | assumption)) (fun v h' hl2 hr=>?_);subst hr) | (refine CallN.fn rfl (c3 _ (by (iterate 30 (try first | assumption | refine IsE.mono ?_ (by assumption)));first | done | assumption)) (fun v h' hl2 hr=>?_);subst hr) | (refine CallN.fn rfl (c4 _ (by (iterate 30 (try first | assumption | refine Tb.mono ?_ (by assumption)));first | done | assumption) (by (iterate 30 (try first | assumption | refine IsE.mono ?_ (by assumption)));first | done | assumption)) (fun v h' hl2 hr=>?_);obtain ⟨s4,rfl,hs4⟩:=hr) | (refine CallN.fn rfl (c5 _ (by (iterate 30 (try first | assumption | refine IsE.mono ?_ (by assumption)));first | done | assumption)) (fun v h' hl2 hr=>?_);obtain ⟨s5,rfl,hs5⟩:=hr) | (refine CallN.fn rfl (c6 _ (by (iterate 30 (try first | assumption | refine Tb.mono ?_ (by assumption)));first | done | assumption) (by (iterate 30 (try first | assumption | refine IsE.mono ?_ (by assumption)));first | done | assumption)) (fun v h' hl2 hr=>?_);subst hr) | (refine CallN.fn rfl (c7 _ (by (iterate 30 (try first | assumption | refine IsE.mono ?_ (by assumption)));first | done | assumption)) (fun v h' hl2 hr=>?_);subst hr) | (refine CallN.fn rfl (c9 _ _ _ (by iterate 20 (try first | assumption | refine Rw.mono ?_ (by assumption))) (by iterate 20 (try first | assumption | refine Rw.mono ?_ (by assumption)))) (fun v h' hl2 hr=>?_);subst hr) | (refine CallN.fn rfl (c10 _ (by (iterate 30 (try first | assumption | refine Tb.mono ?_ (by assumption)));first | done | assumption) (by iterate 20 (try first | assumption | refine Pw.mono ?_ (by assumption)))) (fun v h' hl2 hr=>?_);subst hr)) | ((first | refine opsI.step ?_ | refine codeI.step ?_)) | intro (_:Nat) | refine LdN.own 0 rfl rfl ?_) <;> (conv=>whnf)) | (show cnd _ _ _;first | (refine cnd_eq (fun _=>?_) (fun _=>?_) <;> first | (exfalso;omega) | (conv=>whnf)) | (refine cnd_beq (fun _=>?_) (fun hne=>?_) <;> first | exact absurd rfl hne | (conv=>whnf)))
 all_goals exact RetN.all rfl
end Go.Proofs.YtbgicephinomlaaGreatDoor