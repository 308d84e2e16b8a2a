/-
  LivenessCloses: for every body the law answers true, and the argument reads as it did; the card of the row. Condition: the four listed variables hold at the start what the text of the program lays (the given tie; one is a table of the library, pinned by its name). (part 2)
-/
import Derived.Test.YtcfchohkmkilpaaGreatDoorNC1
namespace Go.Proofs.YtcfchohkmkilpaaGreatDoor
set_option maxRecDepth 100000
set_option maxHeartbeats 16000000
section
open Go Go.RowKit Go.Maps Go.WideMaps Go.Sort Go.Shelf
theorem xLR (n:Nat) (hn:3<=n) (Bm b nn:Nat) (ps:List (Int × Int)) (w:World) (hBm:Bm<w.heap.size) (hm0:w.cell? ⟨Bm,0,none⟩=some (.map (some b))) (hown0:OwnP w b nn ps) (hps:ps.length<=1000000000000):
 CallsIn Fence.wide n Tryz.prog 123 #[.slice none 0 0,.func (.func 83) #[] #[.pointer (some ⟨Bm,0,none⟩)]] w fun e w'=>∃(v:Value) (L:List (Int × Int)),e = .returned v/\(L.Nodup/\∀z,z∈L↔z∈ps)/\w'.ownsRow w.heap.size 43 2 v L.length (L.flatMap prC)/\Below w.heap.size w w':=by
 have hseq:=keysM (n - 1) (by omega) Bm b nn ps w hBm hm0 hown0;obtain ⟨i0,hi0,hq0,hq1,hq2⟩:=info_parts xBO;obtain ⟨W0,hW0⟩:∃W,w.alloc (.cells #[.slice none 0 0] 23)=W:=⟨_,rfl⟩;have hb0:Below w.heap.size w W0:=by rw [<- hW0];exact alF _ _
 have hz0:W0.heap.size=w.heap.size+1:=by rw [<- hW0];simp
 have hh0:W0.heap[w.heap.size]?=some (.cells #[.slice none 0 0] 23 (0,0)):=by rw [<- hW0];exact eS _ _ _ rfl
 refine callsIn_of_wp_marks Tryz.func123 rfl trivial ?_ rfl;simp only [Tryz.ntmps123,List.size_toArray,bK,bO,Nat.reduceAdd,Nat.reduceSub,Array.replicate_succ,Array.replicate_zero,List.push_toArray,List.append_toArray,List.nil_append,List.cons_append];gi_wp2
 clear hW0
 refine xKO rfl (by omega) (gf:=83) (lb:= #[.pointer (some ⟨Bm,0,none⟩)]) rfl trivial (enters_of Tryz.func83 (by kernel_rfl) rfl)
  hseq hb0 (fun k hk=>by omega) (fun _=>rfl)
  (fun pre W=>(pre.Nodup/\∀z∈pre,z∈ps)/\∃v,ApS W0 w.heap.size W v pre)
  (fun _ _ _=>False)
  (fun s A B ⟨hn,v,hs⟩ ht=>⟨hn,v,hs.turn (by omega) rfl ht⟩) (fun _ _ _ _ hs _=>hs)
  ⟨⟨List.nodup_nil,by simp⟩,_,hh0,World.ownsRow_nil _ _ _ _,Eb.refl _ _⟩ ?round ?done ?stop
 case round=>
  rintro lr pre ⟨xa,xb⟩ W hL hlr ⟨rr,hr⟩ hWs ⟨hnd,v,hE⟩;simp only [encP,List.zip_toArray,List.zip_cons_cons];gi_wp2_with gi_round_op_a
  refine ⟨(Kb.refl _ _ _ _).alloc _,fun W2 hrec=>?_⟩;obtain ⟨WL,hWL⟩:∃X,W.alloc (.cells #[.int .i64 xa,.int .i64 xb] 43)=X:=⟨_,rfl⟩;rw [hWL] at hrec;have hbl1:Below W.heap.size W WL:=by rw [<- hWL];exact alF _ _
  have hE2:=(hE.then_ hbl1).rec_ hrec hlr;obtain ⟨l0,l1⟩:=xBH W (.int .i64 xa) (.int .i64 xb) 43;rw [hWL] at l0 l1;replace l0:=hrec.cell l0;replace l1:=hrec.cell l1;have hsz2:W2.heap.size=W.heap.size+1:=by rw [hrec.size,<- hWL];simp
  have hh:=hE2.head;have c0:W2.cell? ⟨w.heap.size,0,none⟩=some v:=dS (l:=[v]) hh 0 _ rfl;have hown:=hE2.own;obtain ⟨VA,vc,rfl⟩:=dE hown;have hns:((xa,xb) :: pre).Nodup/\∀z∈(xa,xb) :: pre,z∈ps:=⟨List.nodup_cons.2 ⟨hL.2,hnd.1⟩,fun z hz=>(List.mem_cons.1 hz).elim (fun e=>e ▸ hL.1) (hnd.2 z)⟩;have hpl:pre.length+1<=ps.length:=by simpa using xIP ((xa,xb) :: pre) ps hns.1 hns.2
  have HND:Hid ((pre ++ [(xa,xb)]).Nodup/\∀z∈pre ++ [(xa,xb)],z∈ps):=aF ⟨jV hnd.1 (fun y hy e=>hL.2 (e ▸ hy)),fun z hz=>(List.mem_append.1 hz).elim (hnd.2 z) (fun h=>by rw [List.mem_singleton.1 h];exact hL.1)⟩;have hown2:=hown.alloc (.cells #[.int .i64 xa,.int .i64 xb] 43);have HE2:=aF hE2;have hszW:=hE2.eb.size;clear hE hE2 hWL hbl1 hseq hr hns hnd hL hsz2;gi_wp2_with (first | (gi_at_builtin;refine wpListIn_append_own_at _ rfl _ _ 23 rfl W0.heap.size 43 i0 _ 2 16 Tryz.underlying23 hi0 hq0 hq1 hq2 rfl (by decide) (.slice VA pre.length vc) _ _ rfl hown2 ⟨W2.heap.size,0,none⟩ 1 1 (prC (xa,xb)) rfl rfl (fun j u hj=>by rw [add0];exact gI _ _ _ j u hj) (fun u hu=>by simp [prC] at hu;rcases hu with rfl | rfl <;> rfl) (by unfold maxLen;omega) (by omega) (by simp;omega) ?_;intro v' w5 hown' hgrow _ hloc;obtain ⟨VB,vd,rfl⟩:=dE hown';have hh5:w5.heap[w.heap.size]?=some (.cells #[.slice VA pre.length vc] 23 (0,0)):=(hgrow.block _ (by simp;omega) (dV hown2 (by omega))).trans (((aX _ _).alloc (aY _) _).block _ (by omega) |>.trans hh);have c5:=dS (l:=[.slice VA pre.length vc]) hh5 0 _ rfl;have hf5:w5.frozen? ⟨w.heap.size,0,none⟩=false:=by simp [World.frozen?,hh5]) | gi_round_op_a)
  have hal:Below W2.heap.size W2 (W2.alloc (.cells #[.int .i64 xa,.int .i64 xb] 43)):=alF _ _;have hlo:=fun g hg=>(hown2.lt g hg).1
  have hset:∀k,k≠w.heap.size->(w5.setCell ⟨w.heap.size,0,none⟩ (.slice VB (pre.length+1) vd)).heap[k]?=w5.heap[k]?:=fun k hk=>bH w5 ⟨w.heap.size,0,none⟩ _ k hk
  refine ⟨?_,HND.out,_,xAQ hh5,?_,((HE2.out.eb.then_ hal).grown hgrow hlo).set 0 _⟩
  ·refine (((Kb.refl _ _ _ _).then_ hal).grown hgrow (fun g hg=>⟨.inl (fun h=>?_),.inr (.inr ?_)⟩)).setLow (p:=⟨w.heap.size,0,none⟩) _ (by simp) (by simp;omega)
   ·have:=hlo g hg;omega
   ·rcases hown2.2 with ⟨h1,_⟩ | ⟨g',cap,cur,h1,_,h2,_⟩
    ·rw [h1] at hg;cases hg
    ·rw [h1] at hg;injection hg with hg;subst hg;exact ⟨_,_,_,h2,rfl⟩
  ·rw [bB,cA];refine dI (A:=w5) (by simpa using hown') (fun k hk _ _=>hset k (by omega))
 case done=>
  rintro D L W hD hL ⟨hnd,v,hE⟩ hK;have c0:=dS (l:=[v]) hE.head 0 _ rfl;have hE2:=aF hE;have HO:=aF hE.own;clear hE hseq;gi_wp2
  refine ⟨by simp,.inl ⟨_,_,rfl,run_takeDeferred (w:=W) hK,?_⟩⟩;refine ⟨_,results_tmp rfl _ _ _,v,L,rfl,hL,?_,below_put (hE2.out.eb.below hb0 (aY _)) (by omega)⟩;exact xLD (HO.out.kept (grownBy_putObj_a _ _ _) (ownsRow_ne_a HO.out hK (fun cur e=>by cases e))) (by omega)
 case stop=>exact fun _ _ _ _ _ _ _ h=>h.elim
theorem xLP (Bm b nn:Nat) (ps:List (Int × Int)) (w:World) (hBm:Bm<w.heap.size) (hm0:w.cell? ⟨Bm,0,none⟩=some (.map (some b))) (hown0:OwnP w b nn ps) (hps:ps.length<=1000000000000):
 Calls Tryz.prog 123 #[.slice none 0 0,.func (.func 83) #[] #[.pointer (some ⟨Bm,0,none⟩)]] w fun e w'=>∃(v:Value) (L:List (Int × Int)),e = .returned v/\(L.Nodup/\∀z,z∈L↔z∈ps)/\w'.ownsRow w.heap.size 43 2 v L.length (L.flatMap prC)/\Below w.heap.size w w':=
 (callsIn_wide (n:=5)).1 (xLR 5 (by omega) Bm b nn ps w hBm hm0 hown0 hps)
theorem xLI (Bm b nn:Nat) (ps:List (Int × Int)) (w:World) (hBm:Bm<w.heap.size) (hm0:w.cell? ⟨Bm,0,none⟩=some (.map (some b))) (hown0:OwnP w b nn ps) (hps:ps.length<=1000000000000):
 Calls Tryz.prog 81 #[.func (.func 83) #[] #[.pointer (some ⟨Bm,0,none⟩)]] w fun e w'=>∃(v:Value) (L:List (Int × Int)),e = .returned v/\(L.Nodup/\∀z,z∈L↔z∈ps)/\w'.ownsRow w.heap.size 43 2 v L.length (L.flatMap prC)/\Below w.heap.size w w':=by
 have HA:=aF (xLP Bm b nn ps w hBm hm0 hown0 hps);clear hBm hm0 hown0 hps;go_enter Tryz.func81,Tryz.ntmps81
 go_wp2_with (go_at_call 123;refine HA.out.mono ?_;rintro e' w1 ⟨v,L,rfl,hL,hr,hb⟩;have HL:=aF hL;have HR:=aF hr;have HB:=aF hb;clear hL hr hb)
 go_ret;exact ⟨v,L,rfl,HL.out,HR.out,HB.out⟩
end
section
open Go Go.RowKit Go.Maps Go.Lib Go.Sort
attribute [local irreducible] Calls
theorem xIT (x y:Int × Int):cmp2 x y<0↔lt2 x y:=by
 unfold cmp2 lt2;split
 ·simp;omega
 ·split
  ·simp;omega
  ·split
   ·simp;omega
   ·split
    ·simp;omega
    ·simp;omega
theorem xLK (x y:Int × Int) (W:World):
 Calls Tryz.prog 50 #[.agg #[.int .i64 x.1,.int .i64 x.2],.agg #[.int .i64 y.1,.int .i64 y.2]] W fun e' w'=>e' = .returned (.int .i64 (cmp2 x y))/\∃q os',w'=grow (W.drewN q) os':=by
 have HC:=aF (fun V h1 h2 h3 h4=>oE x y W.heap.size 0 (W.heap.size+1) 0 V h1 h2 h3 h4);obtain ⟨x1,x2⟩:=x;obtain ⟨y1,y2⟩:=y;simp only at HC ⊢;generalize cmp2 (x1,x2) (y1,y2)=r at *;go_enter Tryz.func50,Tryz.ntmps50
 go_wp2_with fail
 obtain ⟨W2,hW2⟩:∃X,(W.alloc (.cells #[.int .i64 x1,.int .i64 x2] 43)).alloc (.cells #[.int .i64 y1,.int .i64 y2] 43)=X:=⟨_,rfl⟩
 have hgr:∃q os',W2.drew=grow (W.drewN q) os':=⟨1,#[.cells #[.int .i64 x1,.int .i64 x2] 43,.cells #[.int .i64 y1,.int .i64 y2] 43],by
  rw [<- hW2,alloc_eq_grow,alloc_eq_grow,grow_grow];rfl⟩
 have HG:=aF hgr;obtain ⟨a0,a1⟩:=xBH W (.int .i64 x1) (.int .i64 x2) 43;obtain ⟨b0,b1⟩:=xBH (W.alloc (.cells #[.int .i64 x1,.int .i64 x2] 43)) (.int .i64 y1) (.int .i64 y2) 43;replace a0:=cO (alF _ (.cells #[.int .i64 y1,.int .i64 y2] 43)) a0;replace a1:=cO (alF _ (.cells #[.int .i64 y1,.int .i64 y2] 43)) a1;rw [bI] at b0 b1;rw [hW2] at a0 a1 b0 b1 ⊢;have hS:(fun X=>X.cell? ⟨W.heap.size,0,none⟩=some (.int .i64 x1)/\X.cell? ⟨W.heap.size,0+1,none⟩=some (.int .i64 x2)/\X.cell? ⟨W.heap.size+1,0,none⟩=some (.int .i64 y1)/\X.cell? ⟨W.heap.size+1,0+1,none⟩=some (.int .i64 y2)) W2.drew:=⟨a0,a1,b0,b1⟩;clear hW2 hgr a0 a1 b0 b1;refine cT (S:=fun X=>X.cell? ⟨W.heap.size,0,none⟩=some (.int .i64 x1)/\X.cell? ⟨W.heap.size,0+1,none⟩=some (.int .i64 x2)/\X.cell? ⟨W.heap.size+1,0,none⟩=some (.int .i64 y1)/\X.cell? ⟨W.heap.size+1,0+1,none⟩=some (.int .i64 y2)) [0,1,2,3] (by kernel_rfl) ?_;(iterate 2 (refine cR (v:=?_) ?_ hS ?_;rotate_left;(next=>(rintro X ⟨q1,q2,q3,q4⟩;(try simp only [aI]);go_simp;rfl));simp only [aM]));(refine cY (fun K1 hK1=>?_);simp only [aM];rw [bA (by rfl)];go_simp);have HS:=aF hS;have HC2:=aF (HC.out W2.drew hS.1 hS.2.1 hS.2.2.1 hS.2.2.2);go_at_call 32
 refine HC2.out.mono ?_;rintro e' w3 ⟨rfl,hw⟩;obtain rfl:=hw.symm;refine hK1.out _ _ (fun _=>HS.out) ?_;have hS:=HS.out;((refine cR (v:=?_) ?_ hS ?_;rotate_left;(next=>(rintro X ⟨q1,q2,q3,q4⟩;(try simp only [aI]);go_simp;rfl));simp only [aM]))
 refine cZ ?_;clear hS;go_wp2_with fail
 go_ret;exact ⟨rfl,HG.out⟩
theorem xLO (x y:Int × Int) (W:World):
 Calls Tryz.prog 31 #[.agg #[.int .i64 x.1,.int .i64 x.2],.agg #[.int .i64 y.1,.int .i64 y.2]] W fun e' w'=>e' = .returned (.int .i64 (cmp2 x y))/\∃q os',w'=grow (W.drewN q) os':=by
 have HC:=aF (fun V h1 h2 h3 h4=>oE x y W.heap.size 0 (W.heap.size+1) 0 V h1 h2 h3 h4);obtain ⟨x1,x2⟩:=x;obtain ⟨y1,y2⟩:=y;simp only at HC ⊢;generalize cmp2 (x1,x2) (y1,y2)=r at *;go_enter Tryz.func31,Tryz.ntmps31
 go_wp2_with fail
 obtain ⟨W2,hW2⟩:∃X,(W.alloc (.cells #[.int .i64 x1,.int .i64 x2] 43)).alloc (.cells #[.int .i64 y1,.int .i64 y2] 43)=X:=⟨_,rfl⟩
 have hgr:∃q os',W2.drew=grow (W.drewN q) os':=⟨1,#[.cells #[.int .i64 x1,.int .i64 x2] 43,.cells #[.int .i64 y1,.int .i64 y2] 43],by
  rw [<- hW2,alloc_eq_grow,alloc_eq_grow,grow_grow];rfl⟩
 have HG:=aF hgr;obtain ⟨a0,a1⟩:=xBH W (.int .i64 x1) (.int .i64 x2) 43;obtain ⟨b0,b1⟩:=xBH (W.alloc (.cells #[.int .i64 x1,.int .i64 x2] 43)) (.int .i64 y1) (.int .i64 y2) 43;replace a0:=cO (alF _ (.cells #[.int .i64 y1,.int .i64 y2] 43)) a0;replace a1:=cO (alF _ (.cells #[.int .i64 y1,.int .i64 y2] 43)) a1;rw [bI] at b0 b1;rw [hW2] at a0 a1 b0 b1 ⊢;have hS:(fun X=>X.cell? ⟨W.heap.size,0,none⟩=some (.int .i64 x1)/\X.cell? ⟨W.heap.size,0+1,none⟩=some (.int .i64 x2)/\X.cell? ⟨W.heap.size+1,0,none⟩=some (.int .i64 y1)/\X.cell? ⟨W.heap.size+1,0+1,none⟩=some (.int .i64 y2)) W2.drew:=⟨a0,a1,b0,b1⟩;clear hW2 hgr a0 a1 b0 b1;refine cT (S:=fun X=>X.cell? ⟨W.heap.size,0,none⟩=some (.int .i64 x1)/\X.cell? ⟨W.heap.size,0+1,none⟩=some (.int .i64 x2)/\X.cell? ⟨W.heap.size+1,0,none⟩=some (.int .i64 y1)/\X.cell? ⟨W.heap.size+1,0+1,none⟩=some (.int .i64 y2)) [0,1,2,3] (by kernel_rfl) ?_;(iterate 2 (refine cR (v:=?_) ?_ hS ?_;rotate_left;(next=>(rintro X ⟨q1,q2,q3,q4⟩;(try simp only [aI]);go_simp;rfl));simp only [aM]));(refine cY (fun K1 hK1=>?_);simp only [aM];rw [bA (by rfl)];go_simp);have HS:=aF hS;have HC2:=aF (HC.out W2.drew hS.1 hS.2.1 hS.2.2.1 hS.2.2.2);go_at_call 32
 refine HC2.out.mono ?_;rintro e' w3 ⟨rfl,hw⟩;obtain rfl:=hw.symm;refine hK1.out _ _ (fun _=>HS.out) ?_;have hS:=HS.out;((refine cR (v:=?_) ?_ hS ?_;rotate_left;(next=>(rintro X ⟨q1,q2,q3,q4⟩;(try simp only [aI]);go_simp;rfl));simp only [aM]))
 refine cZ ?_;clear hS;go_wp2_with fail
 go_ret;exact ⟨rfl,HG.out⟩
theorem swo2:SWO (fun x y:Int × Int=>decide (cmp2 x y<0)) where
 irrefl x:=by rw [decide_eq_false_iff_not,xIT];exact fun h=>jG h h
 trans x y z h1 h2:=by
  rw [decide_eq_true_iff,xIT] at *;unfold lt2 at *;omega
 ntrans x y z h1 h2:=by
  rw [decide_eq_false_iff_not,xIT] at *;unfold lt2 at *;omega
theorem xLN {x y:Int × Int} (h1:decide (cmp2 x y<0)=false) (h2:decide (cmp2 y x<0)=false):x=y:=by
 rw [decide_eq_false_iff_not,xIT] at h1 h2;rcases lt2_tri x y with h | h | h
 ·exact absurd h h1
 ·exact h
 ·exact absurd h h2
end
section
open Go Go.RowKit Go.Maps Go.Lib Go.Sort Go.Shelf
attribute [local irreducible] Calls
theorem xKA:∀(d:List (Int × Int)) (t:Nat),t<d.length * 2->(d.flatMap prC)[t]?=some ((prC d[t / 2]!)[t % 2]!)
 | [],t,h=>by simp at h
 | z :: d,0,_=>rfl
 | z :: d,1,_=>rfl
 | z :: d,t+2,h=>by
   have h1:=xKA d t (by simp at h;omega);rw [List.flatMap_cons,show prC z=[.int .i64 z.1,.int .i64 z.2] from rfl,show (t+2) / 2=t / 2+1 by omega,show (t+2) % 2=t % 2 by omega];simpa using h1
theorem xIQ:∀(d:List (Int × Int)),(d.flatMap prC).length=d.length * 2
 | []=>rfl
 | z :: d=>by rw [List.flatMap_cons,bB,xIQ d];simp [prC];omega
theorem flat2 (d:List (Int × Int)):flatK prC 2 d.toArray=(d.flatMap prC).toArray:=by
 apply Array.ext_getElem?
 intro t;by_cases h:t<d.length * 2
 ·have hs:t<(flatK prC 2 d.toArray).size:=by simpa using h
  have e1:(flatK prC 2 d.toArray)[t]?=some ((flatK prC 2 d.toArray)[t]!):=by rw [Array.getElem?_eq_getElem hs,getElem!_pos _ t hs]
  have e2:(d.flatMap prC).toArray[t]?=(d.flatMap prC)[t]?:=by simp
  rw [e1,e2,xKA d t h,get_flatK _ _ _ _ (by simpa using h)];simp
 ·rw [Array.getElem?_eq_none (by simp;omega),List.getElem?_toArray,cE (by rw [xIQ];omega)]
theorem xLW {w:World} {g:Nat} {cur:Array Value} {e:TypeId} {zs:List (Int × Int)} (hb:w.heap[g]?=some (.cells cur e (0,0))) (ht:cur.toList.take (zs.length * 2)=zs.flatMap prC):HoldsK prC 2 w g 0 zs.toArray:=by
 intro j hj;have hj':j<zs.length * 2:=by simpa using hj
 refine ⟨?_,by simp [World.frozen?,hb]⟩;have h1:=xKA zs j hj';rw [<- ht,List.getElem?_take_of_lt hj'] at h1;rw [get_flatK _ _ _ _ (by simpa using hj')];simp only [World.cell?,hb,Nat.zero_add,Option.isSome_none,Bool.false_eq_true,if_false];rw [<- Array.getElem?_toList,h1];simp
theorem xKM {w:World} {g n:Nat} {os:Array Obj} {cur:Array Value} {e:TypeId} {fr:Nat × Nat} (d:Array Value) (hb:w.heap[g]?=some (.cells cur e fr)):
 (grow (putRow id (Sort.ahead w n) g 0 d) os).heap[g]?=some (.cells (putCells id 0 d cur) e fr):=by
 have hg:g<w.heap.size:=(Array.getElem?_eq_some_iff.1 hb).1;rw [heap_grow_old _ _ (by simpa using hg)];simp [putRow,mapBlock,Sort.ahead,Array.getElem?_modify,hb,onCells]
theorem xJA {w:World} {g n:Nat} {os:Array Obj} (d:Array Value):w.grownBy (grow (putRow id (Sort.ahead w n) g 0 d) os) (some g):=by
 refine ⟨rfl,rfl,rfl,by simp,fun k hk hne=>?_⟩;rw [heap_grow_old _ _ (by simpa using hk)];have:g≠k:=fun e=>hne (by rw [e])
 simp [putRow,mapBlock,Sort.ahead,Array.getElem?_modify,this]
theorem xJC (cur:Array Value) (ts:List Value) (h:ts.length<=cur.size):(putCells id 0 ts.toArray cur).toList.take ts.length=ts:=by
 apply List.ext_getElem?
 intro j;by_cases hj:j<ts.length
 ·rw [List.getElem?_take_of_lt hj,Array.getElem?_toList];simp [putCells,hj,show j<cur.size by omega]
 ·rw [List.getElem?_take_eq_none (by omega),cE (by omega)]
theorem xKW {zs:List (Int × Int)} (h:zs.Nodup):Srt2 (zs.mergeSort fun x y=> !(ltOf cmp2) y x) (fun z=>z∈zs):=by
 have hp:=List.mergeSort_perm zs (fun x y=> !(ltOf cmp2) y x);refine ⟨?_,fun x=>hp.mem_iff⟩
 have hs:(zs.mergeSort fun x y=> !(ltOf cmp2) y x).Pairwise (fun a b=>(!(ltOf cmp2) b a)=true):=List.pairwise_mergeSort
  (fun a b c h1 h2=>by
    rw [Bool.not_eq_true'] at *
    exact swo2.ntrans c b a h2 h1)
  (fun a b=>by
    rw [Bool.or_eq_true,Bool.not_eq_true',Bool.not_eq_true'];cases e:(ltOf cmp2) b a
    ·exact .inl rfl
    ·exact .inr (swo2.asymmA e)) zs
 refine (hs.and (hp.nodup_iff.2 h)).imp ?_;rintro a b ⟨h1,h2⟩;rw [Bool.not_eq_true'] at h1
 have h3:¬lt2 b a:=fun e=>by
  have:(ltOf cmp2) b a=true:=decide_eq_true ((xIT b a).2 e);rw [h1] at this;cases this
 rcases lt2_tri a b with e | e | e
 ·exact e
 ·exact absurd e h2
 ·exact absurd e h3
theorem xKV (W:World) (base n:Nat) (v:Value) (zs:List (Int × Int)) (h:W.ownsRow base 43 2 v n (zs.flatMap prC)) (hn:zs.length=n) (hsz:n<4611686018427387904):
 Calls Tryz.prog 82 #[v,.func (.func 50) #[] #[]] W fun e w'=>e = .returned (.tuple #[])/\w'.ownsRow base 43 2 v n ((zs.mergeSort fun x y=> !(ltOf cmp2) y x).flatMap prC)/\W.grownBy w' v.ownBlock:=by
 subst hn;rcases h.2 with ⟨rfl,hz⟩ | ⟨g,cap,cur,rfl,hb,hh,hnc,hcm,hcs,htk⟩
 ·have hz2:=bU hz;subst hz2;refine (AnyF.slices_SortFunc_none Tryz.sortP none 0 _ W).mono ?_;rintro e w' ⟨rfl,rfl⟩;exact ⟨rfl,by simpa using h,⟨rfl,rfl,rfl,aY _,fun _ _ _=>rfl⟩⟩
 ·have hold:=xLW (zs:=zs) hh htk;have hc:=AnyQ.slices_SortFunc_total Tryz.sortP 2 Tryz.isAgg43 Tryz.sizeOf43 prC (fun _=>rfl) (fun x v hv=>by simp [prC] at hv;rcases hv with rfl | rfl <;> rfl) cmp2 swo2 50 #[] g 0 cap zs.toArray W (enters_of Tryz.func50 (by kernel_rfl) rfl) (fun m os dk _ x y=>xLK x y _) hold (Array.getElem?_eq_some_iff.1 hh).1 (by simpa using hsz) (fun x y h1 h2=>xLN h1 h2);rw [List.size_toArray] at hc;refine Calls.mono hc ?_;rintro e w' ⟨rfl,q,os,rfl⟩;simp only [];obtain ⟨ss,hss⟩:∃ss,(zs.mergeSort fun x y=> !(ltOf cmp2) y x)=ss:=⟨_,rfl⟩;have hsl:ss.length=zs.length:=by rw [<- hss];simp
  have hfl:=xIQ ss;rw [hss];unfold sortWorldK putRowK;rw [flat2];refine ⟨trivial,⟨by rw [hfl,hsl],.inr ⟨g,cap,_,rfl,hb,xKM _ hh,hnc,hcm,by simp [putCells,hcs],?_⟩⟩,xJA _⟩
  have:=xJC cur (ss.flatMap prC) (by
   have:=congrArg List.length htk;rw [xIQ,cM] at this;rw [hfl,hsl];simp at this
   omega)
  rw [hfl,hsl] at this;exact this
theorem xKP (Bm b nn:Nat) (ps:List (Int × Int)) (w:World) (hBm:Bm<w.heap.size) (hm0:w.cell? ⟨Bm,0,none⟩=some (.map (some b))) (hown0:OwnP w b nn ps) (hps:ps.length<=1000000000000):
 Calls Tryz.prog 48 #[.func (.func 83) #[] #[.pointer (some ⟨Bm,0,none⟩)],.func (.func 50) #[] #[]] w fun e w'=>∃A c s,e = .returned (.slice A s.length c)/\Srt2 s (fun z=>z∈ps)/\Slc 2 RPr w' A c s/\Below w.heap.size w w':=by
 have HA:=aF (xLI Bm b nn ps w hBm hm0 hown0 hps);have HPS:=aF hps;clear hBm hm0 hown0 hps;go_enter Tryz.func48,Tryz.ntmps48
 go_wp2_with (first
  | (go_at_call 82;refine HSO.out.mono ?_;rintro e' w2 ⟨rfl,ho2,hg2⟩;have HO2:=aF ho2;have HG2:=aF hg2;clear ho2 hg2)
  | (go_at_call 81;refine HA.out.mono ?_;rintro e' w1 ⟨v,L,rfl,hL,hr,hb⟩;have HL:=aF hL;have HLT:=aF hr.lt;have hll:=xIP L ps hL.1 (fun x hx=>(hL.2 x).1 hx);have HSO:=aF (xKV w1 _ _ v L hr rfl (by have:=HPS.out;omega));have HB:=aF hb;clear hL hr hb hll))
 go_ret;have hs:=xKW HL.out.1;obtain ⟨A,c,rfl,h5⟩:=xCP HO2.out (by simp);refine ⟨A,c,_,by simp,hs.iff HL.out.2,h5,HB.out.grown HG2.out HB.out.size (fun g hg=>(HLT.out g hg).1)⟩
end
section
open Go Go.RowKit Go.Maps Go.Sort
attribute [local irreducible] Calls
theorem RSl.keepsC {α : Type} {k:Nat} {R:Rd α} (hR:R.KeepsC):(RSl k R).KeepsC:=fun _ _ _ _ _ _ _ hB hk ⟨A,c,h1,h2,h3,h4⟩=>⟨A,c,hk.cell _ _ h1,h2,h3,h4.keepC hR hB hk⟩
def MnR (b:Bdy) (x r:Int):Prop:=∃l,b.locals[x.toNat]?=some l/\∃z t,Rt b.types l.type z/\b.types[z.toNat]?=some t/\t.kind=3/\t.reg=r
structure PrW (w0 w2:World) (M:Nat) (ps:List (Int × Int)) (W:World):Prop where
 low:Below w0.heap.size w0 W
 kc:Kc w2 W
 own:OwnP W M ps.length ps
theorem PrW.keep {w0 w2:World} {M:Nat} {ps:List (Int × Int)} {W W':World} (h:PrW w0 w2 M ps W) (hb:Below W.heap.size W W'):PrW w0 w2 M ps W':=
 ⟨h.low.trans (hb.mono h.low.size),h.kc.trans (.of_below hb),h.own.below hb⟩
theorem PrW.put {w0 w2:World} {M:Nat} {ps:List (Int × Int)} {W W':World} (h:PrW w0 w2 M ps W) (hM:w0.heap.size<=M) {z:Int × Int} (ho:OwnP W' M (ps.length+1) (z :: ps)) (hg:W.grownBy W' (some M)):PrW w0 w2 M (z :: ps) W':=by
 obtain ⟨es,clock,h1⟩:=h.own.obj;exact ⟨h.low.trans (eH hg hM h.low.size),h.kc.trans (Kc.of_grown (fun cs e z g=>by rw [h1] at g;cases g) hg),ho⟩
theorem PrW.grow {w0 w2:World} {M:Nat} {ps:List (Int × Int)} {W W':World} (h:PrW w0 w2 M ps W) (h0:w0.heap.size<=w2.heap.size) (hM:M<w2.heap.size) {e:TypeId} {k m:Nat} {v:Value} {xs:List Value} (ho:W.ownsRow w2.heap.size e k v m xs) (hg:W.grownBy W' v.ownBlock):PrW w0 w2 M ps W':=
 ⟨h.low.grown hg h.low.size (fun g e=>bX h0 (ho.lt g e).1),
  ⟨fun a u hc=>(World.cell?_of_block (a:=a) (hg.block _ (bN (cD _ _ hc) h.kc.size) (dV ho (cD _ _ hc)))).trans (h.kc.cell a u hc),bX h.kc.size hg.size⟩,
  h.own.block (hg.block _ (bN hM h.kc.size) (dV ho hM))⟩
theorem xIU {P:Program} {w:World} (base:Nat) (t ty e:TypeId) (i:TypeInfo) (size:Nat) (ht:P.underlying t=some (.slice e)) (hi:P.info? e=some i)
 (v:Value) (n c:Nat) (xs:List Value) (hown:w.ownsRow base e size v n xs):(Builtin.append_ #[t,t] ty #[v,.slice none 0 c]).run P w = .ok v w:=by
 rcases hown.2 with ⟨rfl,rfl⟩ | ⟨g,cap,cur,rfl,_,_,hnc,_⟩
 ·simp [Builtin.append_,run_underlying ht,sizeOf,typeInfo,hi,Builtin.lenOf,Builtin.firstCells]
 ·simp [Builtin.append_,run_underlying ht,sizeOf,typeInfo,hi,Builtin.lenOf,Builtin.firstCells,hnc,storeCells]
theorem xKN {P:Program} {o:Oper} {a:Act} {w:World} {K:Act->World->Prop} {Q:Exit->Act->World->Prop} (s x:Operand) (t:TypeId)
 (ho:o.op = .call { callee:= .builtin .append,args:= #[s,x],argTypes:= #[t,t] })
 (base:Nat) (e:TypeId) (i:TypeInfo) (size:Nat) (ht:P.underlying t=some (.slice e)) (hi:P.info? e=some i)
 (v:Value) (n:Nat) (xs:List Value) (hs:a.eval s=v) (hown:w.ownsRow base e size v n xs) (c:Nat) (hx:a.eval x = .slice none 0 c)
 (h:K (a.put o.dst v) w):o.wp P a w K Q:=by
 have hrun:=xIU (P:=P) (w:=w) base t o.type e i size ht hi v n c xs hown;unfold Oper.wp execOp;simp only [ho,resolve,invoke,builtin,Sem.run_bind,Sem.run_pure,Result.andThen_ok,List.map_toArray,cJ,xIK,hs,hx,hrun];exact h
theorem xLT {ts:List Ty} (hok:TyOk ts) {i j:Int} (h:Rt ts i j):0<=i->0<=j:=
 h.closed (S:=fun z=>0<=z) (fun i t k _ h0 ht hk=>by
  obtain ⟨hl,rfl⟩:=List.getElem?_eq_some_iff.1 ht;have:=hok _ hl;unfold prtT at hk;split at hk
  ·rename_i e;rw [bR] at hk;subst hk;exact (this.1 e).1
  ·exact (this.2 k hk).1)
theorem xLV {b:Bdy} (D:DeclOk b) {p:Int} {l ms:List Int} (hl:∀x,x∈l↔Lv b.blocks x p) (hm:∀y,y∈ms↔∃x∈l,MnR b x y) (r:Int):clP b.outl (b.regions.length:Int) ms r↔RlP b r p:=by
 have hf:∀t∈b.types,t.kind≠4->t.flds=[]:=fun t ht=>by
  obtain ⟨i,hi,rfl⟩:=List.getElem_of_mem ht;exact (D.good i hi).2.2.2.2.2
 constructor
 ·rintro ⟨y,hy,h0,h1,hr⟩;obtain ⟨x,hx,lc,hlc,z,t,hz,ht,hk,he⟩:=(hm y).1 hy;have hrr:0<=r/\r<(b.regions.length:Int):=hr.back (S:=fun u=>0<=u/\u<(b.regions.length:Int)) (fun u v _ hp=>⟨(D.pairs _ hp).1,(D.pairs _ hp).2.1⟩) ⟨h0,h1⟩;exact ⟨x,(hl x).1 hx,lc,hlc,y,(xKL hf).2 ⟨z,t,hz,xLT D.tyok hz (D.locs lc (List.mem_of_getElem? hlc)).2.1,ht,hk,he⟩,h0,h1,hrr.1,hrr.2,hr⟩
 ·rintro ⟨x,hx,lc,hlc,s,hs,h0,h1,_,_,hr⟩;obtain ⟨z,t,hz,_,ht,hk,he⟩:=(xKL hf).1 hs;exact ⟨s,(hm s).2 ⟨x,(hl x).2 hx,lc,hlc,z,t,hz,ht,hk,he⟩,h0,h1,hr⟩
theorem xLQ {b:Bdy} {l ms s:List Int} {k:Nat} {x:Int} (h:∀y,y∈ms↔∃x∈l.take k,MnR b x y) (hs:∀y,y∈s↔MnR b x y) (ht:l.take (k+1)=l.take k ++ [x]) (y:Int):y∈ms ++ s↔∃x∈l.take (k+1),MnR b x y:=by
 rw [ht,cK,h,hs];constructor
 ·rintro (⟨z,hz,hm⟩ | hm)
  ·exact ⟨z,by simp [hz],hm⟩
  ·exact ⟨x,by simp,hm⟩
 ·rintro ⟨z,hz,hm⟩;rcases List.mem_append.1 hz with hz | hz
  ·exact .inl ⟨z,hz,hm⟩
  ·rw [List.mem_singleton.1 hz] at hm;exact .inr hm
theorem xLB (b:Bdy) (bh:BH) (w:World) (hT:TabsOk w) (H:BdAt w b bh) (h:Ok12 b):
 Calls Tryz.prog 18 #[.agg (bdC b bh).toArray] w fun e' w'=>∃A c s,e' = .returned (.tuple #[.slice A s.length c,.int .i64 0])/\Srt2 s (lvR b)/\Slc 2 RPr w' A c s/\Below w.heap.size w w':=by
 have D:=eN (mP h.chk);have HK:=aF (fun (W:World) (hb:Below w.heap.size w W)=>sQ b bh W (H.keep hb) (hT.keep hb));have HL:=aF (fun (W:World) (hb:Below w.heap.size w W)=>xKT b bh W (H.keep hb) h);have HN:=aF (fun (W:World) (hb:Below w.heap.size w W)=>xDG b.outl b.regions.length bh.A2 bh.c2 W (H.keep hb).out D.outl (by have:=D.nreg;omega));rw [h.chk] at HK;have hreg:=h.reg;have hcn:=h.cnt;have hrl:=H.reg.le;have hrb:=H.reg.big;have HH:=aF H;have HOK:=aF h;have HD:=aF D;have hmm:= @run_makeMap Tryz.prog;obtain ⟨W0,hW0⟩:∃W0,w.alloc (.cells ([Value.string b.name,.slice bh.A1 b.regions.length bh.c1,.slice bh.A2 b.outl.length bh.c2,.slice bh.A3 b.types.length bh.c3,.slice bh.A4 b.locals.length bh.c4,.int .i64 b.args,.slice bh.A5 b.blocks.length bh.c5]).toArray 28)=W0:=⟨_,rfl⟩;have yy:=cQ w [Value.string b.name,.slice bh.A1 b.regions.length bh.c1,.slice bh.A2 b.outl.length bh.c2,.slice bh.A3 b.types.length bh.c3,.slice bh.A4 b.locals.length bh.c4,.int .i64 b.args,.slice bh.A5 b.blocks.length bh.c5] 28;have hb0:=alF w (.cells ([Value.string b.name,.slice bh.A1 b.regions.length bh.c1,.slice bh.A2 b.outl.length bh.c2,.slice bh.A3 b.types.length bh.c3,.slice bh.A4 b.locals.length bh.c4,.int .i64 b.args,.slice bh.A5 b.blocks.length bh.c5]).toArray 28);have hsz:W0.heap.size=w.heap.size+1:=by rw [<- hW0];simp
 rw [hW0] at yy hb0;have HY:=aF yy;have y0:=yy 0 _ rfl;have y1:=yy 1 _ rfl;have y2:=yy 2 _ rfl;have y3:=yy 3 _ rfl;have y4:=yy 4 _ rfl;have y5:=yy 5 _ rfl;have y6:=yy 6 _ rfl;have HB0:=aF hb0;clear yy hb0 H D h hT;unfold newP2 at HN;unfold LocQ at HL;unfold bdC at *;go_enter Tryz.func18,Tryz.ntmps18
 go_wp2_with (first
  | (go_at_call 21;refine (HL.out _ (HB2.out.alloc HB2.out.size _)).mono ?_;rintro e' w4 ⟨A,c,ll,rfl,hll,hsr,hsl,hb4⟩;have HLL:=aF hll;have HSR:=aF hsr;have HSL:=aF hsl;have hsl0:=hsl;have HB4:=aF hb4;clear hll hsr hsl hb4 y0 y1 y2 y3 y4 y5 y6)
  | (go_at_call 45;refine (HN.out _ HB1.out).mono ?_;rintro e' w2 ⟨r0,M0,c0,F0,base0,rfl,hgi,hr0,hm0,hb2⟩;have HR:=aF hgi.rel3;have HB2:=aF (HB1.out.trans (hb2.mono HB1.out.size));have HX2:=aF (HBX.out.trans (hb2.mono HBX.out.size));replace y0:=cO hb2 y0;replace y1:=cO hb2 y1;replace y2:=cO hb2 y2;replace y3:=cO hb2 y3;replace y4:=cO hb2 y4;replace y5:=cO hb2 y5;replace y6:=cO hb2 y6;have hlw2:w.heap.size<w2.heap.size:=cD _ _ y0;clear hgi hr0 hm0 hb2)
  | (go_at_call 44;refine (HK.out _ HB0.out).mono ?_;rintro e' w1 ⟨rfl,hb1⟩;have HB1:=aF (HB0.out.trans (hb1.mono HB0.out.size));have HBX:=aF hb1;replace y0:=cO hb1 y0;replace y1:=cO hb1 y1;replace y2:=cO hb1 y2;replace y3:=cO hb1 y3;replace y4:=cO hb1 y4;replace y5:=cO hb1 y5;replace y6:=cO hb1 y6;clear hb1))
 have hlc:=hsl0.le;have hlb:=hsl0.big;rw [HLL.out] at hlc ⊢;have hw4:w2.heap.size<w4.heap.size:=by have:=HB4.out.size;simp at this;omega
 have HP0:Hid (PrW w2 w4 w2.heap.size [] w4):=aF ⟨(alF w2 (.map #[] 0)).trans (HB4.out.mono (by simp)),Kc.refl _,(OwnP.made w2).below HB4.out⟩;have HX4:Hid (Below W0.heap.size W0 w2):=HX2;have HBX4:=aF (HX2.out.trans (HP0.out.low.mono HX2.out.size));have HBW4:=aF (HB2.out.trans (HP0.out.low.mono HB2.out.size));obtain ⟨cn,hcne⟩:∃cn,cntB b.blocks=cn:=⟨_,rfl⟩;have HCN:=aF hcne;rw [hcne] at hcn hlc ⊢;obtain ⟨i0,hi0,hz0,hz1,hz2⟩:=info_parts dU;clear hcne hsl0 HL HK HN;go_loopw [32] (fun iv wr=>∃(p:Nat) (ps:List (Int × Int)),iv = .int .i64 p/\p<=cn/\ps.length<=p * 65536/\Hid (PrW w2 w4 w2.heap.size ps wr)/\Hid (∀z,z∈ps↔lvR b z/\z.2<(p:Int))) (fun iv _=>cn - (intOf iv).toNat)
 case atStart=>exact ⟨0,[],rfl,by omega,by simp,HP0,aF (fun z=>⟨fun h=>(by cases h),fun ⟨h1,h2⟩=>(by have:=RlP.lt h1;omega)⟩)⟩
 case round=>
  clear HP0;obtain ⟨p,ps,rfl,hp,hpn,HP,HM⟩:=hrel;have HBX:=aF (HX4.out.trans (HP.out.low.mono HX4.out.size));by_cases hlt:p<cn
  case neg=>
   obtain rfl:p=cn:=by omega
   have HMA:=aF (fun z=>(HM.out z).trans ⟨fun h=>h.1,fun h=>⟨h,by have:=RlP.lt h;have:=HCN.out;omega⟩⟩);have HSR:=aF (xKP wr.heap.size w2.heap.size ps.length ps (wr.alloc (.cells #[.map (some w2.heap.size)] 94)) (by simp) (cQ wr [.map (some w2.heap.size)] _ 0 _ rfl) (HP.out.own.alloc _) (by omega));have HBR:Hid (Below w.heap.size w (wr.alloc (.cells #[.map (some w2.heap.size)] 94))):=aF ((HB2.out.trans (HP.out.low.mono HB2.out.size)).alloc ((HB2.out.trans (HP.out.low.mono HB2.out.size)).size) _)
   go_wp2_with (first
    | (go_at_call 49;refine (xLG _ _).mono ?_;rintro e' w8 ⟨rfl,rfl⟩)
    | (go_at_call 48;refine HSR.out.mono ?_;rintro e' w9 ⟨A,c,s,rfl,hs,hl,hb9⟩;have HS9:=aF hs;have HL9:=aF hl;have HB9:=aF hb9;clear hs hl hb9))
   go_ret2
   exact ⟨A,c,s,rfl,HS9.out.iff HMA.out,HL9.out,HBR.out.trans (HB9.out.mono HBR.out.size)⟩
  case pos=>
  have hpl:p<ll.length:=by rw [HLL.out,HCN.out];exact hlt
  obtain ⟨g2,o2,rfl,hg2,hx⟩:=HSL.out.sl.at_ hpl;have hlp:=bD hpl;obtain ⟨l,hl⟩:∃l,ll[p]=l:=⟨_,rfl⟩;rw [hl] at hx hlp;obtain ⟨A3,c3,x0,hl1,hl2,hl3⟩:=hx;rw [Nat.mul_one] at x0;replace x0:=HP.out.kc.cell _ _ x0;have HSP:=aF (HSR.out p l hlp);have HL3:Hid (Slc 1 RInt w4 A3 c3 l):=aF ⟨hl3,hl1,hl2⟩;clear hl hlp hl3
  have hl20:l.length<=20:=by
   have:=HSP.out.len (n:=b.locals.length) (fun z hz=>by have:=lv_in HOK.out.chk hz;unfold LocIn at this;omega);have:=HOK.out.loc;omega
  have hM4:w2.heap.size<w4.heap.size:=hw4;go_wp2_with fail
  go_loopw [9,39] (fun v iv wr=>∃(k:Nat) (ms:List Int),iv = .int .i64 k/\k<=l.length/\ms.length<=k * 65536/\Hid (PrW w2 w4 w2.heap.size ps wr)/\Hid (wr.ownsRow w4.heap.size 3 1 v ms.length (ms.map (Value.int .i64)))/\Hid (∀y,y∈ms↔∃x∈l.take k,MnR b x y)) (fun _ iv _=>l.length - (intOf iv).toNat)
  case atStart=>exact ⟨0,[],rfl,by omega,by simp,HP,aF (World.ownsRow_nil _ _ _ _),aF (by simp)⟩
  case round=>
   clear HP HBX x0;obtain ⟨k,ms,rfl,hk,hmn,HP,HO,HMS⟩:=hrel;have hP4:=HP.out.kc.size;by_cases hkl:k<l.length
   case neg=>
    obtain rfl:k=l.length:=by omega
    rw [bZ] at HMS;have HQ:=aF (xLV HD.out (fun x=>HSP.out.2 x) HMS.out);obtain ⟨VA,vc,rfl,hs5,-⟩:=fD (R:=RInt) (fun _ _ _ _ _ h=>h) HO.out rfl;have HCLO:=aF (xKR b.outl b.regions.length r0 wr (HR.out.keep HP.out.low) HD.out.pairs (by omega) HD.out.nout ms VA vc hs5);have hs5l:=hs5.le;have hs5b:=hs5.big;clear hs5 HMS HO;go_wp2_with (go_at_call 47;refine HCLO.out.mono ?_;rintro e' w5 ⟨B5,d5,s,rfl,hs5,hsl5,-,hb5⟩;have HS5:=aF (hs5.iff HQ.out);have HSL5:=aF hsl5;have hle5:=hsl5.le;have hbg5:=hsl5.big;have HP5:=aF (HP.out.keep hb5);clear hs5 hsl5 hb5)
    have hs10:s.length<=10:=by
     have:=HS5.out.len (n:=b.regions.length) (fun z hz=>by have:=RlP.lt hz;omega);omega
    clear HP HCLO HQ;go_loopw [59] (fun jv wr=>∃(j:Nat) (qs:List (Int × Int)),jv = .int .i64 j/\j<=s.length/\qs.length<=ps.length+j/\Hid (PrW w2 w4 w2.heap.size qs wr)/\Hid (Kc w5 wr)/\Hid (∀z,z∈qs↔z∈ps\/∃r∈s.take j,z=(r,(p:Int)))) (fun jv _=>s.length - (intOf jv).toNat)
    case atStart=>exact ⟨0,ps,rfl,by omega,by omega,HP5,aF (Kc.refl _),aF (by simp)⟩
    case round=>
     clear HP5;obtain ⟨j,qs,rfl,hj,hqn,HP,HKC,HQS⟩:=hrel;by_cases hjl:j<s.length
     case neg=>
      obtain rfl:j=s.length:=by omega
      rw [bZ] at HQS
      have HM2:Hid (∀z,z∈qs↔lvR b z/\z.2<((p+1:Nat):Int)):=aF (fun z=>by
       obtain ⟨z1,z2⟩:=z;rw [HQS.out,HM.out];unfold lvR;simp only;constructor
       ·rintro (⟨h1,h2⟩ | ⟨r,hr,e⟩)
        ·exact ⟨h1,by omega⟩
        ·injection e with e1 e2
         subst e1 e2;exact ⟨(HS5.out.2 _).1 hr,by omega⟩
       ·rintro ⟨h1,h2⟩;by_cases e:z2=(p:Int)
        ·subst e;exact .inr ⟨z1,(HS5.out.2 _).2 h1,rfl⟩
        ·exact .inl ⟨h1,by omega⟩)
      go_wp2_with fail
      go_roundw
      case rel=>exact ⟨p+1,qs,by go_num,by omega,by omega,HP,HM2⟩
      case measure=>simp [intOf];omega
     case pos=>
     obtain ⟨g6,o6,rfl,hg6,hy6⟩:=(HSL5.out.keepC RInt.keepsC HKC.out).sl.at_ hjl;have hyl:=bD hjl;have hyr:=RlP.lt ((HS5.out.2 _).1 (bM hjl));have HTK:=aF (bF hjl);obtain ⟨y,hyy⟩:∃y,s[j]=y:=⟨_,rfl⟩;rw [hyy] at hy6 hyr HTK;have y0:wr.cell? ⟨g6,o6+j,none⟩=some (.int .i64 y):=(by simpa [RInt] using hy6);have hwf1:(Lit.int .i64 y).wf=true:=by simp [Lit.wf,IntKind.min,IntKind.max,IntKind.signed,IntKind.bits];omega
     have hwf2:(Lit.int .i64 (p:Int)).wf=true:=by simp [Lit.wf,IntKind.min,IntKind.max,IntKind.signed,IntKind.bits];omega
     have HW1:=aF hwf1;have HW2:=aF hwf2;clear hy6 hyl hyy hwf1 hwf2;go_wp2_with (at_mapUpdate;refine xJD _ rfl _ _ _ rfl w2.heap.size qs.length qs rfl HP.out.own (by unfold maxLen;omega) y (p:Int) rfl rfl HW1.out HW2.out ?_;intro w7 ho7 hg7;have HP7:=aF (HP.out.put (aY _) ho7 hg7);have HK7:=aF (HKC.out.trans (by obtain ⟨es,ck,h1⟩:=HP.out.own.obj;exact Kc.of_grown (fun cs e z g=>by rw [h1] at g;cases g) hg7));clear ho7 hg7)
     have HQ7:Hid (∀z,z∈(y,(p:Int)) :: qs↔z∈ps\/∃r∈s.take (j+1),z=(r,(p:Int))):=aF (fun z=>by
      rw [cL,HQS.out,HTK.out];constructor
      ·rintro (rfl | h | ⟨r,hr,e⟩)
       ·exact .inr ⟨y,by simp,rfl⟩
       ·exact .inl h
       ·exact .inr ⟨r,by simp [hr],e⟩
      ·rintro (h | ⟨r,hr,e⟩)
       ·exact .inr (.inl h)
       ·rcases List.mem_append.1 hr with hr | hr
        ·exact .inr (.inr ⟨r,hr,e⟩)
        ·rw [List.mem_singleton.1 hr] at e;exact .inl e)
     go_roundw
     case rel=>exact ⟨j+1,(y,(p:Int)) :: qs,by go_num,by omega,by simp;omega,HP7,HK7,HQ7⟩
     case measure=>simp [intOf];omega
   case pos=>
   have HBW:=aF (HB2.out.trans (HP.out.low.mono HB2.out.size));obtain ⟨g3,o3,rfl,hg3,hx3⟩:=(HL3.out.keepC RInt.keepsC HP.out.kc).sl.at_ hkl;have hxin:=lv_in HOK.out.chk ((HSP.out.2 _).1 (bM hkl));have HTK:=aF (bF hkl);obtain ⟨x,hxx⟩:∃x,l[k]=x:=⟨_,rfl⟩;rw [hxx] at hx3 hxin HTK;unfold LocIn at hxin;obtain ⟨xn,rfl⟩:=bG hxin.1;have hxn:xn<b.locals.length:=by omega
   have z0:wr.cell? ⟨g3,o3+k,none⟩=some (.int .i64 (xn:Int)):=by simpa [RInt] using hx3
   obtain ⟨g4,o4,hA4,hg4,hx4⟩:=(HH.out.loc.keep RLc.keeps HBW4.out).sl.at_ hxn;have hlc:b.locals[((xn:Nat):Int).toNat]?=some b.locals[xn]:=by simp [hxn]
   obtain ⟨lc,hlcc⟩:∃lc,b.locals[xn]=lc:=⟨_,rfl⟩;rw [hlcc] at hx4 hlc;obtain ⟨-,z6⟩:=hx4;have hlt2:=(HD.out.locs lc (List.mem_of_getElem? hlc)).2;obtain ⟨tn,htn⟩:=bG hlt2.1;rw [htn] at z6 hlt2;have z3:=cO HBX4.out (HY.out 3 _ rfl);have z4:=cO HBX4.out (HY.out 4 _ rfl);rw [hA4] at z4;have HKS:Hid (∀X,Kc w4 X->(fun X=>X.cell? ⟨w.heap.size,3,none⟩=some (.slice bh.A3 b.types.length bh.c3)/\X.cell? ⟨w.heap.size,4,none⟩=some (.slice (some ⟨g4,o4,none⟩) b.locals.length bh.c4)/\X.cell? ⟨g4,o4+xn * 2+1,none⟩=some (.int .i64 (tn:Int))) X):=aF (fun X hk=>⟨hk.cell _ _ z3,hk.cell _ _ z4,hk.cell _ _ z6⟩);clear z3 z4 z6;have hlT:=HH.out.typ.le;have hbT:=HH.out.typ.big;have hlL:=HH.out.loc.le;have hbL:=HH.out.loc.big;have HMR:=aF (xLE b.types HD.out.tyok HD.out.ntyp tn (by omega) bh.A3 bh.c3 wr.drew (HH.out.typ.keep RTy.keeps HBW.out.drew))
   have HMN:Hid (∀s:List Int,Srt s (fun r=>∃x,Rt b.types (tn:Int) x/\PtR b.types x r)->s.length<=65535/\∀y,y∈s↔MnR b (xn:Int) y):=aF (fun s hs=>⟨by
    have h1:=xIP s (b.types.map (·.reg)) hs.nodup (fun r hr=>by obtain ⟨x,_,u,hu,_,e⟩:=(hs.2 r).1 hr;exact List.mem_map.2 ⟨u,List.mem_of_getElem? hu,e⟩);have h2:=HD.out.ntyp
    simp at h1;omega,fun y=>(hs.2 y).trans ⟨fun ⟨z,h1,u,h2⟩=>⟨lc,hlc,z,u,by rw [htn];exact h1,h2⟩,fun ⟨l',h0,z,u,h1,h2⟩=>by
     rw [hlc] at h0;injection h0 with h0;subst h0
     rw [htn] at h1
     exact ⟨z,h1,u,h2⟩⟩⟩)
   clear hxin hx3 hxx hlc hlcc hlt2 htn hA4;go_wp2_with fail
   have hS:(fun X=>X.cell? ⟨w.heap.size,3,none⟩=some (.slice bh.A3 b.types.length bh.c3)/\X.cell? ⟨w.heap.size,4,none⟩=some (.slice (some ⟨g4,o4,none⟩) b.locals.length bh.c4)/\X.cell? ⟨g4,o4+xn * 2+1,none⟩=some (.int .i64 (tn:Int))) wr.drew:=HKS.out _ (HP.out.kc.trans (.of_below (aX _ _).drew));refine cT (S:=fun X=>X.cell? ⟨w.heap.size,3,none⟩=some (.slice bh.A3 b.types.length bh.c3)/\X.cell? ⟨w.heap.size,4,none⟩=some (.slice (some ⟨g4,o4,none⟩) b.locals.length bh.c4)/\X.cell? ⟨g4,o4+xn * 2+1,none⟩=some (.int .i64 (tn:Int))) [0,1,2,3,4,5,6,7,8,9,10,11] (by kernel_rfl) ?_;(iterate 9 (refine cR (v:=?_) ?_ hS ?_;rotate_left;(next=>(rintro X ⟨q1,q2,q3⟩;(try simp only [aI]);go_simp;rfl));simp only [aM]));(refine cY (fun K1 hK1=>?_);simp only [aM];rw [bA (by rfl)];go_simp);go_at_call 46
   refine HMR.out.mono ?_;rintro e' w6 ⟨B6,d6,s6,rfl,hs6,hsl6,hlo6,hb6⟩;have HS6:=aF (HMN.out s6 hs6);have hs6l:=HS6.out.1;have H6:=aF hsl6;have HB6:=aF ((aX wr.heap.size wr).drew.trans hb6);have HP6:=aF (HP.out.keep HB6.out);have HO6:=aF (dG HO.out HB6.out);have hP6:=HP6.out.kc.size;have HMS2:=aF (xLQ HMS.out HS6.out.2 HTK.out);have hS6:=HKS.out _ HP6.out.kc;clear hs6 hsl6 hlo6 hb6 hS;refine hK1.out _ _ (fun _=>hS6) ?_;(refine cY (fun K1 hK1=>?_);simp only [aM];rw [bA (by rfl)]);rcases B6 with _ | a6
   ·obtain rfl:s6=[]:=xLJ H6.out;rw [List.append_nil] at HMS2;refine xKN (.tmp 43) (.tmp 52) 34 rfl w4.heap.size 3 i0 1 Tryz.underlying34 hi0 _ ms.length _ rfl HO6.out d6 rfl ?_;refine hK1.out _ _ (fun _=>hS6) ?_;have hS:=hS6;((refine cR (v:=?_) ?_ hS ?_;rotate_left;(next=>(rintro X -;(try simp only [aI]);go_simp;rfl));simp only [aM]))
    refine cZ ?_;clear hS hS6;go_wp2_with fail
    go_roundw
    case rel=>exact ⟨k+1,ms,by go_num,by omega,by rw [Nat.succ_mul];exact bX hmn (Nat.le_add_right _ _),HP6,HO6,HMS2⟩
    case measure=>simp [intOf];omega
   ·refine fM (.tmp 43) (.tmp 52) 34 rfl w4.heap.size 3 i0 (.int .i64 0) 1 8 Tryz.underlying34 hi0 hz0 hz1 hz2 rfl (by decide) _ ms.length _ rfl HO6.out a6 s6.length d6 (s6.map (Value.int .i64)) rfl (by simp) (xKX H6.out) (fun u hu=>by rw [xIL] at hu;obtain ⟨z,_,rfl⟩:=hu;rfl) (by unfold maxLen;omega) (by omega) (by omega) ?_;intro v7 w7 hown7 hgrow7 _;have HP7:=aF (HP6.out.grow (Nat.le_of_lt hM4) hM4 HO6.out hgrow7);have HO7:Hid (w7.ownsRow w4.heap.size 3 1 v7 (ms ++ s6).length ((ms ++ s6).map (Value.int .i64))):=aF (by rw [bB,bS];exact hown7);have hS:=HKS.out _ HP7.out.kc;refine hK1.out _ _ (fun _=>hS) ?_;((refine cR (v:=?_) ?_ hS ?_;rotate_left;(next=>(rintro X -;(try simp only [aI]);go_simp;rfl));simp only [aM]))
    refine cZ ?_;clear hS hS6 hown7 hgrow7;go_wp2_with fail
    go_roundw
    case rel=>exact ⟨k+1,ms ++ s6,by go_num,by omega,by rw [bB];omega,HP7,HO7,HMS2⟩
    case measure=>simp [intOf];omega
end
section
open Go Go.RowKit
attribute [local irreducible] Calls
theorem xLM (d:Nat) (x y:Int × Int) (w:World):(Op.equalIn (d+1+1) 43 (.agg #[.int .i64 x.1,.int .i64 x.2]) (.agg #[.int .i64 y.1,.int .i64 y.2])).run Tryz.prog w = .ok (decide (x=y)) w:=by
 have u3:=Tryz.underlying3;have a3:=Tryz.isAgg3;have z3:=Tryz.sizeOf3;have u:=Tryz.underlying43;obtain ⟨x1,x2⟩:=x;obtain ⟨a,b⟩:=y;have e1:=fun p q=>run_equalIn_int (P:=Tryz.prog) w d 3 .i64 .i64 p q u3
 rw [Op.equalIn];simp only [Sem.run_bind,run_underlying u,Result.andThen_ok,z3,Std.Legacy.Range.forIn_eq_forIn_range',Std.Legacy.Range.size];go_simp;generalize Op.equalIn (d+1) 3=f at *;simp [List.range',go_sem,e1];by_cases h1:x1=a <;> by_cases h2:x2=b <;> simp [h1,h2]
theorem eqlPr (x y:Int × Int) (w:World):Sem.run Tryz.prog (binOp .eql 43 (.agg #[.int .i64 x.1,.int .i64 x.2]) (.agg #[.int .i64 y.1,.int .i64 y.2])) w = .ok (.bool (decide (x=y))) w:=by
 rw [run_eql_struct,show (10000:Nat)=9998+1+1 from rfl,xLM];simp
theorem pr_at {w wr:World} {A:Option Addr} {c:Nat} {s:List (Int × Int)} (h:Slc 2 RPr w A c s) (hb:Below w.heap.size w wr) {k:Nat} (hk:k<s.length):∃g o,A=some ⟨g,o,none⟩/\wr.cell? ⟨g,o+k * 2,none⟩=some (.int .i64 s[k].1)/\wr.cell? ⟨g,o+k * 2+1,none⟩=some (.int .i64 s[k].2):=by
 obtain ⟨g,o,hA,_,hx⟩:=(h.keep RPr.keeps hb).sl.at_ hk;exact ⟨g,o,hA,hx.1,hx.2⟩
theorem xKY (A:Option Addr) (c:Nat) (s:List (Int × Int)) (x:Int × Int) (w:World) (h:Slc 2 RPr w A c s):
 Calls Tryz.prog 58 #[.slice A s.length c,.agg #[.int .i64 x.1,.int .i64 x.2]] w fun e' w'=>(∃r:Int,e' = .returned (.int .i64 r)/\(0<=r↔x∈s))/\Below w.heap.size w w':=by
 have HS:=aF h;have n1:=h.le;have n2:=h.big;clear h;obtain ⟨W0,hW0⟩:∃W,w.alloc (.cells #[.int .i64 x.1,.int .i64 x.2] 43)=W:=⟨_,rfl⟩;have hb0:=alF w (.cells #[.int .i64 x.1,.int .i64 x.2] 43);obtain ⟨a0,a1⟩:=xBH w (.int .i64 x.1) (.int .i64 x.2) 43;rw [hW0] at hb0 a0 a1;have HB0:=aF hb0;have HA:=aF (fun W (hb:Below W0.heap.size W0 W)=>bJ (cO hb a0) (cO hb a1));clear hb0 a0 a1;have HM0:=aF (fun k (h:k<s.length)=>bM h);go_enter Tryz.func58,Tryz.ntmps58
 go_wp2_with fail
 go_loopw [8] (fun i wr=>∃k:Nat,i = .int .i64 k/\k<=s.length/\Hid (x∉s.take k)/\Hid (Below W0.heap.size W0 wr)) (fun i _=>s.length - (intOf i).toNat)
 case atStart=>exact ⟨0,rfl,by omega,aF (by simp),aF (aX _ _)⟩
 case round=>
  obtain ⟨k,rfl,hk,HN,HB⟩:=hrel;have HBW:=aF (HB0.out.trans (HB.out.mono HB0.out.size));obtain ⟨a0,a1⟩:=HA.out wr HB.out;by_cases hlt:k<s.length
  case pos=>
   obtain ⟨g,o,rfl,x0,x1⟩:=pr_at HS.out HBW.out hlt;have HM:=aF (bM hlt);have HT:=aF (bF hlt);have hne:=eqlPr x s[k];generalize s[k]=y at *;obtain ⟨p,q⟩:=x;obtain ⟨r,t⟩:=y;simp only at *;by_cases hxy:(p,q)=(r,t)
   ·rw [decide_eq_true hxy] at hne;have HI:Hid ((p,q)∈s):=aF (by rw [hxy];exact HM.out);clear hxy;go_wp2_with fail
    go_quiet (fail)
    go_wp2_with fail
    go_ret;exact ⟨⟨_,rfl,⟨fun _=>HI.out,fun _=>by omega⟩⟩,aG HBW.out _⟩
   ·rw [decide_eq_false hxy] at hne;have HN2:Hid ((p,q)∉s.take (k+1)):=aF (by rw [HT.out,cK,bR];exact fun h=>h.elim HN.out hxy);clear hxy;go_wp2_with fail
    go_quiet (fail)
    go_wp2_with fail
    go_roundw
    case rel=>exact ⟨k+1,by go_num,by omega,HN2,aF (aG HB.out _)⟩
    case measure=>simp [intOf];omega
  case neg=>
   have HN2:Hid (x∉s):=aF (by have:=HN.out;rwa [List.take_of_length_le (by omega)] at this);go_wp2_with fail
   go_ret;exact ⟨⟨-1,rfl,⟨fun h=>absurd h (by decide),fun h=>absurd h HN2.out⟩⟩,HBW.out⟩
theorem xLH (A:Option Addr) (c:Nat) (s:List (Int × Int)) (x:Int × Int) (w:World) (h:Slc 2 RPr w A c s):
 Calls Tryz.prog 29 #[.slice A s.length c,.agg #[.int .i64 x.1,.int .i64 x.2]] w fun e' w'=>e' = .returned (.bool (decide (x∈s)))/\Below w.heap.size w w':=by
 have hal:=alF w (.cells #[.int .i64 x.1,.int .i64 x.2] 43);have HX:=aF (xKY A c s x _ (h.keep RPr.keeps hal));have HAL:=aF hal;clear h hal;obtain ⟨P,hP⟩:∃P:Bool,decide (x∈s)=P:=⟨_,rfl⟩;have HP:=aF hP;rw [hP];clear hP;go_enter Tryz.func29,Tryz.ntmps29
 go_wp2_with (go_at_call 58;refine HX.out.mono ?_;rintro e' w1 ⟨⟨r,rfl,hr⟩,hw1⟩;have HR:=aF hr;clear hr)
 go_ret;refine ⟨?_,HAL.out.trans (hw1.mono HAL.out.size)⟩;have e:decide (0<=r)=decide (x∈s):=decide_eq_decide.2 HR.out;rw [<- HP.out,e];rfl
end
section
open Go Go.RowKit Go.Lib Go.Sort
attribute [local irreducible] Calls
theorem xKU (w:World) (n:Nat) (os:Array Obj):Below w.heap.size w (grow (w.drewN n) os):=
 ⟨rfl,rfl,rfl,by rw [size_grow];exact Nat.le_add_right _ _,fun k hk=>heap_grow_old (w.drewN n) os hk⟩
theorem xKQ (A:Option Addr) (c:Nat) (s:List (Int × Int)) (w:World) (h:Slc 2 RPr w A c s) (hs:s.Pairwise lt2):
 Calls Tryz.prog 30 #[.slice A s.length c,.func (.func 31) #[] #[]] w fun e w'=>e = .returned (.bool true)/\Below w.heap.size w w':=by
 have HS:=aF h;have HP:=aF (fun k (hk:k+1<s.length)=>List.pairwise_iff_getElem.1 hs k (k+1) (by omega) hk (by omega));have n1:=h.le;have n2:=h.big;clear h hs;go_enter Tryz.func30,Tryz.ntmps30
 by_cases h0:s.length=0
 ·obtain rfl:=bU h0;clear h0;go_wp2_with fail
  go_loopw [5] (fun i wr=>i = .int .i64 (-1)/\Hid (Below w.heap.size w wr)) (fun _ _=>0)
  case atStart=>exact ⟨rfl,aF (aX _ _)⟩
  case round=>
   obtain ⟨rfl,HB⟩:=hrel;go_wp2_with fail
   go_ret;exact ⟨rfl,HB.out⟩
 ·have hp:0<s.length:=by omega
  clear h0;go_wp2_with fail
  go_loopw [5] (fun i wr=>∃k:Nat,i = .int .i64 k/\k<s.length/\Hid (Below w.heap.size w wr)) (fun i _=>(intOf i).toNat)
  case atStart=>exact ⟨s.length - 1,by go_num,by omega,aF (aX _ _)⟩
  case round=>
   obtain ⟨k,rfl,hk,HB⟩:=hrel;by_cases hk0:0<k
   case neg=>
    obtain rfl:k=0:=by omega
    go_wp2_with fail
    go_ret;exact ⟨rfl,HB.out⟩
   case pos=>
   obtain ⟨m,hm⟩:∃m,k=m+1:=⟨k - 1,by omega⟩;have hwk:IntKind.i64.wrap ((k:Int) - 1)=(m:Int):=by rw [IntKind.wrap_i64];omega
   have hkl:(k:Int)<=9223372036854775807:=by omega
   have hmn:m<s.length:=by omega
   have hl:lt2 s[m] s[k]:=by subst hm;exact HP.out m hk
   have HMK:=aF hm;obtain ⟨g,o,rfl,x0,x1⟩:=pr_at HS.out HB.out hk;obtain ⟨g',o',hA,y0,y1⟩:=pr_at HS.out HB.out hmn;injection hA with hA
   injection hA with e1 e2
   subst e1 e2;clear hm;have HC:=aF (fun W=>xLO s[k] s[m] W);have HN:Hid (cmp2 s[k] s[m]<0->False):=aF (fun h=>jG hl ((xIT _ _).1 h));clear hl;generalize s[k]=p at *;generalize s[m]=q at *;obtain ⟨p1,p2⟩:=p;obtain ⟨q1,q2⟩:=q;generalize cmp2 (p1,p2) (q1,q2)=r at *;simp only at *;have hr:¬r<0:=HN.out;go_wp2_with fail
   go_still_tail 10,(by kernel_rfl)
   change wpList _ _ _ _ _ wr.drew;go_wp2_with (go_at_call 31;refine (HC.out _).mono ?_;rintro e' w3 ⟨rfl,n3,os3,rfl⟩)
   go_roundw
   case rel=>exact ⟨m,by rw [<- hwk],hmn,aF (HB.out.trans ((xKU wr _ _).mono HB.out.size))⟩
   case measure=>have:=HMK.out;simp [intOf];omega
end
section
open Go Go.RowKit
attribute [local irreducible] Calls
theorem rl_up {b:Bdy} (h:chkB b=0) {r s p:Int} (h0:0<=r) (h1:r<(b.regions.length:Int)) (hl:lvR b (s,p)) (ho:outB b.outl b.regions.length r s=true):lvR b (r,p):=by
 have D:=eN (mP h);have hs:=RlP.lt hl;obtain ⟨x,a1,lc,a2,u,a3,a4,a5,a6,a7,a8⟩:=hl;exact ⟨x,a1,lc,a2,u,a3,a4,a5,h0,h1,((xAB D.pairs h0 h1 hs.1 hs.2.1).1 ho).trans a8⟩
theorem xLF (b:Bdy) (bh:BH) (w:World) (hT:TabsOk w) (H:BdAt w b bh) (hz:NmOk b):
 Calls Tryz.prog 8 #[.agg (bdC b bh).toArray] w fun e' w'=>e' = .returned (.bool true)/\Below w.heap.size w w':=by
 have HAL:=aF (fun (W:World) (hb:Below w.heap.size w W)=>qQ W (hT.keep hb));have HSK:=aF (fun (W:World) (hb:Below w.heap.size w W)=>oO b bh W (H.keep hb) hz);have HPR:=aF (fun (W:World) (hb:Below w.heap.size w W) (ho:Ok12 b)=>xLB b bh W (hT.keep hb) (H.keep hb) ho);have HOU:=aF (fun (W:World) (hb:Below w.heap.size w W) (ho:Ok12 b) (r s:Int)=>iK b.outl b.regions.length r s bh.A2 bh.c2 W (H.keep hb).out (eN (mP ho.chk)).pairs (by have:=ho.reg;omega));have n3:=H.reg.le;have n4:=H.reg.big;have n5:=H.out.le;have n6:=H.out.big;obtain ⟨A1,c1,A2,c2,A3,c3,A4,c4,A5,c5⟩:=bh;unfold bdC at *;simp only at *;obtain ⟨W0,hW0⟩:∃W,w.alloc (.cells ([Value.string b.name,.slice A1 b.regions.length c1,.slice A2 b.outl.length c2,.slice A3 b.types.length c3,.slice A4 b.locals.length c4,.int .i64 b.args,.slice A5 b.blocks.length c5]).toArray 28)=W:=⟨_,rfl⟩;have hb0:Below w.heap.size w W0:=by rw [<- hW0];exact (aX _ _).alloc (aY _) _
 have HB0:=aF hb0;have hcx:=cQ w [Value.string b.name,.slice A1 b.regions.length c1,.slice A2 b.outl.length c2,.slice A3 b.types.length c3,.slice A4 b.locals.length c4,.int .i64 b.args,.slice A5 b.blocks.length c5] 28;rw [hW0] at hcx;have HX:=aF (fun (W:World) (hb:Below W0.heap.size W0 W) i v h=>cO hb (hcx i v h));have hX:=hcx;obtain ⟨y0,y1,y2,y3,y4,y5,y6⟩:=aS hX;clear hX hcx hb0 hT H hz;go_enter Tryz.func8,Tryz.ntmps8
 go_wp2_with fail
 go_at_call 9
 refine (HSK.out W0 HB0.out).mono ?_;rintro e' w1 ⟨⟨q,rfl,hq⟩,hw1⟩;clear y0 y1 y2 y3 y4 y5 y6;have hX:=HX.out w1 hw1;obtain ⟨y0,y1,y2,y3,y4,y5,y6⟩:=aS hX;clear hX;have HW1:=aF hw1;have HB1:=aF (HB0.out.trans (hw1.mono HB0.out.size));clear hw1;by_cases hq0:0<q
 ·clear hq;go_wp2_with (go_at_call 10;refine (HAL.out _ HB1.out).mono ?_;rintro e' w2 ⟨rfl,hw2⟩)
  go_ret;exact ⟨rfl,HB1.out.trans (hw2.mono HB1.out.size)⟩
 have HOK:=aF (hq (by omega));clear hq;go_wp2_with (go_at_call 18;refine (HPR.out _ HB1.out HOK.out).mono ?_;rintro e' w2 ⟨A6,c6,s,rfl,hs,h6,hw2⟩;have HS:=aF hs;have H2:=aF h6;have n7:=h6.le;have n8:=h6.big;have HB2:=aF (HB1.out.trans (hw2.mono HB1.out.size));have HW2:=aF (HW1.out.trans (hw2.mono HW1.out.size));clear hs h6 hw2;clear y0 y1 y2 y3 y4 y5 y6)
 go_loopw [2,21] (fun q i wr=>∃k:Nat,q = .bool false/\i = .int .i64 k/\k<=s.length/\Hid (Below w2.heap.size w2 wr)) (fun _ i _=>s.length - (intOf i).toNat)
 case atStart=>exact ⟨0,rfl,rfl,by omega,aF (aX _ _)⟩
 case round=>
 obtain ⟨k,rfl,rfl,hk,HB⟩:=hrel;have HWr:=aF (HW2.out.trans (HB.out.mono HW2.out.size));have HBr:=aF (HB2.out.trans (HB.out.mono HB2.out.size));by_cases hlt:k<s.length
 case neg=>
  go_wp2_with (first
   | (go_at_call 30;refine (xKQ A6 c6 s w4 HC4.out HS.out.1).mono ?_;rintro e' w5 ⟨rfl,hw5⟩)
   | (go_at_call 10;refine (HAL.out _ HBr.out).mono ?_;rintro e' w4 ⟨rfl,hw4⟩;have HB4:=aF (HBr.out.trans (hw4.mono HBr.out.size));have HC4:=aF (H2.out.keep RPr.keeps (HB.out.trans (hw4.mono HB.out.size)));clear hw4))
  go_ret;exact ⟨rfl,HB4.out.trans (hw5.mono HB4.out.size)⟩
 case pos=>
 obtain ⟨g,o,rfl,x0,x1⟩:=pr_at H2.out HB.out hlt;have HL:=aF ((HS.out.2 _).1 (bM hlt));obtain ⟨y,hy⟩:∃y,s[k]=y:=⟨_,rfl⟩;rw [hy] at x0 x1 HL;obtain ⟨p1,p2⟩:=y;clear hy;have hX:=HX.out wr HWr.out;obtain ⟨y0,y1,y2,y3,y4,y5,y6⟩:=aS hX;clear hX;have hwr:w.heap.size<wr.heap.size:=cD _ _ y0;obtain ⟨W3,hW3⟩:∃W,wr.alloc (.cells #[.int .i64 p1,.int .i64 p2] 43)=W:=⟨_,rfl⟩;have hb3:=alF wr (.cells #[.int .i64 p1,.int .i64 p2] 43);obtain ⟨a0,a1⟩:=xBH wr (.int .i64 p1) (.int .i64 p2) 43;rw [hW3] at hb3 a0 a1;have HW3:=aF (HWr.out.trans (hb3.mono HWr.out.size));have HBr3:=aF (HBr.out.trans (hb3.mono HBr.out.size));have HC3:=aF (HB.out.trans (hb3.mono HB.out.size));have HA:=aF (fun W (hb:Below W3.heap.size W3 W)=>bJ (cO hb a0) (cO hb a1));clear y0 y1 y2 y3 y4 y5 y6;have hX:=HX.out W3 HW3.out;obtain ⟨y0,y1,y2,y3,y4,y5,y6⟩:=aS hX;clear hX hb3 a0 a1 HB HWr HBr;go_wp2_with fail
 go_loopw [2,28] (fun q i wr=>∃r:Nat,q = .bool false/\i = .int .i64 r/\r<=b.regions.length/\Hid (Below W3.heap.size W3 wr)) (fun _ i _=>b.regions.length - (intOf i).toNat)
 case atStart=>exact ⟨0,rfl,rfl,by omega,aF (aX _ _)⟩
 case round=>
  clear y0 y1 y2 y3 y4 y5 y6;clear x0 x1 hW3;obtain ⟨r,rfl,rfl,hr,HB⟩:=hrel;have HWx:=aF (HW3.out.trans (HB.out.mono HW3.out.size));have HBx:=aF (HBr3.out.trans (HB.out.mono HBr3.out.size));have HCx:=aF (HC3.out.trans (HB.out.mono HC3.out.size));by_cases hrl:r<b.regions.length
  case neg=>
   go_wp2_with fail
   go_roundw
   case rel=>exact ⟨k+1,rfl,by go_num,by omega,HCx⟩
   case measure=>simp [intOf];omega
  case pos=>
  have hX:=HX.out wr HWx.out;obtain ⟨y0,y1,y2,y3,y4,y5,y6⟩:=aS hX;clear hX;obtain ⟨a0,a1⟩:=HA.out wr HB.out;have HO:=aF (HOU.out wr HBx.out HOK.out (r:Int) p1);cases ho:outB b.outl b.regions.length (r:Int) p1
  ·rw [ho] at HO;clear ho;go_wp2_with (go_at_call 28;refine HO.out.mono ?_;rintro e' w5 ⟨rfl,hw5⟩;have HB5:=aF (HB.out.trans (hw5.mono HB.out.size));clear hw5)
   go_roundw
   case rel=>exact ⟨r+1,rfl,by go_num,by omega,HB5⟩
   case measure=>simp [intOf];omega
  ·rw [ho] at HO;have HI:Hid (((r:Int),p2)∈s):=aF ((HS.out.2 _).2 (rl_up HOK.out.chk (by omega) (by omega) HL.out ho));have HCT:=aF (fun W (hb:Below w2.heap.size w2 W)=>xLH (some ⟨g,o,none⟩) c6 s ((r:Int),p2) W (H2.out.keep RPr.keeps hb));rw [decide_eq_true HI.out] at HCT;clear ho
   go_wp2_with (first
    | (go_at_call 29;refine (HCT.out _ HC5.out).mono ?_;rintro e' w6 ⟨rfl,hw6⟩;have HB6:=aF (HB5.out.trans (hw6.mono HB5.out.size));clear hw6)
    | (go_at_call 28;refine HO.out.mono ?_;rintro e' w5 ⟨rfl,hw5⟩;have HB5:=aF (HB.out.trans (hw5.mono HB.out.size));have HC5:=aF (HCx.out.trans (hw5.mono HCx.out.size));have b1:=cO hw5 a1;clear hw5))
   go_roundw
   case rel=>exact ⟨r+1,rfl,by go_num,by omega,HB6⟩
   case measure=>simp [intOf];omega
end
section
open Go Go.RowKit
theorem xIM {a b:Bool} (ha:a=true) (hb:b=true):(a && b)=true:=by rw [ha,hb];rfl
theorem xKK:(Rows.livenessClosesRow.wf (OpenSpec.ofChange Rows.livenessClosesSpec))=true:=by kernel_rfl
theorem xKJ:(laidOutB Tryz.prog)=true:=by kernel_rfl
theorem xKI:(mapsRowed Tryz.prog)=true:=by kernel_rfl
theorem xKH:(Tryz.f8.params.all (Tryz.prog.readableRec ·))=true:=by kernel_rfl
theorem xKG:(namedTie Tryz.prog Rows.livenessClosesRow.named Rows.livenessClosesSpec.vars)=true:=by kernel_rfl
theorem xKF:((Rows.livenessClosesRow.stops == []))=true:=by kernel_rfl
theorem xKE:((Tryz.prog.stops == []))=true:=by kernel_rfl
theorem xKD:((Rows.livenessClosesRow.knobs == []))=true:=by kernel_rfl
theorem xKC:((Tryz.prog.stopKnobs == []))=true:=by kernel_rfl
theorem xKB:((Rows.livenessClosesRow.inPlace == Tryz.prog.inPlace 8))=true:=by kernel_rfl
theorem xJZ:((Rows.livenessClosesRow.unfollowed == Tryz.prog.unfollowed 8))=true:=by kernel_rfl
theorem xJY:((Rows.livenessClosesRow.recurses == Tryz.prog.recurses 8))=true:=by kernel_rfl
theorem xJX:((Rows.livenessClosesRow.named == Tryz.prog.varsNamed 8))=true:=by kernel_rfl
theorem xJW:((Rows.livenessClosesRow.maps == (Tryz.f8.params.toList ++ Rows.livenessClosesSpec.plain.varTypes Tryz.prog).any (Tryz.prog.mapsRec ·)))=true:=by kernel_rfl
theorem xJV:((Rows.livenessClosesRow.ifaces == (Tryz.f8.params.toList ++ Rows.livenessClosesSpec.plain.varTypes Tryz.prog).any (Tryz.prog.ifacesRec ·)))=true:=by kernel_rfl
theorem xJU:((Rows.livenessClosesRow.mapsOut == Tryz.prog.mapsAmong Tryz.f8.resultTypes.toList))=true:=by kernel_rfl
theorem xJT:((Rows.livenessClosesRow.loops == (Tryz.f8.params.toList ++ Rows.livenessClosesSpec.plain.varTypes Tryz.prog).any (Tryz.prog.loopsFrom ·)))=true:=by kernel_rfl
theorem xJS:((Rows.livenessClosesRow.wideKeys == (Tryz.f8.params.toList ++ Rows.livenessClosesSpec.plain.varTypes Tryz.prog ++ Tryz.f8.resultTypes.toList).any (Tryz.prog.wideKeysFrom ·)))=true:=by kernel_rfl
theorem xJR:(Rows.livenessClosesSpec.vars.all (Tryz.prog.varReadable ·))=true:=by kernel_rfl
theorem xJQ:(Tryz.f8.resultTypes.all (fun t=>Tryz.prog.readableRec t && decide (t<Tryz.prog.types.size)))=true:=by kernel_rfl
theorem xJP:((Rows.livenessClosesRow.ifacesOut == Tryz.f8.resultTypes.toList.any (Tryz.prog.ifacesRec ·)))=true:=by kernel_rfl
theorem xJO:((Rows.livenessClosesRow.loopsOut == Tryz.f8.resultTypes.toList.any (Tryz.prog.loopsFrom ·)))=true:=by kernel_rfl
theorem xJN:((Rows.livenessClosesRow.plainKeys == Tryz.prog.plainKeys))=true:=by kernel_rfl
theorem xJM:(Rows.livenessClosesRow.shortTexts.isNone)=true:=by kernel_rfl
theorem xJL:(Tryz.prog.stopsHeard)=true:=by kernel_rfl
theorem xJK:(Tryz.prog.mayEnter)=true:=by kernel_rfl
theorem xJJ:((Rows.livenessClosesRow.lifted == Tryz.prog.liftsFinal))=true:=by kernel_rfl
theorem xJI:((Tryz.prog.make == some Rows.livenessClosesRow.make))=true:=by kernel_rfl
theorem xJH:((Rows.livenessClosesRow.kinds == (if Rows.livenessClosesRow.domain.isEmpty then [] else Tryz.f8.params.toList.map fun t=>match Tryz.prog.underlying t with | some (.int k)=>some k | _=>none)))=true:=by kernel_rfl
theorem xJG:((Rows.livenessClosesRow.pinned == Rows.livenessClosesRow.pinnedBy))=true:=by kernel_rfl
theorem xJF:((Rows.livenessClosesRow.veiled == (Tryz.f8.params.toList ++ Rows.livenessClosesSpec.plain.varTypes Tryz.prog ++ Tryz.f8.resultTypes.toList).any (Tryz.prog.veiledRec ·)))=true:=by kernel_rfl
theorem xJE:(Rows.livenessClosesRow.veiledFits Tryz.prog Tryz.f8.params.toList (Tryz.f8.params.toList ++ Rows.livenessClosesSpec.plain.varTypes Tryz.prog ++ Tryz.f8.resultTypes.toList))=true:=by kernel_rfl
theorem xIS:joinedFacts Tryz.prog 8 Tryz.f8 Rows.livenessClosesSpec Rows.livenessClosesRow=true:=(xIM (xIM (xIM (xIM (xIM (xIM (xIM (xIM (xIM (xIM (xIM (xIM (xIM (xIM (xIM (xIM (xIM (xIM (xIM (xIM (xIM (xIM (xIM (xIM (xIM (xIM (xIM (xIM (xIM (xIM (xIM xKK xKJ) xKI) xKH) xKG) xKF) xKE) xKD) xKC) xKB) xJZ) xJY) xJX) xJW) xJV) xJU) xJT) xJS) xJR) xJQ) xJP) xJO) xJN) xJM) xJL) xJK) xJJ) xJI) xJH) xJG) xJF) xJE)
end
section
open Go Go.ChangeShapes Go.WideShapes Go.ChangeAt Go.RowKit
theorem xIR (os:Os) (started:os.Started) (H:Type) (enc:TypeId × Value->H):
 ReturnsInHanded {} Tryz.checked os 8 .any (fun w args=>(Rows.livenessClosesSpec.pre enc Tryz.prog Tryz.f8 [] false w args/\laidMetH Tryz.prog Rows.livenessClosesRow.laid w)/\sizedMet enc Tryz.prog Tryz.f8 (OpenSpec.ofChange Rows.livenessClosesSpec) false w args)
  (Rows.livenessClosesSpec.post enc Tryz.prog Tryz.f8 false true false false):=by
 refine returnsInHanded_of_change_and (C:=Tryz.checked) (X:=fun w _=>laidMetH Tryz.prog Rows.livenessClosesRow.laid w) (fun _ _ _ hh h=>h.of_heap hh) Tryz.own started (by kernel_rfl) Tryz.func8
  (ChangeSpec.witness_shaped (enc:=enc) (C:=Tryz.checked) (os:=os) (X:=fun w _=>laidMetH Tryz.prog Rows.livenessClosesRow.laid w) false (World.laidAll Tryz.prog os Rows.livenessClosesRow.laid) #[.agg #[.string ⟨#[]⟩,.slice none 0 0,.slice none 0 0,.slice none 0 0,.slice none 0 0,.int .i64 0,.slice none 0 0]] 8 (World.laidAll_os _ _ _) (World.shaped_of_ZipB (by kernel_rfl) (by kernel_rfl)) (by kernel_rfl) (by kernel_rfl) (by kernel_rfl)
    (by rw [MakeChecks.laidMetH_plain _ _ _ (by kernel_rfl)];exact laidMet_laidAll _ (by kernel_rfl) (by kernel_rfl))) ?_
 intro W base args ds gs before hval0 hW _ hwt hL _;have hval:∀(j:Nat) t v,Tryz.f8.params[j]?=some t->args[j]?=some v->Value.okWide Tryz.prog W .any base t v:=hval0;have hW':=hW;obtain ⟨p,q,hA0,hV,rfl,hfz,hnd⟩:=hW;have hA:DataW.TrodAll enc Tryz.prog W 0 (fun _=>true) true Tryz.f8.params.toList args.toList ds p:=hA0;rw [Tryz.params8] at hA hval;obtain ⟨v0,d0,rfl,rfl,h0⟩:=trodAll_one hA;obtain ⟨rfl,rfl⟩:=trodVars_none hV;obtain ⟨bb,bh,rfl,hbd,hnm⟩:=wI (hval 0 _ v0 rfl rfl) h0;have hTT:=xEF hL;clear hA0 hval0;refine (xLF bb bh W hTT hbd hnm).mono fun e W' ⟨he,hb⟩=>?_
 exact ⟨_,he,xAN Tryz.laidOut rfl (by kernel_rfl) Tryz.underlying4 rfl (by rw [Tryz.params8];intro t ht;simp at ht;subst ht;exact ⟨by kernel_rfl,of_decide_eq_true (by kernel_rfl)⟩) hW' hb⟩
theorem xIW:Rows.LivenessClosesSaid:=
 OpenClaim.holds_of_wide 8 Tryz.f8 rfl rfl rfl rfl rfl rfl rfl ⟨rfl,rfl,rfl,rfl,rfl⟩ rfl rfl rfl rfl rfl (by kernel_rfl) Tryz.func8 xIS
  (of_decide_eq_true (by kernel_rfl)) (by unfold Func.isWrapper;first | (rw [bA (by decide +kernel)];kernel_rfl) | (rw [aZ (by decide +kernel)];exact ⟨rfl,rfl⟩))
  (fun os started H enc _=>xIR os started H enc)
theorem LivenessCloses_holds:Rows.LivenessClosesCardSaid:=
 Claim7.holds_tied_plain_at .later [] [.data, .widerDeep, .widerDeep, .pinned] true (true, "c508f7b79725eb36423e68c36a915c820725776de7feaa7e39e53a602ed9389b") false
  xIW (fun _ h=>by cases h) (by kernel_rfl) (fun _ h=>by cases h) livenessCloses_row_tie rfl ⟨rfl,rfl⟩ (by kernel_rfl) rfl
  (fun f fn hf hfn=>by
    obtain rfl:f=8:=Option.some.inj ((show Tryz.prog.funcNamed Rows.livenessClosesRow.func=some 8 by kernel_rfl).symm.trans hf) |>.symm;obtain rfl:fn=Tryz.f8:=(Option.some.inj (Tryz.func8.symm.trans hfn)).symm
    exact ⟨by kernel_rfl,fun j t ht=>by
     rw [Tryz.params8] at ht;have hm:t∈[28]:=(by simpa using Array.mem_of_getElem? ht);have hall:([28].all fun u=> !Tryz.prog.wantsStandIn u)=true:=by kernel_rfl
     exact (show Tryz.prog.wantsStandIn t=false by simpa using List.all_eq_true.1 hall t hm)⟩)
  (by kernel_rfl)
end
end Go.Proofs.YtcfchohkmkilpaaGreatDoor
