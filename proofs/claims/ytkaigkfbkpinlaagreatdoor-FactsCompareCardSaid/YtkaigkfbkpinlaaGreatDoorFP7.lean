/-
  Parts of the proof: A5 HA HB F3 FA FB F6 F7 F1.
-/
import Derived.Test.YtkaigkfbkpinlaaGreatDoorFP0
import Derived.Test.YtkaigkfbkpinlaaGreatDoorFP3
import Derived.Test.YtkaigkfbkpinlaaGreatDoorFP5
import Derived.Test.YtkaigkfbkpinlaaGreatDoorFP2
import Derived.Test.YtkaigkfbkpinlaaGreatDoorFP6
import Derived.Deep.LoopGhost
import Derived.RangeFuncBox
namespace Go.Proofs.YtkaigkfbkpinlaaGreatDoor
set_option maxRecDepth 100000
set_option maxHeartbeats 16000000
section
open Go Go.RowKit
def cntP:List Blk->Nat
 | []=>0
 | x :: xs=>(x.stmts.length+1)+cntP xs
theorem xE (l:List Blk) (x:Blk):cntP (l ++ [x])=cntP l+(x.stmts.length+1):=by
 induction l with
 | nil=>simp [cntP]
 | cons y l ih=>simp only [List.cons_append,cntP,ih];omega
theorem pG {l:List Blk} {k:Nat} (h:k<l.length):cntP (l.take (k+1))=cntP (l.take k)+(l[k].stmts.length+1):=by
 rw [bH h,xE]
theorem pF {l:List Blk} (k:Nat):cntP (l.take k)<=cntP l:=by
 induction l generalizing k with
 | nil=>simp [cntP]
 | cons y l ih=>
   cases k with
   | zero=>simp [cntP]
   | succ k=>simp only [List.take_succ_cons,cntP];have:=ih k;omega
def stL (l:List Blk) (k:Nat):List Int:=(List.range (k+1)).map (fun i=>((cntP (l.take i):Nat):Int))
theorem yP (l:List Blk):stL l 0=[0]:=by simp [stL,cntP]
theorem fP (l:List Blk) (k:Nat):(stL l k).length=k+1:=by simp [stL]
theorem uD (l:List Blk) {k i:Nat} (h:i<=k):(stL l k)[i]?=some ((cntP (l.take i):Nat):Int):=by
 simp [stL,show i<k+1 by omega]
theorem yQ (l:List Blk) (k:Nat):stL l (k+1)=stL l k ++ [((cntP (l.take (k+1)):Nat):Int)]:=by
 unfold stL;rw [List.range_succ,bV];rfl
theorem vF (w:World) (x:Value) (e:TypeId) (base:Nat) (hb:base<=w.heap.size):(w.alloc (.cells #[x] e)).ownsRow base e 1 (.slice (some ⟨w.heap.size,0,none⟩) 1 1) 1 [x]:=
 ⟨rfl,.inr ⟨w.heap.size,1,#[x],rfl,hb,heap_alloc_new w _,bA _,by decide,rfl,rfl⟩⟩
theorem mH (b:Bdy) (bh:BH) (w:World) (H:BdAt w b bh) (hz:cntP b.blocks<=4611686018427387904) (hl:b.blocks.length<=1000000):
 Calls Tryz.prog 89 #[.agg (bdC b bh).toArray] w fun e' w'=>(∃A c,e' = .returned (.slice A (b.blocks.length+1) c)/\Slc 1 RInt w' A c (stL b.blocks b.blocks.length))/\Below w.heap.size w w':=by
 obtain ⟨A1,c1,A2,c2,A3,c3,A4,c4,A5,c5⟩:=bh;have hbl:=H.blk.le;have hbg:=H.blk.big;have HBK:=aH H.blk;have HZ:=aH hz;simp only at hbl hbg HBK;obtain ⟨i0,hi,hz0,hz1,hz2⟩:=info_parts dV;have HCW:=aH (cT w [Value.string b.name,.slice A1 b.regions.length c1,.slice A2 b.outl.length c2,.slice A3 b.types.length c3,.slice A4 b.locals.length c4,.int .i64 b.args,.slice A5 b.blocks.length c5] 59);have HBW:=aH ((aZ w.heap.size w).alloc (bA _) (.cells ([Value.string b.name,.slice A1 b.regions.length c1,.slice A2 b.outl.length c2,.slice A3 b.types.length c3,.slice A4 b.locals.length c4,.int .i64 b.args,.slice A5 b.blocks.length c5]).toArray 59));have y6:(w.alloc (.cells ([Value.string b.name,.slice A1 b.regions.length c1,.slice A2 b.outl.length c2,.slice A3 b.types.length c3,.slice A4 b.locals.length c4,.int .i64 b.args,.slice A5 b.blocks.length c5]).toArray 59)).cell? ⟨w.heap.size,6,none⟩=some (.slice A5 b.blocks.length c5):=HCW.out 6 _ rfl;clear H HCW hz;unfold bdC;simp only;go_enter Tryz.func89,Tryz.ntmps89
 go_wp2_with fail
 have hz0':w.heap.size+1<=((w.alloc (.cells ([Value.string b.name,.slice A1 b.regions.length c1,.slice A2 b.outl.length c2,.slice A3 b.types.length c3,.slice A4 b.locals.length c4,.int .i64 b.args,.slice A5 b.blocks.length c5]).toArray 59)).alloc (.cells #[.int .i64 0] 3)).heap.size:=by simp
 have HO0:Hid (((w.alloc (.cells ([Value.string b.name,.slice A1 b.regions.length c1,.slice A2 b.outl.length c2,.slice A3 b.types.length c3,.slice A4 b.locals.length c4,.int .i64 b.args,.slice A5 b.blocks.length c5]).toArray 59)).alloc (.cells #[.int .i64 0] 3)).ownsRow (w.heap.size+1) 3 1 (.slice (some ⟨w.heap.size+1,0,none⟩) 1 1) 1 ((stL b.blocks 0).map (Value.int .i64))):=aH (by
  rw [yP];have h:=vF (w.alloc (.cells ([Value.string b.name,.slice A1 b.regions.length c1,.slice A2 b.outl.length c2,.slice A3 b.types.length c3,.slice A4 b.locals.length c4,.int .i64 b.args,.slice A5 b.blocks.length c5]).toArray 59)) (.int .i64 0) 3 (w.heap.size+1) (by simp)
  rwa [bK] at h)
 have HB1:Hid (Below w.heap.size w ((w.alloc (.cells ([Value.string b.name,.slice A1 b.regions.length c1,.slice A2 b.outl.length c2,.slice A3 b.types.length c3,.slice A4 b.locals.length c4,.int .i64 b.args,.slice A5 b.blocks.length c5]).toArray 59)).alloc (.cells #[.int .i64 0] 3))):=aH (HBW.out.alloc (by simp) _);go_loopw [3,10] (fun v i wr=>∃k:Nat,k<=b.blocks.length/\i = .int .i64 k/\Hid (wr.ownsRow (w.heap.size+1) 3 1 v (k+1) ((stL b.blocks k).map (Value.int .i64)))/\Hid (Below w.heap.size w wr)) (fun _ i _=>b.blocks.length - (intOf i).toNat)
 case atStart=>exact ⟨0,by omega,rfl,HO0,HB1⟩
 case round=>
  clear HO0 HB1 hz0';obtain ⟨k,hk,rfl,HO,HB⟩:=hrel;obtain ⟨g,cap,rfl⟩:=ownsRow_succ HO.out;have hsz:=HB.out.size;have hgl:=(HO.out.lt g rfl);by_cases hlt:k<b.blocks.length
  case neg=>
   obtain rfl:k=b.blocks.length:=by omega
   have HSL:=gR (R:=RInt) (enc:=Value.int .i64) (fun w B b o x h=>h) HO.out (fP _ _);have HS:=aH HSL;clear HSL hgl;go_wp2_with fail
   go_ret;obtain ⟨A,c,e,hs,-⟩:=HS.out;exact ⟨⟨A,c,by rw [e];rfl,hs⟩,HB.out⟩
  case pos=>
  obtain ⟨bb,oo,rfl,hbb,y⟩:=HBK.out.sl.at_ hlt;obtain ⟨S1,d1,S2,d2,S3,d3,S4,d4,h0,h1,h2,h3,h4,h5,h6,q1,q2,q3,q4⟩:=eX y;have g0:=(HB.out.cell (p:=⟨bb,oo+k * 7,none⟩) hbb).trans h0;have g1:=(HB.out.cell (p:=⟨bb,oo+k * 7+1,none⟩) hbb).trans h1;have g2:=(HB.out.cell (p:=⟨bb,oo+k * 7+2,none⟩) hbb).trans h2;have g3:=(HB.out.cell (p:=⟨bb,oo+k * 7+3,none⟩) hbb).trans h3;have g4:=(HB.out.cell (p:=⟨bb,oo+k * 7+4,none⟩) hbb).trans h4;have g5:=(HB.out.cell (p:=⟨bb,oo+k * 7+5,none⟩) hbb).trans h5;have g6:=(HB.out.cell (p:=⟨bb,oo+k * 7+6,none⟩) hbb).trans h6;have HT:=aH (pG hlt);have hle2:=pF (l:=b.blocks) (k+1);have hZ2:cntP (b.blocks.take (k+1))<=4611686018427387904:=cA hle2 HZ.out;have HSU:=aH (yQ b.blocks k);have hcell:=HO.out.cells (g:=g) rfl k (.int .i64 (cntP (b.blocks.take k))) (by rw [cP,uD _ (bA k)];rfl);rw [add0] at hcell;generalize b.blocks[k]=x at *;obtain ⟨xs,tk,tg,ar,⟨tl,tp⟩,tn⟩:=x;simp only at g0 g1 g2 g3 g4 g5 g6 HT;clear h0 h1 h2 h3 h4 h5 h6 q1 q2 q3 q4 y hle2;rw [HT.out] at hZ2 HSU;obtain ⟨m,hm⟩:∃m,xs.length=m:=⟨_,rfl⟩;obtain ⟨c,hc⟩:∃c,cntP (b.blocks.take k)=c:=⟨_,rfl⟩;rw [hm] at HSU hZ2 g0;rw [hc] at HSU hZ2 hcell;have hw1:IntKind.i64.wrap ((c:Int)+(m:Int))=((c+m:Nat):Int):=by rw [IntKind.wrap_i64];omega
  have hw2:IntKind.i64.wrap (((c+m:Nat):Int)+1)=((c+(m+1):Nat):Int):=by rw [IntKind.wrap_i64];omega
  clear hm hc HT;go_wp2_with fail
  obtain ⟨W1,hW1⟩:∃W,wr.alloc (.cells #[.slice S1 m d1,.int .i64 tk,.slice S2 tg.length d2,.slice S3 ar.length d3,.int .i64 tl,.slice S4 tp.length d4,.string tn] 116)=W:=⟨_,rfl⟩;have hbW:Below wr.heap.size wr W1:=by rw [<- hW1];exact (aZ _ _).alloc (bA _) _
  have hnew:=cT wr [.slice S1 m d1,.int .i64 tk,.slice S2 tg.length d2,.slice S3 ar.length d3,.int .i64 tl,.slice S4 tp.length d4,.string tn] 116 0 _ rfl;simp only [hW1] at hnew;have HO1:Hid (W1.ownsRow (w.heap.size+1) 3 1 (.slice (some ⟨g,0,none⟩) (k+1) cap) (k+1) ((stL b.blocks k).map (Value.int .i64))):=aH (dE HO.out hbW);have HBB:=aH (HB.out.trans (hbW.mono hsz));try rw [hW1]
  have hkk:(k:Int)<(k:Int)+1:=by omega
  have hS:W1.drew.cell? ⟨g,k,none⟩=some (.int .i64 c)/\W1.drew.cell? ⟨wr.heap.size,0,none⟩=some (.slice S1 m d1):=⟨cQ hbW.drew hcell,hnew⟩;refine dJ (S:=fun X=>X.cell? ⟨g,k,none⟩=some (.int .i64 c)/\X.cell? ⟨wr.heap.size,0,none⟩=some (.slice S1 m d1)) 11 [0,1,2,3,4,5,6,7,8,9,10,11,12] (by kernel_rfl) ?_;(iterate 8 (refine fN (v:=?_) (by kernel_rfl) (fun _ _ _ h=>h) (Or.inl ⟨by rfl,?_⟩) hS ?_;rotate_left;(next=>(rintro X ⟨s1,s2⟩;(try simp only [aK]);go_simp;rfl));simp only [aO]));refine fN (v:= .int .i64 ((c+m:Nat):Int)) (by kernel_rfl) (fun _ _ _ h=>h) (Or.inl ⟨by rfl,?_⟩) hS ?_
  ·rintro X -
   (try simp only [aK]);go_simp
  (simp only [aO]);refine fN (v:= .int .i64 ((c+(m+1):Nat):Int)) (by kernel_rfl) (fun _ _ _ h=>h) (Or.inl ⟨by rfl,?_⟩) hS ?_
  ·rintro X -
   (try simp only [aK]);go_simp;first | rfl | (rw [IntKind.wrap_i64];omega)
  (simp only [aO]);(refine cX (fun K1 hK1=>?_);simp only [aO];rw [bD (by rfl)];go_simp);have hbn:Below W1.heap.size W1 (W1.alloc (.cells #[.int .i64 (((c+(m+1):Nat):Int))] 3)):=(aZ _ _).alloc (bA _) _;have hnx:=fR W1 [.int .i64 (((c+(m+1):Nat):Int))] 3;have hO2:=dE HO1.out hbn.drew;obtain ⟨W2,hW2⟩:∃W,(W1.alloc (.cells #[.int .i64 (((c+(m+1):Nat):Int))] 3)).drew=W:=⟨_,rfl⟩;push_cast at hW2
  try rw [hW2]
  have hbn2:Below W1.heap.size W1 W2:=by rw [<- hW2];exact hbn.drew
  have hO3:W2.ownsRow (w.heap.size+1) 3 1 (.slice (some ⟨g,0,none⟩) (k+1) cap) (k+1) ((stL b.blocks k).map (Value.int .i64)):=dE HO1.out hbn2
  have hnx2:∀j u,[Value.int .i64 ((c+(m+1):Nat):Int)][j]?=some u->W2.cell? ((⟨W1.heap.size,0,none⟩:Addr).add j)=some u:=fun j u hj=>by
   rw [add0,<- hW2];exact hnx j u hj
  have hS2:W2.cell? ⟨g,k,none⟩=some (.int .i64 c)/\W2.cell? ⟨wr.heap.size,0,none⟩=some (.slice S1 m d1):=⟨cQ hbn2 hS.1,cQ hbn2 hS.2⟩;have hB2:Below w.heap.size w W2:=HBB.out.trans (hbn2.mono HBB.out.size);have hsz2:=hB2.size;have hw1s:W1.heap.size<W2.heap.size:=by rw [<- hW2];simp
  refine hK1.out _ _ (fun _=>hS2) ?_;clear hK1;(refine cX (fun K1 hK1=>?_);simp only [aO];rw [bD (by rfl)]);refine eS (.tmp 15) (.tmp 25) 48 rfl (w.heap.size+1) 3 i0 (.int .i64 0) 1 8 Tryz.underlying48 hi hz0 hz1 hz2 rfl (by decide) (.slice (some ⟨g,0,none⟩) (k+1) cap) (k+1) _ rfl hO3 ⟨W1.heap.size,0,none⟩ 1 1 [.int .i64 ((c+(m+1):Nat):Int)] rfl rfl hnx2 (fun u hu=>by simp at hu;subst hu;rfl) (by unfold maxLen;omega) (by omega) (by have:=HBB.out.size;have:=hbW.size;omega) ?_;intro v' w5 hown' hgrow _;obtain ⟨B5,d5,hv⟩:=cW hown';subst hv;have HO5:Hid (w5.ownsRow (w.heap.size+1) 3 1 (.slice B5 (k+1+1) d5) (k+1+1) ((stL b.blocks (k+1)).map (Value.int .i64))):=aH (by rw [HSU.out,bV];exact hown');have HB5:=aH (hB2.grown hgrow (by omega) (fun q hq=>by have:=(hO3.lt q hq).1;omega));refine hK1.out _ _ (fun h=>absurd h (by decide)) ?_;clear hK1 hown' hgrow hO3 hnx2 hS2 hS hW2 hbn hbn2 hB2 hnx hO2;(refine cX (fun K1 hK1=>?_);simp only [aO];rw [bD (by rfl)];go_simp);refine hK1.out _ _ (fun h=>absurd h (by decide)) ?_;refine dI ?_;go_wp2_with fail
  go_roundw
  case rel=>exact ⟨k+1,by omega,by go_num,HO5,HB5⟩
  case measure=>simp [intOf];omega
theorem mJ (b:Bdy) (bh:BH) (w:World) (H:BdAt w b bh) (hz:cntP b.blocks<=4611686018427387904) (hl:b.blocks.length<=1000000):
 Calls Tryz.prog 64 #[.agg (bdC b bh).toArray] w fun e' w'=>e' = .returned (.int .i64 (cntP b.blocks))/\Below w.heap.size w w':=by
 obtain ⟨A1,c1,A2,c2,A3,c3,A4,c4,A5,c5⟩:=bh;have hbl:=H.blk.le;have hbg:=H.blk.big;simp only at hbl hbg;have HBW:=aH ((aZ w.heap.size w).alloc (bA _) (.cells ([Value.string b.name,.slice A1 b.regions.length c1,.slice A2 b.outl.length c2,.slice A3 b.types.length c3,.slice A4 b.locals.length c4,.int .i64 b.args,.slice A5 b.blocks.length c5]).toArray 59))
 have HF:Hid (Calls Tryz.prog 89 #[.agg ([Value.string b.name,.slice A1 b.regions.length c1,.slice A2 b.outl.length c2,.slice A3 b.types.length c3,.slice A4 b.locals.length c4,.int .i64 b.args,.slice A5 b.blocks.length c5]).toArray] (w.alloc (.cells ([Value.string b.name,.slice A1 b.regions.length c1,.slice A2 b.outl.length c2,.slice A3 b.types.length c3,.slice A4 b.locals.length c4,.int .i64 b.args,.slice A5 b.blocks.length c5]).toArray 59)) fun e' w'=>∃g o c,e' = .returned (.slice (some ⟨g,o,none⟩) (b.blocks.length+1) c)/\w'.cell? ⟨g,o+b.blocks.length,none⟩=some (.int .i64 (cntP b.blocks))/\Below (w.alloc (.cells ([Value.string b.name,.slice A1 b.regions.length c1,.slice A2 b.outl.length c2,.slice A3 b.types.length c3,.slice A4 b.locals.length c4,.int .i64 b.args,.slice A5 b.blocks.length c5]).toArray 59)).heap.size (w.alloc (.cells ([Value.string b.name,.slice A1 b.regions.length c1,.slice A2 b.outl.length c2,.slice A3 b.types.length c3,.slice A4 b.locals.length c4,.int .i64 b.args,.slice A5 b.blocks.length c5]).toArray 59)) w'):=
  aH ((mH b ⟨A1,c1,A2,c2,A3,c3,A4,c4,A5,c5⟩ _ (H.keep HBW.out) hz hl).mono (by
   rintro e' w1 ⟨⟨A,c,rfl,hs⟩,hb⟩;obtain ⟨gb,go,rfl,hgb,hx⟩:=hs.sl.at_ (i:=b.blocks.length) (by rw [fP];omega);refine ⟨gb,go,c,rfl,?_,hb⟩;have h:=hx;unfold RInt at h;rw [Nat.mul_one] at h;obtain ⟨_,e⟩:=List.getElem_of_getElem? (uD b.blocks (bA b.blocks.length))
   rw [h,e,cB]))
 have hwl:IntKind.i64.wrap ((b.blocks.length:Int)+1 - 1)=(b.blocks.length:Int):=by rw [IntKind.wrap_i64];omega
 have hll:(b.blocks.length:Int)<(b.blocks.length:Int)+1:=by omega
 clear H;unfold bdC;simp only;go_enter Tryz.func64,Tryz.ntmps64
 go_wp2_with (go_at_call 89;refine HF.out.mono ?_;rintro e' w1 ⟨g,o,c,rfl,x0,hb⟩)
 go_ret;exact ⟨rfl,HBW.out.trans (hb.mono HBW.out.size)⟩
end
section
open Go Go.RowKit Go.Maps
theorem kH (bs:List Blk):∀k,cntP (bs.take k)=stB bs k
 | 0=>by simp [cntP,stB]
 | k+1=>by
   cases h:bs[k]? with
   | none=>
     have h1:=List.getElem?_eq_none_iff.1 h;have h2:=kH bs k;unfold stB at h2 ⊢;rw [List.take_of_length_le (by omega)] at h2 ⊢;exact h2
   | some x=>
     have hk:=(List.getElem?_eq_some_iff.1 h).1;rw [pG hk,kH bs k,eP h];have:bs[k]=x:=by rw [bF hk] at h;injection h
     rw [this]
theorem gC (bs:List Blk):cntP bs=cntB bs:=by
 have:=kH bs bs.length;rwa [cB] at this
theorem zC (b:Bdy) (bh:BH) (w:World) (H:BdAt w b bh) (hc:cntB b.blocks<=1000000000000) (hl:b.blocks.length<=1000000):
 Calls Tryz.prog 64 #[.agg (bdC b bh).toArray] w fun e' w'=>e' = .returned (.int .i64 (cntB b.blocks))/\Below w.heap.size w w':=by
 have:=mJ b bh w H (by rw [gC];omega) hl;rwa [gC] at this
def lcV:Option (Nat × Nat)->Value
 | none=> .tuple #[.int .i64 0,.int .i64 0,.bool false]
 | some q=> .tuple #[.int .i64 q.1,.int .i64 q.2,.bool true]
theorem xBU {w:World} {_b _o:Nat} {x:Blk} {A1 A2 A3 A4:Option Addr} {c1 c2 c3 c4:Nat} (T:TypeId) {W:World} (hW:w.alloc (.cells (bkL x A1 c1 A2 c2 A3 c3 A4 c4).toArray T)=W):
 Below w.heap.size w W/\W.heap.size=w.heap.size+1/\∀i v,(bkL x A1 c1 A2 c2 A3 c3 A4 c4)[i]?=some v->W.cell? ⟨w.heap.size,i,none⟩=some v:=by
 subst hW;exact ⟨(aZ _ _).alloc (bA _) _,by simp,cT w _ T⟩
theorem lR (b:Bdy) (bh:BH) (p:Int) (w:World) (H:BdAt w b bh) (hc:cntB b.blocks<=1000000000000) (hp : -9223372036854775808<=p/\p<=9223372036854775807):
 Calls Tryz.prog 92 #[.agg (bdC b bh).toArray,.int .i64 p] w fun e' w'=>e' = .returned (lcV (locB b.blocks p))/\Below w.heap.size w w':=by
 obtain ⟨R,hR⟩:∃R,lcV (locB b.blocks p)=R:=⟨_,rfl⟩;rw [hR];have HR:=aH hR;have HBLK:=aH H.blk;have hbl:=H.blk.le;have hbg:=H.blk.big;have HC:=aH hc;have HY:=aH (cT w [Value.string b.name,.slice bh.A1 b.regions.length bh.c1,.slice bh.A2 b.outl.length bh.c2,.slice bh.A3 b.types.length bh.c3,.slice bh.A4 b.locals.length bh.c4,.int .i64 b.args,.slice bh.A5 b.blocks.length bh.c5] 59);clear H hc hR;unfold bdC at *;by_cases hp0:0<=p
 case neg=>
  have HN:Hid (locB b.blocks p=none):=aH (pA (by omega));have y6:=HY.out 6 _ rfl;go_enter Tryz.func92,Tryz.ntmps92
  go_wp2_with fail
  go_ret3
  exact ⟨by rw [<- HR.out,HN.out];rfl,(aZ _ _).alloc (bA _) _⟩
 case pos=>
 have HP0:=aH hp0;go_enter Tryz.func92,Tryz.ntmps92
 go_wp2_with fail
 go_loopw [1,7,14] (fun t _ i wr=>∃k q:Nat,t = .int .i64 q/\i = .int .i64 k/\k<=b.blocks.length/\Hid (p=(stB b.blocks k+q:Nat))/\(q:Int)<=9223372036854775807/\Hid (Below w.heap.size w wr)/\w.heap.size<wr.heap.size) (fun _ _ i _=>b.blocks.length - (intOf i).toNat)
 case atStart=>
  obtain ⟨q,hq⟩:=bI hp0;exact ⟨0,q,by rw [hq],rfl,by omega,aH (by rw [stB_zero];omega),by omega,aH ((aZ _ _).alloc (bA _) _),by simp⟩
 case round=>
  obtain ⟨k,q,rfl,rfl,hk,HPQ,hq63,HB,hlw⟩:=hrel;by_cases h2:k<b.blocks.length
  case neg=>
   have HN:Hid (locB b.blocks p=none):=aH (pA (by
    have hk':k=b.blocks.length:=(by omega);subst hk';have:=HPQ.out;unfold cntB
    omega))
   go_wp2_with fail
   go_ret3
   exact ⟨by rw [<- HR.out,HN.out];rfl,HB.out⟩
  case pos=>
  obtain ⟨bb,oo,hA,hbb,hx⟩:=(HBLK.out.keep RBk.keeps HB.out).sl.at_ h2;obtain ⟨A1,c1,A2,c2,A3,c3,A4,c4,p0,p1,p2,p3,p4,p5,p6,-⟩:=eX hx;have hs:=eP (bF h2);have hle:=nF b.blocks (show k+1<=b.blocks.length by omega);have hcc:cntB b.blocks<=1000000000000:=HC.out;unfold cntB at hcc;have HL:Hid (q<=b.blocks[k].stmts.length->locB b.blocks p=some (k,q)):=aH (fun h1=>dP.2 ⟨_,bF h2,h1,HPQ.out⟩);have HQ2:Hid (¬q<=b.blocks[k].stmts.length->p=(stB b.blocks (k+1)+(q - (b.blocks[k].stmts.length+1)):Nat)):=aH (fun h1=>by rw [hs];have:=HPQ.out;omega);obtain ⟨x,hxx⟩:∃x,b.blocks[k]=x:=⟨_,rfl⟩;rw [hxx] at p0 p1 p2 p3 p4 p5 p6 hs HL HQ2;have hsl:x.stmts.length<=1000000000000:=by omega
  rw [hA];obtain ⟨W1,hW1⟩:∃W,wr.alloc (.cells (bkL x A1 c1 A2 c2 A3 c3 A4 c4).toArray 116)=W:=⟨_,rfl⟩;obtain ⟨hb1,hsw,hn⟩:=xBU (_b:=0) (_o:=0) _ hW1;have n0:=hn 0 _ rfl;have HB1:=aH (HB.out.trans (hb1.mono HB.out.size));unfold bkL at hW1;have hq0:(0:Int)<=q:=by omega
  clear hx hA hxx hcc hle hs hn;by_cases hin:q<=x.stmts.length
  ·have HE:=aH (HL.out hin);have g1:(q:Int)<=(x.stmts.length:Int):=by omega
   clear HL HQ2 hin;go_wp2_with fail
   go_ret3
   exact ⟨by rw [<- HR.out,HE.out];rfl,HB1.out⟩
  ·have HE:=aH (HQ2.out hin);have g1:¬(q:Int)<=(x.stmts.length:Int):=by omega
   clear HL HQ2;go_wp2_with fail
   go_roundw
   case rel=>exact ⟨k+1,q - (x.stmts.length+1),by go_num,by go_num,by omega,HE,by omega,HB1,by omega⟩
   case measure=>simp [intOf];omega
end
section
open Go Go.RowKit
attribute [local irreducible] Calls
def lnC (l:Ln) (B:Option Addr) (d:Nat):List Value:=[.int .i64 l.reg,.int .i64 l.pt,.bool l.mu,.int .i64 l.place.loc,.slice B l.place.proj.length d]
theorem wC (b:Bdy) (bh:BH) (p:Int) (l:Ln) (B:Option Addr) (d:Nat) (w:World) (H:BdAt w b bh) (hl:Slc 2 RPj w B d l.place.proj) (hc:cntB b.blocks<=1000000000000) (hp : -9223372036854775808<=p/\p<=9223372036854775807):
 Calls Tryz.prog 65 #[.agg (bdC b bh).toArray,.int .i64 p,.agg (lnC l B d).toArray] w fun e' w'=>e' = .returned (.bool (kilP b.blocks p l))/\Below w.heap.size w w':=by
 have HL:=aH (fun (W:World) (hb:Below w.heap.size w W)=>lR b bh p W (H.keep hb) hc hp);have HBLK:=aH H.blk;have HS:=aH hl;have hle:=hl.le;have hbg:=hl.big;have hbl:=H.blk.le;have hbb:=H.blk.big;obtain ⟨lr,lp,mu,ll,lj⟩:=l;simp only at *;obtain ⟨R,hR⟩:∃R,kilP b.blocks p ⟨lr,lp,mu,ll,lj⟩=R:=⟨_,rfl⟩;rw [hR];have HR:=aH hR;obtain ⟨W0,hW0⟩:∃W0,(w.alloc (.cells ([Value.string b.name,.slice bh.A1 b.regions.length bh.c1,.slice bh.A2 b.outl.length bh.c2,.slice bh.A3 b.types.length bh.c3,.slice bh.A4 b.locals.length bh.c4,.int .i64 b.args,.slice bh.A5 b.blocks.length bh.c5]).toArray 59)).alloc (.cells ([Value.int .i64 lr,.int .i64 lp,.bool mu,.int .i64 ll,.slice B lj.length d]).toArray 38)=W0:=⟨_,rfl⟩;have hb0:Below w.heap.size w W0:=by rw [<- hW0];exact bel2 _ _ _
 have ya:=cT w [Value.string b.name,.slice bh.A1 b.regions.length bh.c1,.slice bh.A2 b.outl.length bh.c2,.slice bh.A3 b.types.length bh.c3,.slice bh.A4 b.locals.length bh.c4,.int .i64 b.args,.slice bh.A5 b.blocks.length bh.c5] 59;have yl:=cT (w.alloc (.cells ([Value.string b.name,.slice bh.A1 b.regions.length bh.c1,.slice bh.A2 b.outl.length bh.c2,.slice bh.A3 b.types.length bh.c3,.slice bh.A4 b.locals.length bh.c4,.int .i64 b.args,.slice bh.A5 b.blocks.length bh.c5]).toArray 59)) [Value.int .i64 lr,.int .i64 lp,.bool mu,.int .i64 ll,.slice B lj.length d] 38;have hal:=alF (w.alloc (.cells ([Value.string b.name,.slice bh.A1 b.regions.length bh.c1,.slice bh.A2 b.outl.length bh.c2,.slice bh.A3 b.types.length bh.c3,.slice bh.A4 b.locals.length bh.c4,.int .i64 b.args,.slice bh.A5 b.blocks.length bh.c5]).toArray 59)) (.cells ([Value.int .i64 lr,.int .i64 lp,.bool mu,.int .i64 ll,.slice B lj.length d]).toArray 38);rw [hW0] at yl hal;have hsz:(w.alloc (.cells ([Value.string b.name,.slice bh.A1 b.regions.length bh.c1,.slice bh.A2 b.outl.length bh.c2,.slice bh.A3 b.types.length bh.c3,.slice bh.A4 b.locals.length bh.c4,.int .i64 b.args,.slice bh.A5 b.blocks.length bh.c5]).toArray 59)).heap.size=w.heap.size+1:=by simp
 rw [hsz] at yl;have HX:=aH (fun i v h=>cQ hal (ya i v h));obtain ⟨x0,x1,x2,x3,x4,x5,x6⟩:=aU HX.out;have z3:=yl 3 _ rfl;have z4:=yl 4 _ rfl;have HB0:=aH hb0;clear ya yl hal hb0 hsz H hl hR HX;unfold bdC lnC at *;try simp only at HL
 go_enter Tryz.func65,Tryz.ntmps65
 cases hloc:locB b.blocks p with
 | none=>
   have HF:Hid (false=R):=aH (by rw [<- HR.out,wD hloc]);rw [hloc] at HL;unfold lcV at HL;clear HR hloc;go_wp2_with (go_at_call 92;refine (HL.out _ HB0.out).mono ?_;rintro e' w1 ⟨rfl,hb1⟩;have HB1:=aH (HB0.out.trans (hb1.mono HB0.out.size));clear hb1)
   go_ret;exact ⟨ret_b HF.out,HB1.out⟩
 | some q=>
   obtain ⟨i,k⟩:=q;obtain ⟨x,hx,hk,-⟩:=dP.1 hloc;have hi:=(List.getElem?_eq_some_iff.1 hx).1;have HF:Hid (((wrP x k).2.2 && (isPre (wrP x k).1 ⟨ll,lj⟩ && hasD lj (wrP x k).1.proj.length))=R):=aH (by rw [<- HR.out,xCX hloc hx,xCY]);rw [hloc] at HL;unfold lcV at HL;simp only at HL;have hi2:(i:Int)<(b.blocks.length:Int):=by omega
   obtain ⟨g,o,hA,hg,hxx⟩:=HBLK.out.sl.at_ hi;have hxe:b.blocks[i]=x:=by rw [bF hi] at hx;exact Option.some.inj hx
   rw [hxe] at hxx;obtain ⟨A1,c1,A2,c2,A3,c3,A4,c4,q0,q1,q2,q3,q4,q5,q6,hs1,-,-,hs4⟩:=eX hxx;have HAE:=aH hA
   have HWR:Hid (∃A c,Slc 2 RPj w A c (wrP x k).1.proj/\∀(W:World) (hb:Below w.heap.size w W),Calls Tryz.prog 93 #[.agg (bkL x A1 c1 A2 c2 A3 c3 A4 c4).toArray,.int .i64 k] W fun e' w'=>e' = .returned (wrV (wrP x k) (A,c))/\Below W.heap.size W w'):=aH (by
    obtain ⟨a0,h0⟩:=uB hs1 k
    exact ⟨_,_,tH hs1 hs4 h0,fun W hb=>mY x A1 A2 A3 A4 c1 c2 c3 c4 k W (hs1.keep RSt.keeps hb) hk a0 (h0.keep hb)⟩)
   obtain ⟨A,c,hsa,hwr⟩:=HWR.out;clear HWR;have HWR:=aH hwr;clear hwr;unfold bkL wrV at HWR;obtain ⟨q,hq⟩:∃q,wrP x k=q:=⟨_,rfl⟩;rw [hq] at HWR HF hsa;obtain ⟨⟨pl,pj⟩,v1,v2⟩:=q;simp only at HWR HF hsa;have HSA:=aH hsa;have hsal:=hsa.le;have hsab:=hsa.big;clear hsa;have HIP:=aH (fun (A:Option Addr) (c:Nat) (W:World) (h1:Slc 2 RPj W A c pj) (hb:Below w.heap.size w W)=>wF ⟨pl,pj⟩ ⟨ll,lj⟩ A B c d W h1 (HS.out.keep RPj.keeps hb));have HHD:=aH (fun (W:World) (hb:Below w.heap.size w W)=>kF ⟨ll,lj⟩ (pj.length:Int) B d W (HS.out.keep RPj.keeps hb));simp only at HIP HHD;generalize isPre ⟨pl,pj⟩ ⟨ll,lj⟩=vp at HIP HF;generalize hasD lj (pj.length:Int)=vh at HHD HF;clear HR hloc hx hxx hxe hs1 hs4 hq hA hk;replace q0:=cQ HB0.out q0;replace q1:=cQ HB0.out q1;replace q2:=cQ HB0.out q2;replace q3:=cQ HB0.out q3;replace q4:=cQ HB0.out q4;replace q5:=cQ HB0.out q5;replace q6:=cQ HB0.out q6;cases v2 <;> cases vp
   all_goals
    go_wp2_with (first
     | (go_at_call 95;refine (HHD.out _ HB4.out).mono ?_;rintro e' w5 ⟨rfl,hb5⟩;have HB5:=aH (HB4.out.trans (hb5.mono HB4.out.size));clear hb5)
     | (go_at_call 94;refine (HIP.out _ _ _ (HSA.out.keep RPj.keeps HB3.out) HB3.out).mono ?_;rintro e' w4 ⟨rfl,hb4⟩;have HB4:=aH (HB3.out.trans (hb4.mono HB3.out.size));replace z3:=cQ hb4 z3;replace z4:=cQ hb4 z4;replace u0:=cQ hb4 u0;replace u1:=cQ hb4 u1;clear hb4)
     | (go_at_call 93;refine (HWR.out _ HB1.out).mono ?_;rintro e' w2 ⟨rfl,hb2⟩;have hB2:=HB1.out.trans (hb2.mono HB1.out.size);replace z3:=cQ hb2 z3;replace z4:=cQ hb2 z4;obtain ⟨W3,hW3⟩:∃W3,w2.alloc (.cells #[.int .i64 pl,.slice A pj.length c] 36)=W3:=⟨_,rfl⟩;have hb3:=alF w2 (.cells #[.int .i64 pl,.slice A pj.length c] 36);obtain ⟨u0,u1⟩:=fO w2 (.int .i64 pl) (.slice A pj.length c) 36;rw [hW3] at hb3 u0 u1;replace z3:=cQ hb3 z3;replace z4:=cQ hb3 z4;have HB3:=aH (hB2.trans (hb3.mono hB2.size));clear hb2 hb3 hB2)
     | (go_at_call 92;refine (HL.out _ HB0.out).mono ?_;rintro e' w1 ⟨rfl,hb1⟩;have HB1:=aH (HB0.out.trans (hb1.mono HB0.out.size));replace x6:=cQ hb1 x6;rw [HAE.out] at x6;replace q0:=cQ hb1 q0;replace q1:=cQ hb1 q1;replace q2:=cQ hb1 q2;replace q3:=cQ hb1 q3;replace q4:=cQ hb1 q4;replace q5:=cQ hb1 q5;replace q6:=cQ hb1 q6;replace z3:=cQ hb1 z3;replace z4:=cQ hb1 z4;clear hb1 x0 x1 x2 x3 x4 x5))
    go_ret
    first
     | exact ⟨ret_b HF.out,HB5.out⟩
     | exact ⟨ret_b HF.out,HB4.out⟩
     | exact ⟨ret_b HF.out,HB3.out⟩
end
section
open Go Go.RowKit
theorem qZ {α : Type} {k:Nat} {enc : α -> List Value} (hk:∀x,(enc x).length=k) {w:World} {R:Rd α} {base n:Nat} {e:TypeId} {v:Value} {xs:List α} (hR:∀b o x,x∈xs->(∀j u,(enc x)[j]?=some u->w.cell? ⟨b,o+j,none⟩=some u)->R w w.heap.size b o x)
 (h:w.ownsRow base e k v n (xs.flatMap enc)) (hn:xs.length=n):∃A c,v = .slice A n c/\Slc k R w A c xs/\∀a,A=some a->base<=a.block/\a.block<w.heap.size:=by
 subst hn;rcases h.2 with ⟨rfl,hz⟩ | ⟨g,cap,cur,rfl,hb,hh,hnc,hm,_,_⟩
 ·have:xs=[]:=bW hz;subst this;exact ⟨none,0,rfl,⟨Sl.nil,by simp,by omega⟩,fun a h=>by cases h⟩
 ·have hgl:=(Array.getElem?_eq_some_iff.1 hh).1;refine ⟨some ⟨g,0,none⟩,cap,rfl,⟨fun _=>⟨g,0,rfl,hgl,fun i x hx=>?_⟩,hnc,by simp only [maxLen] at hm;omega⟩,fun a ha=>?_⟩
  ·refine hR g _ x (List.mem_of_getElem? hx) (fun j u hu=>?_);have hj:j<k:=by rw [<- hk x];exact (List.getElem?_eq_some_iff.1 hu).1
   have hf:=fJ enc hk xs i x hx j hj;rw [hu] at hf;have hc:=h.cells (g:=g) rfl (i * k+j) u hf;rw [add0] at hc;simpa [Nat.add_assoc] using hc
  ·injection ha with ha
   subst ha;exact ⟨hb,hgl⟩
def pjC (p:Pj):List Value:=[.int .i64 p.kind,.int .i64 p.field]
theorem uI {w:World} {base n:Nat} {e:TypeId} {v:Value} {xs:List Pj} (h:w.ownsRow base e 2 v n (xs.flatMap pjC)) (hn:xs.length=n):∃A c,v = .slice A n c/\Slc 2 RPj w A c xs/\∀a,A=some a->base<=a.block/\a.block<w.heap.size:=
 qZ (enc:=pjC) (fun _=>rfl) (fun _b _o _x _ hc=>⟨hc 0 _ rfl,hc 1 _ rfl⟩) h hn
theorem oP {w:World} {a:Addr} {c:Nat} {xs:List Pj} (h:Slc 2 RPj w (some a) c xs):∀j u,(xs.flatMap pjC)[j]?=some u->w.cell? (a.add j)=some u:=fun j u hu=>by
 have hl:∀ys:List Pj,(ys.flatMap pjC).length=ys.length * 2:=fun ys=>by
  induction ys with
  | nil=>rfl
  | cons y r ih=>rw [List.flatMap_cons,bE,ih];simp [pjC];omega
 have hj:=(List.getElem?_eq_some_iff.1 hu).1;rw [hl] at hj;have hi:j / 2<xs.length:=by omega
 obtain ⟨b,o,hA,-,x0,x1⟩:=h.sl.at_ hi;injection hA with hA
 subst hA;have hx:=bF hi;have hf:=fJ (k:=2) pjC (fun _=>rfl) xs (j / 2) _ hx (j % 2) (by omega);rw [show j / 2 * 2+j % 2=j by omega,hu] at hf;rw [Addr.add_lit];rcases (show j % 2=0\/j % 2=1 by omega) with e | e
 ·rw [e] at hf;simp only [pjC,aB,cK] at hf;rw [hf];have e2:j / 2 * 2=j:=by omega
  rw [e2] at x0;exact x0
 ·rw [e] at hf;simp only [pjC,List.getElem?_cons_succ,aB,cK] at hf;rw [hf];have e2:j / 2 * 2+1=j:=by omega
  rw [Nat.add_assoc,e2] at x1;exact x1
theorem uW (xs:List Pj):(xs.flatMap pjC).length=xs.length * 2:=by
 induction xs with
 | nil=>rfl
 | cons y r ih=>rw [List.flatMap_cons,bE,ih];simp [pjC];omega
theorem uV {xs:List Pj}:∀u∈xs.flatMap pjC,u.oneCell'=true:=fun u hu=>by
 obtain ⟨p,_,hp⟩:=List.mem_flatMap.1 hu;simp [pjC] at hp;rcases hp with rfl | rfl <;> rfl
structure LnE where
 l:Ln
 A:Option Addr
 c:Nat
def lnE (e:LnE):List Value:=lnC e.l e.A e.c
structure LnW (w:World) (es:List LnE) (v:Value) (W:World):Prop where
 low:Below w.heap.size w W
 own:W.ownsRow w.heap.size 38 5 v es.length (es.flatMap lnE)
 pj:∀e∈es,Slc 2 RPj W e.A e.c e.l.place.proj/\∀a,e.A=some a->w.heap.size<=a.block/\∃cs z,W.heap[a.block]?=some (.cells cs 40 z)
theorem mI {w W:World} {A:Option Addr} {c:Nat} {xs:List Pj} (h:Slc 2 RPj w A c xs) (hs:w.heap.size<=W.heap.size) (hb:∀a,A=some a->W.heap[a.block]?=w.heap[a.block]?):Slc 2 RPj W A c xs:=
 ⟨fun h0=>by
   obtain ⟨b,o,hA,hl,hx⟩:=h.sl h0;have:=hb _ hA;refine ⟨b,o,hA,by omega,fun i x hi=>?_⟩;obtain ⟨y0,y1⟩:=hx i x hi
   exact ⟨(World.cell?_of_block (a:=⟨b,o+i * 2,none⟩) this).trans y0,(World.cell?_of_block (a:=⟨b,o+i * 2+1,none⟩) this).trans y1⟩,h.le,h.big⟩
theorem LnW.keep {w W W':World} {es:List LnE} {v:Value} (h:LnW w es v W) (hb:Below W.heap.size W W'):LnW w es v W':=
 ⟨h.low.trans (hb.mono h.low.size),dE h.own hb,fun e he=>by
   obtain ⟨h1,h2⟩:=h.pj e he;refine ⟨h1.keep RPj.keeps hb,fun a ha=>?_⟩;obtain ⟨h3,cs,z,h4⟩:=h2 a ha
   exact ⟨h3,cs,z,(hb.block _ (Array.getElem?_eq_some_iff.1 h4).1).trans h4⟩⟩
theorem LnW.nil (w W:World) (hb:Below w.heap.size w W):LnW w [] (.slice none 0 0) W:=⟨hb,World.ownsRow_nil _ _ _ _,fun e he=>by cases he⟩
theorem LnW.push {w W W':World} {es:List LnE} {v v':Value} (h:LnW w es v W) {e:LnE} (he:Slc 2 RPj W e.A e.c e.l.place.proj/\∀a,e.A=some a->w.heap.size<=a.block/\∃cs z,W.heap[a.block]?=some (.cells cs 40 z)) (ho:W'.ownsRow w.heap.size 38 5 v' (es.length+1) (es.flatMap lnE ++ lnE e)) (hg:W.grownBy W' v.ownBlock):LnW w (es ++ [e]) v' W':=by
 have key:∀a:Addr,(∃cs z,W.heap[a.block]?=some (.cells cs 40 z))->W'.heap[a.block]?=W.heap[a.block]?:=fun a ⟨cs,z,hc⟩=>hg.block _ (Array.getElem?_eq_some_iff.1 hc).1 (fun e'=>by
  rcases h.own.2 with ⟨h1,_⟩ | ⟨g,cap,cur,h1,_,h2,_⟩
  ·rw [h1] at e';cases e'
  ·rw [h1] at e';injection e' with e'
   rw [e',h2] at hc;injection hc with hc
   injection hc with _ hc _
   exact absurd hc (by decide))
 have hlo:∀g,v.ownBlock=some g->w.heap.size<=g:=fun g e=>(h.own.lt g e).1
 refine ⟨h.low.grown hg h.low.size hlo,by rw [bE,cC];simpa using ho,fun x hx=>?_⟩
 have hp:Slc 2 RPj W x.A x.c x.l.place.proj/\∀a,x.A=some a->w.heap.size<=a.block/\∃cs z,W.heap[a.block]?=some (.cells cs 40 z):=by
  rcases List.mem_append.1 hx with hx | hx
  ·exact h.pj x hx
  ·rw [bU] at hx;subst hx;exact he
 refine ⟨mI hp.1 hg.size (fun a ha=>key a (hp.2 a ha).2),fun a ha=>?_⟩;obtain ⟨h3,cs,z,h4⟩:=hp.2 a ha;exact ⟨h3,cs,z,(key a ⟨cs,z,h4⟩).trans h4⟩
theorem LnW.slc {w W:World} {es:List LnE} {v:Value} (h:LnW w es v W):∃A c,v = .slice A (es.map (·.l)).length c/\Slc 5 RLn W A c (es.map (·.l))/\∀a,A=some a->w.heap.size<=a.block/\a.block<W.heap.size:=by
 obtain ⟨A,c,hv,hs,ha⟩:=qZ (R:=fun w B b o (e:LnE)=>RLn w B b o e.l) (enc:=lnE) (fun _=>rfl) (fun b o e he hc=>⟨hc 0 _ rfl,hc 1 _ rfl,hc 2 _ rfl,hc 3 _ rfl,e.A,e.c,hc 4 _ rfl,(h.pj e he).1.le,(h.pj e he).1.big,(h.pj e he).1.sl⟩) h.own rfl;refine ⟨A,c,by rw [hv,cH],⟨fun h0=>?_,by rw [cH];exact hs.le,hs.big⟩,ha⟩;obtain ⟨b,o,hA,hl,hx⟩:=hs.sl (by simpa using h0);refine ⟨b,o,hA,hl,fun i x hi=>?_⟩;rw [cP] at hi;obtain ⟨e,he,rfl⟩:=Option.map_eq_some_iff.1 hi;exact hx i e he
end
section
open Go Go.RowKit
attribute [local irreducible] Calls
theorem xBN {bs:List Blk} {k m:Nat} {x:Blk} (hx:bs[k]?=some x) (hm:m<=x.stmts.length):lnP bs ((stB bs k+m:Nat):Int)=lnB x m ((stB bs k+m:Nat):Int):=
 xET (dP.2 ⟨x,hx,hm,rfl⟩) hx
def LnQ (b:Bdy) (w:World) (e':Ending) (w':World):Prop:=∃v es,e' = .returned v/\es.map (·.l)=lnU b.blocks (cntB b.blocks)/\LnW w es v w'
theorem vY (bs:List Blk) (p:Nat):(lnU bs p).length<=p:=by
 induction p with
 | zero=>simp [lnU]
 | succ p ih=>
   rw [nM,bE]
   have:(lnP bs p).length<=1:=by
    unfold lnP;split
    ·simp
    ·split
     ·simp
     ·unfold lnB;split
      ·unfold lnS;split <;> simp
      ·simp
   omega
theorem xCL {W:World} {base k m:Nat} {e:TypeId} {v:Value} {xs:List Value} (h:W.ownsRow base e k v m xs):∀(a:Addr) n c,v = .slice (some a) n c->∃cs z,W.heap[a.block]?=some (.cells cs e z):=fun a n c hv=>by
 rcases h.2 with ⟨h1,_⟩ | ⟨g,cap,cur,h1,_,h2,_⟩
 ·rw [h1] at hv;cases hv
 ·rw [h1] at hv;injection hv with hv
  injection hv with hv
  subst hv;exact ⟨_,_,h2⟩
def LnAt (w:World) (e:LnE) (W:World):Prop:=Slc 2 RPj W e.A e.c e.l.place.proj/\∀a,e.A=some a->w.heap.size<=a.block/\∃cs z,W.heap[a.block]?=some (.cells cs 40 z)
theorem zT {w W W':World} {e:LnE} (h:LnAt w e W) (hb:Below W.heap.size W W'):LnAt w e W':=
 ⟨h.1.keep RPj.keeps hb,fun a ha=>by
   obtain ⟨h3,cs,z,h4⟩:=h.2 a ha
   exact ⟨h3,cs,z,(hb.block _ (Array.getElem?_eq_some_iff.1 h4).1).trans h4⟩⟩
theorem vX (W:World) (l:List Value):∀j u,l[j]?=some u->(W.alloc (.cells l.toArray 38)).cell? ((⟨W.heap.size,0,none⟩:Addr).add j)=some u:=fun j u hj=>by
 rw [add0];exact fR W l 38 j u hj
theorem zQ {w wr W2 W3 w4 W5:World} {es:List LnE} {v:Value} (hw:LnW w es v wr) (hb3:Below wr.heap.size wr W3) (hb4:Below W3.heap.size W3 w4) {rl:Int} {z1:Value} {rg:Int} {mu:Bool} (hr:w4.heap[W2.heap.size]?=some (.cells #[.int .i64 rl,z1] 36 (0,0))) (hz2:wr.heap.size<W2.heap.size) (hz3:W3.heap.size=W2.heap.size+1)
 (r5:W3.cell? ⟨wr.heap.size,5,none⟩=some (.int .i64 rg)) (r6:W3.cell? ⟨wr.heap.size,6,none⟩=some (.bool mu)) {A4:Option Addr} {c4:Nat} {rj:List Pj} {p:Int} (hs4:Slc 2 RPj w4 A4 c4 rj) (ha4:∀a,A4=some a->W3.heap.size<=a.block/\∃cs z,w4.heap[a.block]?=some (.cells cs 40 z)) (hW5:w4.setCell ⟨W2.heap.size,1,none⟩ (.slice A4 rj.length c4)=W5):
 W5.cell? ⟨W2.heap.size,0,none⟩=some (.int .i64 rl)/\W5.cell? ⟨W2.heap.size,1,none⟩=some (.slice A4 rj.length c4)/\W5.cell? ⟨wr.heap.size,5,none⟩=some (.int .i64 rg)/\W5.cell? ⟨wr.heap.size,6,none⟩=some (.bool mu)/\(LnW w es v W5/\LnAt w ⟨⟨rg,p,mu,⟨rl,rj⟩⟩,A4,c4⟩ W5):=by
 have hblk:∀k,k≠W2.heap.size->W5.heap[k]?=w4.heap[k]?:=fun k hk=>by rw [<- hW5];exact bJ _ _ _ _ hk
 have hh:W5.heap[W2.heap.size]?=some (.cells #[.int .i64 rl,.slice A4 rj.length c4] 36 (0,0)):=by
  rw [<- hW5];simp [World.setCell,Array.getElem?_modify,hr]
 have hsz:W5.heap.size=w4.heap.size:=by rw [<- hW5];simp
 have hbw:Below wr.heap.size wr W5:=by
  rw [<- hW5];exact (hb3.trans (hb4.mono hb3.size)).setCell (p:=⟨W2.heap.size,1,none⟩) (by simp only;omega) _
 have low:=hw.low.size;refine ⟨by simp [World.cell?,hh],by simp [World.cell?,hh],?_,?_,hw.keep hbw,?_,fun a ha=>?_⟩
 ·exact (World.cell?_of_block (a:=⟨wr.heap.size,5,none⟩) (hblk wr.heap.size (by omega))).trans (cQ hb4 r5)
 ·exact (World.cell?_of_block (a:=⟨wr.heap.size,6,none⟩) (hblk wr.heap.size (by omega))).trans (cQ hb4 r6)
 ·exact mI hs4 (by omega) (fun a ha=>hblk _ (by have:=(ha4 a ha).1;omega))
 ·obtain ⟨h1,cs,z,h2⟩:=ha4 a ha;exact ⟨by omega,cs,z,(hblk _ (by omega)).trans h2⟩
theorem sQ (b:Bdy) (bh:BH) (w:World) (H:BdAt w b bh) (hc:cntB b.blocks<=1000000) (hpj:∀x∈b.blocks,∀s∈x.stmts,s.rv.place.proj.length<=1000000):
 Calls Tryz.prog 62 #[.agg (bdC b bh).toArray] w (LnQ b w):=by
 obtain ⟨i0,hi0,hq0,hq1,hq2⟩:=info_parts wJ;have HBLK:=aH H.blk;have hbl:=H.blk.le;have hbg:=H.blk.big;have HPJ:=aH hpj;have HC:=aH hc;clear H hpj hc;obtain ⟨W0,hW0⟩:∃W0,w.alloc (.cells ([Value.string b.name,.slice bh.A1 b.regions.length bh.c1,.slice bh.A2 b.outl.length bh.c2,.slice bh.A3 b.types.length bh.c3,.slice bh.A4 b.locals.length bh.c4,.int .i64 b.args,.slice bh.A5 b.blocks.length bh.c5]).toArray 59)=W0:=⟨_,rfl⟩;have yy:=cT w [Value.string b.name,.slice bh.A1 b.regions.length bh.c1,.slice bh.A2 b.outl.length bh.c2,.slice bh.A3 b.types.length bh.c3,.slice bh.A4 b.locals.length bh.c4,.int .i64 b.args,.slice bh.A5 b.blocks.length bh.c5] 59;have hb0:=alF w (.cells ([Value.string b.name,.slice bh.A1 b.regions.length bh.c1,.slice bh.A2 b.outl.length bh.c2,.slice bh.A3 b.types.length bh.c3,.slice bh.A4 b.locals.length bh.c4,.int .i64 b.args,.slice bh.A5 b.blocks.length bh.c5]).toArray 59);rw [hW0] at yy hb0;have x6:=yy 6 _ rfl;have HB0:=aH hb0;clear yy hb0;unfold bdC;go_enter Tryz.func62,Tryz.ntmps62
 go_wp2_with fail
 go_loopw [3,4,13] (fun l p i wr=>∃(k:Nat) (es:List LnE),p = .int .i64 (stB b.blocks k)/\i = .int .i64 k/\k<=b.blocks.length/\Hid (es.map (·.l)=lnU b.blocks (stB b.blocks k))/\Hid (LnW w es l wr)) (fun _ _ i _=>b.blocks.length - (intOf i).toNat)
 case atStart=>exact ⟨0,[],by rw [stB_zero];rfl,rfl,by omega,aH (by rw [stB_zero];rfl),aH (LnW.nil w W0 HB0.out)⟩
 case round=>
  obtain ⟨k,es,rfl,rfl,hk,HE,HW⟩:=hrel;by_cases h2:k<b.blocks.length
  case neg=>
   obtain rfl:k=b.blocks.length:=by omega
   obtain ⟨A,c,rfl⟩:=cW HW.out.own;go_wp2_with fail
   go_ret;exact ⟨_,es,rfl,HE.out,HW.out⟩
  case pos=>
  obtain ⟨bb,oo,hA,hbb,hx⟩:=HBLK.out.sl.at_ h2;have hx0:=bF h2;have hmem:=bO h2;obtain ⟨x,hxx⟩:∃x,b.blocks[k]=x:=⟨_,rfl⟩;rw [hxx] at hx hx0 hmem;obtain ⟨A1,c1,A2,c2,A3,c3,A4,c4,p0,p1,p2,p3,p4,p5,p6,hs1,-,-,-⟩:=eX hx;replace p0:=cQ HW.out.low p0;replace p1:=cQ HW.out.low p1;replace p2:=cQ HW.out.low p2;replace p3:=cQ HW.out.low p3;replace p4:=cQ HW.out.low p4;replace p5:=cQ HW.out.low p5;replace p6:=cQ HW.out.low p6;have HX:=aH hx0;have HM:=aH hmem;have HS1:=aH hs1;have hl1:=hs1.le;have hl1b:=hs1.big;have hs:=eP hx0;have hcc:=iO hx0;have hc0:=HC.out;obtain ⟨s0,hs0⟩:∃s0,stB b.blocks k=s0:=⟨_,rfl⟩;rw [hs0] at hs hcc HE;rw [hs0];have HS:=aH hs;have HS0:=aH hs0;have hlim:s0+x.stmts.length<1000000:=by omega
  rw [hA];obtain ⟨W1,hW1⟩:∃W1,wr.alloc (.cells (bkL x A1 c1 A2 c2 A3 c3 A4 c4).toArray 116)=W1:=⟨_,rfl⟩;have hb1:=alF wr (.cells (bkL x A1 c1 A2 c2 A3 c3 A4 c4).toArray 116);have nn:=cT wr (bkL x A1 c1 A2 c2 A3 c3 A4 c4) 116;rw [hW1] at hb1 nn;have n0:=nn 0 _ rfl;have HW1:=aH (HW.out.keep hb1);have HE1:Hid (es.map (·.l)=lnU b.blocks (s0+0)):=HE;unfold bkL at hW1;clear hx hx0 hmem hs1 nn hb1 hs hcc hc0 hs0 hxx hA;go_wp2_with fail
  clear p0 p1 p2 p3 p4 p5 p6 n0 hW1 HW HE;go_loopw [3,4,20] (fun l p j wr2=>∃(m:Nat) (es:List LnE),p = .int .i64 (s0+m:Nat)/\j = .int .i64 m/\m<=x.stmts.length/\Hid (es.map (·.l)=lnU b.blocks (s0+m))/\Hid (LnW w es l wr2)) (fun _ _ j _=>x.stmts.length - (intOf j).toNat)
  case atStart=>exact ⟨0,es,rfl,rfl,by omega,HE1,HW1⟩
  case round=>
   clear HW1 HE1;obtain ⟨m,es,rfl,rfl,hm,HE,HW⟩:=hrel;by_cases h3:m<x.stmts.length
   case neg=>
    obtain rfl:m=x.stmts.length:=by omega
    have HN:Hid (es.map (·.l)=lnU b.blocks (stB b.blocks (k+1))):=aH (by
     rw [HS.out,show s0+(x.stmts.length+1)=(s0+x.stmts.length)+1 by omega,nM,<- HE.out];have:=xBN HX.out (bA x.stmts.length);rw [HS0.out] at this;rw [this];unfold lnB;rw [cG (bA _)]
     simp)
    go_wp2_with fail
    go_roundw
    case rel=>exact ⟨k+1,es,by rw [HS.out];go_num,by go_num,by omega,HN,HW⟩
    case measure=>first | (simp [intOf];done) | (simp [intOf];omega)
   case pos=>
   obtain ⟨sb,so,rfl,hsb,hss⟩:=HS1.out.sl.at_ h3;obtain ⟨A0,c0,rA,rc,B,d,q0,q1,q2,q3,q4,q5,q6,q7,q8,q9,q10,-,hrp,-⟩:=iM hss
   have HLP:Hid (lnU b.blocks (s0+(m+1))=es.map (·.l) ++ lnS ((s0+m:Nat):Int) x.stmts[m]):=aH (by
    rw [<- Nat.add_assoc,nM,<- HE.out];have:=xBN HX.out (Nat.le_of_lt h3);rw [HS0.out] at this;rw [this];unfold lnB
    rw [bF h3])
   have hpl:=HPJ.out x HM.out _ (bO h3)
   have hne:es.length<=s0+m:=by
    have:=congrArg List.length HE.out;rw [cH] at this;rw [this];exact vY _ _
   replace q0:=cQ HW.out.low q0;replace q1:=cQ HW.out.low q1;replace q2:=cQ HW.out.low q2;replace q3:=cQ HW.out.low q3;replace q4:=cQ HW.out.low q4;replace q5:=cQ HW.out.low q5;replace q6:=cQ HW.out.low q6;replace q7:=cQ HW.out.low q7;replace q8:=cQ HW.out.low q8;replace q9:=cQ HW.out.low q9;replace q10:=cQ HW.out.low q10;clear hss;unfold lnS at HLP;obtain ⟨⟨rl,rj⟩,hre⟩:∃p:Plc,x.stmts[m].rv.place=p:=⟨_,rfl⟩;rw [hre] at HLP q7 q8 hrp hpl;simp only at q7 q8 hrp hpl;clear hre;generalize x.stmts[m].kind=kd at *;generalize x.stmts[m].place.loc=pl at *;generalize x.stmts[m].place.proj.length=n0 at *;generalize x.stmts[m].rv.kind=rk at *;generalize x.stmts[m].rv.op=op at *;generalize x.stmts[m].rv.reg=rg at *;generalize x.stmts[m].rv.mu=mu at *;generalize x.stmts[m].rv.args.length=an at *;generalize x.stmts[m].loc=lo at *;obtain ⟨W2,hW2⟩:∃W2,wr.alloc (.cells ([Value.int .i64 kd,.int .i64 pl,.slice A0 n0 c0,.int .i64 rk,.int .i64 op,.int .i64 rg,.bool mu,.int .i64 rl,.slice rA rj.length rc,.slice B an d,.int .i64 lo]).toArray 111)=W2:=⟨_,rfl⟩;have hb2:=alF wr (.cells ([Value.int .i64 kd,.int .i64 pl,.slice A0 n0 c0,.int .i64 rk,.int .i64 op,.int .i64 rg,.bool mu,.int .i64 rl,.slice rA rj.length rc,.slice B an d,.int .i64 lo]).toArray 111);have ss:=cT wr [Value.int .i64 kd,.int .i64 pl,.slice A0 n0 c0,.int .i64 rk,.int .i64 op,.int .i64 rg,.bool mu,.int .i64 rl,.slice rA rj.length rc,.slice B an d,.int .i64 lo] 111;rw [hW2] at hb2 ss;have r0:=ss 0 _ rfl;have r3:=ss 3 _ rfl;have r5:=ss 5 _ rfl;have r6:=ss 6 _ rfl;have r7:=ss 7 _ rfl;have r8:=ss 8 _ rfl;have HB2:=aH hb2;have hz2:wr.heap.size<W2.heap.size:=cF _ _ r0;clear ss hb2;by_cases hkr:kd=0/\rk=1
   case neg=>
    have HN:Hid (es.map (·.l)=lnU b.blocks (s0+(m+1))):=aH (by rw [HLP.out,bB hkr,List.append_nil]);have HW2:=aH (HW.out.keep HB2.out)
    have hcs:((kd == 0)=true/\(rk == 1)=false)\/(kd == 0)=false:=by
     by_cases e:kd=0
     ·exact .inl ⟨by simp [e],by simp;intro h;exact hkr ⟨e,h⟩⟩
     ·exact .inr (by simp [e])
    clear hkr HLP HW HE hrp;rcases hcs with ⟨t0,t1⟩ | t0
    all_goals
     go_wp2_with fail
     go_roundw
     case rel=>exact ⟨m+1,es,by go_num,by go_num,by omega,HN,HW2⟩
     case measure=>first | (simp [intOf];done) | (simp [intOf];omega)
   case pos=>
    obtain ⟨rfl,rfl⟩:=hkr;have HN:Hid (lnU b.blocks (s0+(m+1))=es.map (·.l) ++ [⟨rg,((s0+m:Nat):Int),mu,⟨rl,rj⟩⟩]):=aH (by rw [HLP.out,bD ⟨rfl,rfl⟩]);obtain ⟨W3,hW3⟩:∃W3,W2.alloc (.cells #[.int .i64 rl,.slice rA rj.length rc] 36)=W3:=⟨_,rfl⟩;have hb3:=alF W2 (.cells #[.int .i64 rl,.slice rA rj.length rc] 36);obtain ⟨u0,u1⟩:=fO W2 (.int .i64 rl) (.slice rA rj.length rc) 36;have hh3:=heap_alloc_new W2 (.cells #[.int .i64 rl,.slice rA rj.length rc] 36);have hz3:W3.heap.size=W2.heap.size+1:=by rw [<- hW3];simp
    rw [hW3] at hb3 u0 u1 hh3;have HB3:=aH (HB2.out.trans (hb3.mono HB2.out.size));have HH3:=aH hh3;have hrp3:=hrp.keep RPj.keeps (HW.out.low.trans (HB3.out.mono HW.out.low.size))
    have HCL:=aH (lY rj.length (rj.flatMap pjC) rA rc W3 (uW rj) uV (fun a ha=>by
     subst ha
     exact oP hrp3) (fun ha=>by
     rcases Nat.eq_zero_or_pos rj.length with h0 | h0
     ·exact h0
     ·obtain ⟨b',o',hA',_⟩:=hrp3.sl h0
      rw [ha] at hA';cases hA') ⟨hrp3.le,hrp3.big⟩ hpl)
    have hrl:=hrp3.le;have hrb:=hrp3.big;replace r5:=cQ hb3 r5;replace r6:=cQ hb3 r6;clear hrp hrp3 hh3 hb3 HLP
    go_wp2_with (first
     | (at_builtin;refine wpList_append_own _ rfl _ _ 22 rfl w.heap.size 38 i0 (.agg #[.int .i64 0,.int .i64 0,.bool false,.int .i64 0,.slice none 0 0]) 5 56 Tryz.underlying22 hi0 hq0 hq1 hq2 rfl (by decide) _ _ _ rfl HW6.out.own ⟨W5.heap.size,0,none⟩ 1 1 (lnC ⟨rg,((s0+m:Nat):Int),mu,⟨rl,rj⟩⟩ A4 c4) rfl rfl HNC.out (fun u hu=>by simp [lnC] at hu;rcases hu with rfl | rfl | rfl | rfl | rfl <;> rfl) (by unfold maxLen;omega) (by omega) HSZ.out ?_;intro v' w7 hown7 hg7 _)
     | (go_at_call 44;(refine HCL.out.mono ?_;rintro e' w4 ⟨v4,rfl,ho4,hb4⟩;obtain ⟨A4,c4,rfl,hs4,ha4⟩:=uI ho4 rfl;have ht4:=xCL ho4;have hr4:=(hb4.block _ (Array.getElem?_eq_some_iff.1 HH3.out).1).trans HH3.out;have f4:∀i,w4.frozen? ⟨W2.heap.size,i,none⟩=false:=(fun i=>by simp [World.frozen?,hr4]);have y0:=cR (l:=[.int .i64 rl,.slice rA rj.length rc]) hr4 0 _ rfl;have y1:=cR (l:=[.int .i64 rl,.slice rA rj.length rc]) hr4 1 _ rfl;obtain ⟨W5,hW5⟩:∃W5,w4.setCell ⟨W2.heap.size,1,none⟩ (.slice A4 rj.length c4)=W5:=⟨_,rfl⟩;obtain ⟨k0,k1,k5,k6,HK⟩:=zQ (p:=((s0+m:Nat):Int)) HW.out HB3.out hb4 hr4 hz2 hz3 r5 r6 hs4 (fun a ha=>⟨(ha4 a ha).1,ht4 a _ _ (by rw [ha])⟩) hW5;clear r0 r3 r5 r6 r7 r8 u0 u1 q0 q1 q2 q3 q4 q5 q6 q7 q8 q9 q10 hs4 ha4 ht4 ho4 hb4;obtain ⟨W6,hW6⟩:∃W6,W5.alloc (.cells (lnC ⟨rg,((s0+m:Nat):Int),mu,⟨rl,rj⟩⟩ A4 c4).toArray 38)=W6:=⟨_,rfl⟩;have HW6:=aH (HK.1.keep (hW6 ▸ alF W5 _));have HP6:=aH (zT (e:=⟨⟨rg,((s0+m:Nat):Int),mu,⟨rl,rj⟩⟩,A4,c4⟩) HK.2 (hW6 ▸ alF W5 _));have HNC:=aH (hW6 ▸ vX W5 (lnC ⟨rg,((s0+m:Nat):Int),mu,⟨rl,rj⟩⟩ A4 c4));have HSZ:=aH HW6.out.low.size;unfold lnC at hW6;push_cast at hW6)))
    go_roundw
    case rel=>exact ⟨m+1,es ++ [⟨⟨rg,((s0+m:Nat):Int),mu,⟨rl,rj⟩⟩,A4,c4⟩],by go_num,by go_num,by omega,aH (by rw [bV,HN.out];rfl),aH (HW6.out.push (e:=⟨⟨rg,((s0+m:Nat):Int),mu,⟨rl,rj⟩⟩,A4,c4⟩) HP6.out hown7 hg7)⟩
    case measure=>first | (simp [intOf];done) | (simp [intOf];omega)
end
section
open Go Go.RowKit Go.Shelf
attribute [local go_sem] Oper.semAt_some
structure Ax where
 a:Acs
 A:Option Addr
 c:Nat
def encX (e:Ax):Array Value:= #[.agg #[.int .i64 e.a.place.loc,.slice e.A e.a.place.proj.length e.c,.bool e.a.wr,.bool e.a.deep]]
def opX (xs:List Opd) (ad:Nat->Option Addr × Nat) (i:Nat):List Ax:=
 match xs[i]? with
 | some o=>if o.kind=0\/o.kind=1 then [⟨⟨o.place,decide (o.kind=1),true⟩,(ad i).1,(ad i).2⟩] else []
 | none=>[]
def opL (xs:List Opd) (ad:Nat->Option Addr × Nat) (k:Nat):List Ax:=(List.range k).flatMap (opX xs ad)
theorem kD (xs:List Opd) (ad:Nat->Option Addr × Nat) (k:Nat):opL xs ad (k+1)=opL xs ad k ++ opX xs ad k:=by simp [opL,List.range_succ]
theorem vK (xs:List Opd) (ad:Nat->Option Addr × Nat) (k:Nat):∀d,∃post,opL xs ad (k+d)=opL xs ad k ++ post
 | 0=>⟨[],by simp⟩
 | d+1=>by
   obtain ⟨p,hp⟩:=vK xs ad k d;exact ⟨p ++ opX xs ad (k+d),by rw [<- Nat.add_assoc,kD,hp,List.append_assoc]⟩
theorem qA (xs:List Opd) (ad:Nat->Option Addr × Nat):∀k,k<=xs.length->(opL xs ad k).map (·.a)=rdL (xs.take k)
 | 0,_=>by simp [opL,rdL]
 | k+1,h=>by
   rw [kD,bV,qA xs ad k (by omega),bH (by omega)];unfold rdL;rw [List.filter_append,bV];congr 1
   unfold opX;rw [bF (by omega)];simp only;by_cases e:xs[k].kind=0\/xs[k].kind=1
   ·simp [e]
   ·simp [e]
def AdOk (w:World) (A:Option Addr) (xs:List Opd) (ad:Nat->Option Addr × Nat):Prop:=∀i (h:i<xs.length),∃b o,A=some ⟨b,o,none⟩/\b<w.heap.size/\w.cell? ⟨b,o+i * 4,none⟩=some (.int .i64 xs[i].kind)/\w.cell? ⟨b,o+i * 4+1,none⟩=some (.int .i64 xs[i].place.loc)/\w.cell? ⟨b,o+i * 4+2,none⟩=some (.slice (ad i).1 xs[i].place.proj.length (ad i).2)/\w.cell? ⟨b,o+i * 4+3,none⟩=some (.int .i64 xs[i].n)/\Slc 2 RPj w (ad i).1 (ad i).2 xs[i].place.proj
theorem ad_of {w:World} {A:Option Addr} {c:Nat} {xs:List Opd} (h:Slc 4 ROp w A c xs):∃ad,AdOk w A xs ad:=by
 have key:∀i:Nat,∃ad:Option Addr × Nat,∀(h:i<xs.length),∃b o,A=some ⟨b,o,none⟩/\b<w.heap.size/\w.cell? ⟨b,o+i * 4,none⟩=some (.int .i64 xs[i].kind)/\w.cell? ⟨b,o+i * 4+1,none⟩=some (.int .i64 xs[i].place.loc)/\w.cell? ⟨b,o+i * 4+2,none⟩=some (.slice ad.1 xs[i].place.proj.length ad.2)/\w.cell? ⟨b,o+i * 4+3,none⟩=some (.int .i64 xs[i].n)/\Slc 2 RPj w ad.1 ad.2 xs[i].place.proj:=fun i=>by
  by_cases hi:i<xs.length
  ·obtain ⟨b,o,hA,hb,k0,⟨p0,A0,c0,p1,p2,p3,p4⟩,n0⟩:=h.sl.at_ hi;exact ⟨(A0,c0),fun _=>⟨b,o,hA,hb,k0,p0,p1,n0,p4,p2,p3⟩⟩
  ·exact ⟨(none,0),fun h=>absurd h hi⟩
 exact ⟨fun i=>(key i).choose,fun i h=>(key i).choose_spec h⟩
theorem pZ {w:World} {A:Option Addr} {xs:List Opd} {ad:Nat->Option Addr × Nat} (h:AdOk w A xs ad):∀k,k<=xs.length->∀e∈opL xs ad k,Slc 2 RPj w e.A e.c e.a.place.proj
 | 0,_,e,he=>by simp [opL] at he
 | k+1,hk,e,he=>by
   rw [kD,cL] at he;rcases he with he | he
   ·exact pZ h k (by omega) e he
   ·unfold opX at he;rw [bF (by omega)] at he;simp only at he;split at he
    ·rw [bU] at he;subst he;obtain ⟨b,o,_,_,_,_,_,_,hs⟩:=h k (by omega);exact hs
    ·cases he
theorem oM (A:Option Addr) (n c:Nat) (w:World):
 Calls Tryz.prog 139 #[.slice A n c] w fun e' w'=>e' = .returned (.func (.func 166) #[] #[.pointer (some ⟨w.heap.size,0,none⟩)])/\w'=w.alloc (.cells #[.slice A n c] 107):=by
 go_enter Tryz.func139,Tryz.ntmps139
 go_wp2
 go_ret;exact ⟨rfl,rfl⟩
theorem oK (T:TypeId->Bool) (n:Nat) (hn:1<=n) (xs:List Opd) (A:Option Addr) (c:Nat) (ad:Nat->Option Addr × Nat) (bx:Nat) (w0 w:World) (hw:Below w0.heap.size w0 w) (ha:AdOk w0 A xs ad) (hc:xs.length<=c/\c<=9223372036854775807) (h0:w.cell? ⟨bx,0,none⟩=some (.slice A xs.length c)):
 SeqL Fence.wide n Tryz.prog 166 #[.pointer (some ⟨bx,0,none⟩)] encX T (fun k=>k<w0.heap.size\/k=bx) (opL xs ad xs.length) w:=by
 intro lp J Jx W hW hJ hJx hY hj0;have g0:=cQ hW h0;have hle:=hc.1;have hbg:=hc.2;have HA:=aH ha;have HB0:=aH (hw.trans (hW.mono hw.size));have HJ:=aH hJ;have HY:=aH hY;have H00:=aH hj0;clear ha hc h0 hY hj0 hW;(refine callsIn_of_wp Tryz.func166 rfl trivial ?_ rfl;simp only [Tryz.ntmps166,List.size_toArray,bN,bQ,Nat.reduceAdd,Nat.reduceSub,Array.replicate_succ,Array.replicate_zero,List.push_toArray,List.append_toArray,List.nil_append,List.cons_append]);gi_wp2
 gi_loopw [7] (fun i wr=>∃k:Nat,i = .int .i64 k/\k<=xs.length/\Hid (J (opL xs ad k) wr)/\Hid (Below w0.heap.size w0 wr)/\W.heap.size<=wr.heap.size) (fun i _=>xs.length - (intOf i).toNat)
 case atStart=>exact ⟨0,rfl,by omega,aH H00.out,HB0,bA _⟩
 case round=>
  clear H00 g0;obtain ⟨k,rfl,hk,HJ0,HB,hsz⟩:=hrel;by_cases hlt:k<xs.length
  case neg=>
   obtain rfl:k=xs.length:=by omega
   gi_wp2
   go_end0
   exact ⟨⟨_,rfl⟩,.inl HJ0.out⟩
  case pos=>
  obtain ⟨b,o,rfl,hb,q0,q1,q2,q3,-⟩:=HA.out k hlt;have HX:Hid (opX xs ad k=if xs[k].kind=0\/xs[k].kind=1 then [⟨⟨xs[k].place,decide (xs[k].kind=1),true⟩,(ad k).1,(ad k).2⟩] else []):=aH (by unfold opX;rw [bF hlt]);replace q0:=cQ HB.out q0;replace q1:=cQ HB.out q1;replace q2:=cQ HB.out q2;replace q3:=cQ HB.out q3;have HS:=aH (kD xs ad k);have HP:=aH (vK xs ad (k+1) (xs.length - (k+1)));rw [show k+1+(xs.length - (k+1))=xs.length by omega] at HP;obtain ⟨aA,aC,had⟩:∃aA aC,ad k=(aA,aC):=⟨_,_,rfl⟩;rw [had] at q2 HX;simp only at q2 HX;clear had;obtain ⟨pl,hpl⟩:∃pl,xs[k].place=pl:=⟨_,rfl⟩;rw [hpl] at q1 q2 HX;clear hpl;generalize xs[k].kind=kd at *;generalize xs[k].n=on at *;obtain ⟨W1,hW1⟩:∃W1,wr.alloc (.cells #[.int .i64 kd,.int .i64 pl.loc,.slice aA pl.proj.length aC,.int .i64 on] 121)=W1:=⟨_,rfl⟩;have hb1:=alF wr (.cells #[.int .i64 kd,.int .i64 pl.loc,.slice aA pl.proj.length aC,.int .i64 on] 121);have s:=cT wr [.int .i64 kd,.int .i64 pl.loc,.slice aA pl.proj.length aC,.int .i64 on] 121;rw [hW1] at hb1 s;have s0:=s 0 _ rfl;have s1:=s 1 _ rfl;have s2:=s 2 _ rfl;have HJ1:=aH (HJ.out _ _ _ HJ0.out (Turn.of_below hb1));have HB1:=aH (HB.out.trans (hb1.mono HB.out.size));have hsz1:W.heap.size<=W1.heap.size:=by have:=hb1.size;omega
  clear s hb1;by_cases hkd:kd=0\/kd=1
  case neg=>
   have t0:(kd != 0)=true:=by simp;omega
   have t1:(kd != 1)=true:=by simp;omega
   have HE:Hid (opL xs ad (k+1)=opL xs ad k):=aH (by rw [HS.out,HX.out,bB hkd,List.append_nil]);clear hkd HP HX HS;gi_wp2
   go_roundw
   case rel=>exact ⟨k+1,by go_num,by omega,aH (by rw [HE.out];exact HJ1.out),HB1,hsz1⟩
   case measure=>first | (simp [intOf];done) | (simp [intOf];omega)
  case pos=>
   have HE:Hid (opL xs ad (k+1)=opL xs ad k ++ [⟨⟨pl,decide (kd=1),true⟩,aA,aC⟩]):=aH (by rw [HS.out,HX.out,bD hkd])
   have HPP:Hid (∃post,opL xs ad xs.length=opL xs ad k ++ ⟨⟨pl,decide (kd=1),true⟩,aA,aC⟩ :: post):=aH (by
    obtain ⟨post,hp⟩:=HP.out
    exact ⟨post,by rw [hp,HE.out,List.append_assoc];rfl⟩)
   obtain ⟨post,hpost⟩:=HPP.out;have HPO:=aH hpost;obtain ⟨fn,tmps,assign,body,hy,hR⟩:=HY.out _ _ _ W1 hpost HJ1.out
   have hcases:(kd=0/\decide (kd=1)=false)\/(kd=1/\decide (kd=1)=true):=by
    rcases hkd with h | h
    ·exact .inl ⟨h,by simp [h]⟩
    ·exact .inr ⟨h,by simp [h]⟩
   unfold encX at hy;simp only at hy;clear hkd HP HX HS HPP hpost;rcases hcases with ⟨rfl,hd⟩ | ⟨rfl,hd⟩
   all_goals
    rw [hd] at hy;clear hd;gi_wp2
    refine hR.mono ?_;clear hy hR;rintro e W3 (⟨rfl,hJ3,hk3⟩ | ⟨rfl,hJx3⟩)
    ·have HJ3:=aH hJ3;have HB3:=aH (HB1.out.trans (hk3.below (n₀ := w0.heap.size) (fun k hk=> .inl hk) HB1.out.size));have hsz3:=hk3.size;clear hJ3 hk3;gi_wp2
     go_roundw
     case rel=>exact ⟨k+1,by go_num,by omega,aH (by rw [HE.out];exact HJ3.out),HB3,by omega⟩
     case measure=>first | (simp [intOf];done) | (simp [intOf];omega)
    ·have HJX:=aH hJx3;clear hJx3;gi_wp2
     refine bodyPost_ret (results_none rfl _ _ _) rfl ?_;exact ⟨⟨_,rfl⟩,.inr ⟨_,_,_,HPO.out,HJX.out⟩⟩
end
section
open Go Go.RowKit Go.Shelf
def iY (x:Blk) (k:Nat):List Opd:=
 match x.stmts[k]? with
 | some s=>s.rv.args
 | none=>x.term.args
def acBor (x:Blk) (k:Nat):List Acs:=
 match x.stmts[k]? with
 | some s=>ifA (s.rv.kind=1) ⟨s.rv.place,s.rv.mu,true⟩
 | none=>[]
def acG (x:Blk) (k:Nat):List Acs:=rdL (iY x k) ++ acBor x k ++ ifA ((wrP x k).2.1=true) ⟨(wrP x k).1,true,false⟩
def acPt (bs:List Blk) (p:Int):List Acs:=
 match locB bs p with
 | none=>[]
 | some (i,k)=>match bs[i]? with
   | none=>[]
   | some x=>acG x k
theorem xU {bs:List Blk} {p:Int} {i k:Nat} {x:Blk} (h:locB bs p=some (i,k)) (hx:bs[i]?=some x):acPt bs p=acG x k:=by unfold acPt;rw [h];simp only [hx]
theorem xT {bs:List Blk} {p:Int} (h:locB bs p=none):acPt bs p=[]:=by unfold acPt;rw [h]
def TA (t:TypeId):Bool:=t == 209 || t == 116 || t == 109 || t == 107
structure AcW (w0:World) (D0 yk xk rk ak:Nat) (yv xv rv av:Array Value) (A:World):Prop where
 yb:A.heap[yk]?=some (.cells yv 209 (0,0))
 xb:A.heap[xk]?=some (.cells xv 116 (0,0))
 rb:A.heap[rk]?=some (.cells rv 109 (0,0))
 ab:A.heap[ak]?=some (.cells av 107 (0,0))
 low:Below w0.heap.size w0 A
 sz:D0<=A.heap.size
 bd:D0<=yk/\D0<=xk/\D0<=rk/\D0<=ak/\w0.heap.size<=D0
section
variable {w0:World} {D0 yk xk rk ak:Nat} {yv xv rv av:Array Value} {A B:World}
theorem AcW.kb (h:AcW w0 D0 yk xk rk ak yv xv rv av A) {N:Nat->Prop} (hk:Kb N D0 TA A B) (hN:∀k,k<w0.heap.size->N k):AcW w0 D0 yk xk rk ak yv xv rv av B:=
 ⟨hk.same _ _ h.bd.1 h.yb rfl,hk.same _ _ h.bd.2.1 h.xb rfl,hk.same _ _ h.bd.2.2.1 h.rb rfl,hk.same _ _ h.bd.2.2.2.1 h.ab rfl,h.low.trans (hk.below hN h.low.size),cA h.sz hk.size,h.bd⟩
theorem AcW.below (h:AcW w0 D0 yk xk rk ak yv xv rv av A) (hb:Below A.heap.size A B):AcW w0 D0 yk xk rk ak yv xv rv av B:=
 ⟨(hb.block _ (Array.getElem?_eq_some_iff.1 h.yb).1).trans h.yb,(hb.block _ (Array.getElem?_eq_some_iff.1 h.xb).1).trans h.xb,(hb.block _ (Array.getElem?_eq_some_iff.1 h.rb).1).trans h.rb,(hb.block _ (Array.getElem?_eq_some_iff.1 h.ab).1).trans h.ab,h.low.trans (hb.mono h.low.size),cA h.sz hb.size,h.bd⟩
theorem AcW.turn (h:AcW w0 D0 yk xk rk ak yv xv rv av A) {D:Nat} {T:TypeId->Bool} (ht:Turn D T A B) (h1:yk<D/\xk<D/\rk<D/\ak<D):AcW w0 D0 yk xk rk ak yv xv rv av B:=
 ⟨ht.block_low h1.1 h.yb,ht.block_low h1.2.1 h.xb,ht.block_low h1.2.2.1 h.rb,ht.block_low h1.2.2.2 h.ab,ht.below (by have:=h.bd;omega) h.low.size h.low,cA h.sz ht.size,h.bd⟩
theorem AcW.rec_ (h:AcW w0 D0 yk xk rk ak yv xv rv av A) {l:Nat} (hr:Rec l A B) (hl:D0<=l):AcW w0 D0 yk xk rk ak yv xv rv av B:=
 ⟨hr.cells h.yb,hr.cells h.xb,hr.cells h.rb,hr.cells h.ab,h.low.trans ⟨hr.os,hr.tape,hr.output,by rw [hr.size];exact bA _,fun k hk=>hr.block k (by have:=h.bd;omega)⟩,by rw [hr.size];exact h.sz,h.bd⟩
theorem AcW.inner (h:AcW w0 D0 yk xk rk ak yv xv rv av A) {N:Nat->Prop} (hk:Kb N D0 TA A B) (hN:∀k,k<w0.heap.size->N k) {D:Nat} (hD:D0<=D):Kb (fun k=>k<w0.heap.size\/k=ak) D TA A B:=
 ⟨hk.os,hk.tape,hk.output,hk.size,fun k hk' hA=>hk'.elim (fun g=>hk.low k (hN k g) hA) (fun g=>by subst g;exact (hk.same _ _ h.bd.2.2.2.1 h.ab rfl).trans h.ab.symm),(hk.mono hD).same⟩
end
theorem st7 {W:World} {b:Nat} {T:TypeId} {z0 z1 z2 z3 z4 z5 z6:Value} (hr:W.heap[b]?=some (.cells #[z0,z1,z2,z3,z4,z5,z6] T (0,0))) (v0 v1 v2 v3 v4 v5 v6:Value) {W9:World}
 (hW:((((((W.setCell ⟨b,0,none⟩ v0).setCell ⟨b,1,none⟩ v1).setCell ⟨b,2,none⟩ v2).setCell ⟨b,3,none⟩ v3).setCell ⟨b,4,none⟩ v4).setCell ⟨b,5,none⟩ v5).setCell ⟨b,6,none⟩ v6=W9):
 W9.heap[b]?=some (.cells #[v0,v1,v2,v3,v4,v5,v6] T (0,0))/\(∀k,k≠b->W9.heap[k]?=W.heap[k]?)/\(∀n₀ w,n₀ <= b->Below n₀ w W->Below n₀ w W9)/\W9.heap.size=W.heap.size:=by
 refine ⟨by rw [<- hW];simp [World.setCell,Array.getElem?_modify,hr],fun k hk=>?_,fun n₀ w h hl=>?_,by rw [<- hW];simp⟩
 ·rw [<- hW];rw [bJ _ _ _ _ hk,bJ _ _ _ _ hk,bJ _ _ _ _ hk,bJ _ _ _ _ hk,bJ _ _ _ _ hk,bJ _ _ _ _ hk,bJ _ _ _ _ hk]
 ·rw [<- hW];exact ((((((hl.setCell h _).setCell h _).setCell h _).setCell h _).setCell h _).setCell h _).setCell h _
end
section
open Go Go.RowKit
attribute [local irreducible] Calls
theorem xCN (p q:Plc) (A B:Option Addr) (c d:Nat) (w:World) (hx:Slc 2 RPj w A c p.proj) (hy:Slc 2 RPj w B d q.proj):
 Calls Tryz.prog 140 #[.agg #[.int .i64 p.loc,.slice A p.proj.length c],.agg #[.int .i64 q.loc,.slice B q.proj.length d]] w fun e w'=>e = .returned (.bool (ovl p q))/\Below w.heap.size w w':=by
 have hle:=hx.le;have hbig:=hx.big;have hle2:=hy.le;have hbig2:=hy.big;have HB:=aH (bel2 w (.cells #[.int .i64 p.loc,.slice A p.proj.length c] 36) (.cells #[.int .i64 q.loc,.slice B q.proj.length d] 36));obtain ⟨n,hn⟩:∃n,min p.proj.length q.proj.length=n:=⟨_,rfl⟩
 have hmn:∀W,(Builtin.min_ #[3,3] 3 #[.int .i64 p.proj.length,.int .i64 q.proj.length]).run Tryz.prog W = .ok (.int .i64 n) W:=fun W=>by
  rw [<- hn];simp [Builtin.min_,Builtin.min2];omega
 have h1:n<=p.proj.length:=by omega
 have h2:n<=q.proj.length:=by omega
 have hlen:(p.proj.take n).length=n:=by rw [cO];omega
 have hlen2:(q.proj.take n).length=n:=by rw [cO];omega
 have hC:=nQ A B c d (p.proj.take n) (q.proj.take n);rw [hlen,hlen2] at hC;have HC:=aH (fun W (hb:Below w.heap.size w W)=>hC W ((hx.takeN _).keep RPj.keeps hb) ((hy.takeN _).keep RPj.keeps hb));obtain ⟨R,hR⟩:∃R,ovl p q=R:=⟨_,rfl⟩;rw [hR];have HR:Hid ((decide (p.loc=q.loc) && decide (p.proj.take n=q.proj.take n))=R):=aH (by rw [<- hR,xEJ,hn]);generalize decide (p.proj.take n=q.proj.take n)=v at HC HR;clear hC hlen hlen2 hx hy hn hR;by_cases hl:p.loc=q.loc
 ·have t1:(p.loc == q.loc)=true:=by simp [hl]
  have hfin:Hid (v=R):=aH (by rw [<- HR.out];simp [hl]);clear HR hl;go_enter Tryz.func140,Tryz.ntmps140
  go_wp2_with fail
  go_quiet ((go_at_call 99;exact Calls.quiet_of (HC.out _ (aI HB.out _))))
  go_wp2
  go_ret;exact ⟨ret_b hfin.out,aI HB.out _⟩
 ·have t1:(p.loc == q.loc)=false:=by simp [hl]
  have hfin:Hid (false=R):=aH (by rw [<- HR.out];simp [hl]);clear HR hl;go_enter Tryz.func140,Tryz.ntmps140
  go_wp2_with fail
  go_quiet (fail)
  go_wp2
  go_ret;exact ⟨ret_b hfin.out,aI HB.out _⟩
theorem xDK (a:Acs) (l:Ln) (A B:Option Addr) (c d:Nat) (w:World) (hx:Slc 2 RPj w A c a.place.proj) (hy:Slc 2 RPj w B d l.place.proj):
 Calls Tryz.prog 97 #[.agg #[.int .i64 a.place.loc,.slice A a.place.proj.length c,.bool a.wr,.bool a.deep],.agg #[.int .i64 l.reg,.int .i64 l.pt,.bool l.mu,.int .i64 l.place.loc,.slice B l.place.proj.length d]] w fun e w'=>e = .returned (.bool (cfl a l))/\Below w.heap.size w w':=by
 have hle:=hx.le;have hbig:=hx.big;have hle2:=hy.le;have hbig2:=hy.big;obtain ⟨⟨al,aj⟩,wr,dp⟩:=a;obtain ⟨lr,lp,mu,ll,lj⟩:=l;simp only at *;have HO:=aH (fun W (hb:Below w.heap.size w W)=>xCN ⟨al,aj⟩ ⟨ll,lj⟩ A B c d W (hx.keep RPj.keeps hb) (hy.keep RPj.keeps hb));have HH:=aH (fun W (hb:Below w.heap.size w W)=>kF ⟨ll,lj⟩ (aj.length:Int) B d W (hy.keep RPj.keeps hb));obtain ⟨R,hR⟩:∃R,cfl ⟨⟨al,aj⟩,wr,dp⟩ ⟨lr,lp,mu,ll,lj⟩=R:=⟨_,rfl⟩;rw [hR];have HR:Hid (((wr || mu) && ovl ⟨al,aj⟩ ⟨ll,lj⟩ && (dp || !hasD lj aj.length))=R):=aH hR;simp only at HO HH;generalize ovl ⟨al,aj⟩ ⟨ll,lj⟩=v at HO HR;generalize hasD lj aj.length=h at HH HR;clear hx hy hR;obtain ⟨W0,hW0⟩:∃W0,(w.alloc (.cells ([Value.int .i64 al,.slice A aj.length c,.bool wr,.bool dp]).toArray 165)).alloc (.cells ([Value.int .i64 lr,.int .i64 lp,.bool mu,.int .i64 ll,.slice B lj.length d]).toArray 38)=W0:=⟨_,rfl⟩;have hb0:Below w.heap.size w W0:=by rw [<- hW0];exact bel2 _ _ _
 have ya:=cT w [Value.int .i64 al,.slice A aj.length c,.bool wr,.bool dp] 165;have yl:=cT (w.alloc (.cells ([Value.int .i64 al,.slice A aj.length c,.bool wr,.bool dp]).toArray 165)) [Value.int .i64 lr,.int .i64 lp,.bool mu,.int .i64 ll,.slice B lj.length d] 38;have hal:=alF (w.alloc (.cells ([Value.int .i64 al,.slice A aj.length c,.bool wr,.bool dp]).toArray 165)) (.cells ([Value.int .i64 lr,.int .i64 lp,.bool mu,.int .i64 ll,.slice B lj.length d]).toArray 38);rw [hW0] at yl hal;have hsz:(w.alloc (.cells ([Value.int .i64 al,.slice A aj.length c,.bool wr,.bool dp]).toArray 165)).heap.size=w.heap.size+1:=by simp
 rw [hsz] at yl;have x0:=cQ hal (ya 0 _ rfl);have x1:=cQ hal (ya 1 _ rfl);have x2:=cQ hal (ya 2 _ rfl);have x3:=cQ hal (ya 3 _ rfl);have z2:=yl 2 _ rfl;have z3:=yl 3 _ rfl;have z4:=yl 4 _ rfl;have HB0:=aH hb0;clear ya yl hal hb0 hsz;go_enter Tryz.func97,Tryz.ntmps97
 cases wr <;> cases mu
 case false.false=>
  have HF:Hid (false=R):=aH HR.out;clear HR;go_wp2_with fail
  go_ret;exact ⟨ret_b HF.out,HB0.out⟩
 all_goals
  cases v
  case false=>
   have HF:Hid (false=R):=aH (by rw [<- HR.out];simp);clear HR;go_wp2_with (go_at_call 140;refine (HO.out _ HB0.out).mono ?_;rintro e' w1 ⟨rfl,hb1⟩;have HB1:=aH (HB0.out.trans (hb1.mono HB0.out.size));replace x0:=cQ hb1 x0;replace x1:=cQ hb1 x1;replace x2:=cQ hb1 x2;replace x3:=cQ hb1 x3;replace z3:=cQ hb1 z3;replace z4:=cQ hb1 z4;clear hb1)
   go_ret;exact ⟨ret_b HF.out,HB1.out⟩
  case true=>
  cases dp
  case true=>
   have HF:Hid (true=R):=aH (by rw [<- HR.out];simp);clear HR;go_wp2_with (go_at_call 140;refine (HO.out _ HB0.out).mono ?_;rintro e' w1 ⟨rfl,hb1⟩;have HB1:=aH (HB0.out.trans (hb1.mono HB0.out.size));replace x0:=cQ hb1 x0;replace x1:=cQ hb1 x1;replace x2:=cQ hb1 x2;replace x3:=cQ hb1 x3;replace z3:=cQ hb1 z3;replace z4:=cQ hb1 z4;clear hb1)
   go_ret;exact ⟨ret_b HF.out,HB1.out⟩
  case false=>
   have HF:Hid ((!h)=R):=aH (by rw [<- HR.out];simp);clear HR
   go_wp2_with (first
    | (go_at_call 95;refine (HH.out _ HB1.out).mono ?_;rintro e' w2 ⟨rfl,hb2⟩;have HB2:=aH (HB1.out.trans (hb2.mono HB1.out.size));clear hb2)
    | (go_at_call 140;refine (HO.out _ HB0.out).mono ?_;rintro e' w1 ⟨rfl,hb1⟩;have HB1:=aH (HB0.out.trans (hb1.mono HB0.out.size));replace x0:=cQ hb1 x0;replace x1:=cQ hb1 x1;replace x2:=cQ hb1 x2;replace x3:=cQ hb1 x3;replace z3:=cQ hb1 z3;replace z4:=cQ hb1 z4;clear hb1))
   go_ret;exact ⟨ret_b HF.out,HB2.out⟩
end
end Go.Proofs.YtkaigkfbkpinlaaGreatDoor
