/-
  PrinterFacts: the texts that this claim has beyond those of PrinterPlaces. (part 9)
-/
import Derived.Test.YtmknfbfppmkcfaaGreatDoorNF8
import Derived.Lib.Hide
import Derived.Below
import Derived.WalkSmall
import Derived.Laws.World
import Derived.Test.YtmknfbfppmkcfaaGreatDoorProg
import Derived.WalkKit
import Derived.WalkSpells
import Derived.WalkLawsBesides
import Derived.Deep.RegionHeld3
import Derived.Deep.DeepFit
import Derived.Deep.QuietTactic
import Derived.BigQuiet
import Derived.OwnWalk
import Derived.Maps.AppendAt
import Derived.Deep.DeepCutAuto
import Derived.StillTailTactics
import Derived.Lib.ItoaNum
import Derived.Lib.Join
import Derived.RangeFuncNested
import Derived.RangeFuncBound
import Derived.RangeFuncCalls
import Derived.RangeFuncLeaves
import Derived.OwnWalkIn
import Derived.TacticsInMore
import Derived.LoopNIn
import Derived.LoopIn
import Derived.Shelf.Abstract
import Derived.OrdersHeld
import Derived.Deep.RegionHeld
import Derived.Test.YtmknfbfppmkcfaaGreatDoorSg
import Derived.Maps.OwnSet
import Derived.Maps.OwnOps
import Derived.StringKeys
import Derived.Lib.ItoaLen
import Derived.Deep.LoopGhost
import Derived.WideKeyPair
import Derived.WideKeyArr
import Derived.Deep.MidRow
import Derived.Test.YtmknfbfppmkcfaaGreatDoorSh
import Derived.Laws.IdiomStrings
import Derived.RangeFuncBox
import Derived.Test.YtmknfbfppmkcfaaGreatDoorSj
import Derived.Lib.AppendIntMem
import Derived.Lib.AppendStr
import Derived.Lib.Builder
import Derived.Deep.CutBlock
import Derived.Test.YtmknfbfppmkcfaaGreatDoorRows
import Derived.WalkMore
import Derived.ProofKit
import Derived.Deep.Slices
import Derived.Deep.Fields
import Derived.Lib.SmallJoins
import Derived.OpenShut
import Derived.LaidMore
import Derived.Stop.Joined
import Derived.Stop.LaidErr
import Derived.Lay
import Derived.SevenTiedAt
import Derived.Lib.LaidTab
import Derived.Test.YtmknfbfppmkcfaaGreatDoorTie
import Derived.Test.YtmknfbfppmkcfaaGreatDoorCards
import Derived.JoinedOf
import Derived.SizedLaws
namespace Go.Proofs.YtmknfbfppmkcfaaGreatDoor
set_option maxRecDepth 100000
set_option maxHeartbeats 16000000
section
open Go Go.RowKit
attribute [local irreducible] Calls
theorem xCO (b:Bdy) (bh:BH) (f:Fct) (fh:FH) (w:World) (H:BdAt w b bh) (HF:FcAt w f fh) (hnm:NmOk b) (hff:FitF f)
 (hz:chkB b=0->fctE f (cntP b.blocks) b.regions.length=0->(printF b f).length<=100000000000000):
 Calls Tryz.prog 14 #[.agg (bdC b bh).toArray,.agg (fcC f fh).toArray] w fun e' w'=>e' = .returned (.tuple #[tx (pfR b f).1,.int .i64 (pfR b f).2])/\Below w.heap.size w w':=by
 have HK0:=aF (fun (W:World) (hb:Below w.heap.size w W)=>xDP b bh W (H.keep hb) hnm);have HC0:=aF (fun (W:World) (hb:Below w.heap.size w W) (hc:chkB b=0)=>(rcount_any' b bh W (H.keep hb)).mono (by rintro e w1 ⟨⟨q,rfl,hq⟩,h⟩;exact ⟨by rw [hq.out (lX hc).1],h⟩:∀e w1,_->e = .returned (.int .i64 (cntP b.blocks))/\Below W.heap.size W w1));have HE0:=aF (fun (W:World) (hb:Below w.heap.size w W)=>xDL f fh (cntP b.blocks) b.regions.length W (HF.keep hb));obtain ⟨A1,c1,A2,c2,A3,c3,A4,c4,A5,c5⟩:=bh;obtain ⟨B0,d0,B1,d1,B2,d2,B3,d3,B4,d4⟩:=fh;have HK:Hid (∀W,Below w.heap.size w W->Calls Tryz.prog 17 #[.agg ([Value.string b.name,.slice A1 b.regions.length c1,.slice A2 b.outl.length c2,.slice A3 b.types.length c3,.slice A4 b.locals.length c4,.int .i64 b.args,.slice A5 b.blocks.length c5]).toArray] W fun e' w'=>e' = .returned (.int .i64 (chkB b))/\Below W.heap.size W w'):=aF (fun W hb=>HK0.out W hb);have HCN:Hid (∀W,Below w.heap.size w W->chkB b=0->Calls Tryz.prog 19 #[.agg ([Value.string b.name,.slice A1 b.regions.length c1,.slice A2 b.outl.length c2,.slice A3 b.types.length c3,.slice A4 b.locals.length c4,.int .i64 b.args,.slice A5 b.blocks.length c5]).toArray] W fun e' w'=>e' = .returned (.int .i64 (cntP b.blocks))/\Below W.heap.size W w'):=aF (fun W hb hc=>HC0.out W hb hc);have HE:Hid (∀W,Below w.heap.size w W->Calls Tryz.prog 21 #[.agg ([Value.slice B0 f.loans.length d0,.slice B1 f.edges.length d1,.slice B2 f.killed.length d2,.slice B3 f.inval.length d3,.slice B4 f.live.length d4]).toArray,.int .i64 (cntP b.blocks),.int .i64 b.regions.length] W fun e' w'=>e' = .returned (.int .i64 (fctE f (cntP b.blocks) b.regions.length))/\Below W.heap.size W w'):=aF (fun W hb=>HE0.out W hb);obtain ⟨W0,hW0⟩:∃W,(w.alloc (.cells ([Value.string b.name,.slice A1 b.regions.length c1,.slice A2 b.outl.length c2,.slice A3 b.types.length c3,.slice A4 b.locals.length c4,.int .i64 b.args,.slice A5 b.blocks.length c5]).toArray 28)).alloc (.cells ([Value.slice B0 f.loans.length d0,.slice B1 f.edges.length d1,.slice B2 f.killed.length d2,.slice B3 f.inval.length d3,.slice B4 f.live.length d4]).toArray 39)=W:=⟨_,rfl⟩;have hb1:Below w.heap.size w (w.alloc (.cells ([Value.string b.name,.slice A1 b.regions.length c1,.slice A2 b.outl.length c2,.slice A3 b.types.length c3,.slice A4 b.locals.length c4,.int .i64 b.args,.slice A5 b.blocks.length c5]).toArray 28)):=(aX _ _).alloc (aY _) _;have hb2:Below (w.alloc (.cells ([Value.string b.name,.slice A1 b.regions.length c1,.slice A2 b.outl.length c2,.slice A3 b.types.length c3,.slice A4 b.locals.length c4,.int .i64 b.args,.slice A5 b.blocks.length c5]).toArray 28)).heap.size (w.alloc (.cells ([Value.string b.name,.slice A1 b.regions.length c1,.slice A2 b.outl.length c2,.slice A3 b.types.length c3,.slice A4 b.locals.length c4,.int .i64 b.args,.slice A5 b.blocks.length c5]).toArray 28)) W0:=by rw [<- hW0];exact (aX _ _).alloc (aY _) _
 have HB0:=aF (hb1.trans (hb2.mono hb1.size));have hN0:W0.heap[w.heap.size]?=some (.cells ((bdM b A1 c1 A2 c2 A3 c3 A4 c4 A5 c5 [])).toArray 28 (0,0)):=cL (heap_alloc_new w (.cells ([Value.string b.name,.slice A1 b.regions.length c1,.slice A2 b.outl.length c2,.slice A3 b.types.length c3,.slice A4 b.locals.length c4,.int .i64 b.args,.slice A5 b.blocks.length c5]).toArray 28)) hb2
 have hN1:W0.heap[w.heap.size+1]?=some (.cells ([Value.slice B0 f.loans.length d0,.slice B1 f.edges.length d1,.slice B2 f.killed.length d2,.slice B3 f.inval.length d3,.slice B4 f.live.length d4]).toArray 39 (0,0)):=by
  have h:=heap_alloc_new (w.alloc (.cells ([Value.string b.name,.slice A1 b.regions.length c1,.slice A2 b.outl.length c2,.slice A3 b.types.length c3,.slice A4 b.locals.length c4,.int .i64 b.args,.slice A5 b.blocks.length c5]).toArray 28)) (.cells ([Value.slice B0 f.loans.length d0,.slice B1 f.edges.length d1,.slice B2 f.killed.length d2,.slice B3 f.inval.length d3,.slice B4 f.live.length d4]).toArray 39);rw [bI,hW0] at h;exact h
 have HN0:=aF hN0;have HN1:=aF hN1;have hS:(aA (bdM b A1 c1 A2 c2 A3 c3 A4 c4 A5 c5 []) W0.drew w.heap.size)/\(aA [Value.slice B0 f.loans.length d0,.slice B1 f.edges.length d1,.slice B2 f.killed.length d2,.slice B3 f.inval.length d3,.slice B4 f.live.length d4] W0.drew (w.heap.size+1)):=⟨cO hN0,cO hN1⟩;have hr1:=H.reg.le;have hr2:=H.reg.big;have hl1:=H.loc.le;have hl2:=H.loc.big;have l0:=HF.ln.le;have l1:=HF.ed.le;have l2:=HF.ki.le;have l3:=HF.iv.le;have l4:=HF.li.le;have m0:=HF.ln.big;have m1:=HF.ed.big;have m2:=HF.ki.big;have m3:=HF.iv.big;have m4:=HF.li.big;have HH:=aF H;have HG:=aF HF;have HFF:=aF hff;have HZ:=aF hz;simp only at hr1 hr2 hl1 hl2 l0 l1 l2 l3 l4 m0 m1 m2 m3 m4;clear HK0 HC0 HE0 H HF hnm hff hz hb1 hb2 hN0 hN1;unfold bdC fcC;simp only;by_cases hc:chkB b=0
 case neg=>
  have HR:=aF (mU (f:=f) (fun h:okF b f=>hc h.1));obtain ⟨R,hR⟩:∃R,pfR b f=R:=⟨_,rfl⟩;rw [hR] at HR ⊢;have e1:(chkB b != 0)=true:=by simp [hc]
  generalize chkB b=ck at *;clear hc hR HZ HCN HE;go_enter Tryz.func14,Tryz.ntmps14
  go_wp2_with fail
  refine cQ (S:=fun X=>(aA (bdM b A1 c1 A2 c2 A3 c3 A4 c4 A5 c5 []) X w.heap.size)/\(aA [Value.slice B0 f.loans.length d0,.slice B1 f.edges.length d1,.slice B2 f.killed.length d2,.slice B3 f.inval.length d3,.slice B4 f.live.length d4] X (w.heap.size+1))) [0,1,2,3,4,5,6,7,8,9,10,11,12] (by kernel_rfl) ?_;((refine cR (v:=?_) ?_ hS ?_;rotate_left;(next=>(rintro X ⟨hX,hZ⟩;obtain ⟨y0,y1,y2,y3,y4,y5,y6⟩:=aS hX;(try simp only [aI]);go_simp;rfl));simp only [aM]))
  (refine cM (fun K1 hK1=>?_);simp only [aM];rw [bA (by rfl)];go_simp);refine (HK.out _ HB0.out.drew).mono ?_;rintro e' w1 ⟨rfl,hw1⟩;replace hS:=bJ (fun i v h=>cJ hw1 (hS.1 i v h)) (fun i v h=>cJ hw1 (hS.2 i v h));refine hK1.out _ _ (fun _=>hS) ?_;(iterate 2 (refine cR (v:=?_) ?_ hS ?_;rotate_left;(next=>(rintro X -;(try simp only [aI]);go_simp;rfl));simp only [aM]));(iterate 8 (refine cU (v:=undef) (by kernel_rfl) (fun _ _ _ h=>h) (Or.inr ⟨by rfl,rfl⟩) hS ?_;simp only [aM]));((refine cR (v:=?_) ?_ hS ?_;rotate_left;(next=>(rintro X -;(try simp only [aI]);go_simp;rfl));simp only [aM]))
  refine cV ?_;clear hK1 hS;go_wp2_with fail
  go_ret2
  exact ⟨by rw [HR.out];rfl,HB0.out.drew.trans (hw1.mono HB0.out.drew.size)⟩
 case pos=>
 have e1:(chkB b != 0)=false:=by simp [hc]
 have HOK:=aF (wS hc);have HCC:=aF hc;rw [hc] at HK e1;by_cases hfe:fctE f (cntP b.blocks) b.regions.length=0
 case neg=>
  have HR:=aF (mU (b:=b) (f:=f) (fun h:okF b f=>hfe h.2.1));obtain ⟨R,hR⟩:∃R,pfR b f=R:=⟨_,rfl⟩;rw [hR] at HR ⊢;have e2:(fctE f (cntP b.blocks) b.regions.length != 0)=true:=by simp [hfe]
  generalize fctE f (cntP b.blocks) b.regions.length=fe at *;clear hfe hR HZ;go_enter Tryz.func14,Tryz.ntmps14
  go_wp2_with fail
  refine cQ (S:=fun X=>(aA (bdM b A1 c1 A2 c2 A3 c3 A4 c4 A5 c5 []) X w.heap.size)/\(aA [Value.slice B0 f.loans.length d0,.slice B1 f.edges.length d1,.slice B2 f.killed.length d2,.slice B3 f.inval.length d3,.slice B4 f.live.length d4] X (w.heap.size+1))) [0,1,2,3,4,5,7,8,9,6,10,11,12] (by kernel_rfl) ?_;((refine cR (v:=?_) ?_ hS ?_;rotate_left;(next=>(rintro X ⟨hX,hZ⟩;obtain ⟨y0,y1,y2,y3,y4,y5,y6⟩:=aS hX;(try simp only [aI]);go_simp;rfl));simp only [aM]))
  (refine cM (fun K1 hK1=>?_);simp only [aM];rw [bA (by rfl)];go_simp);refine (HK.out _ HB0.out.drew).mono ?_;rintro e' w1 ⟨rfl,hw1⟩;replace hS:=bJ (fun i v h=>cJ hw1 (hS.1 i v h)) (fun i v h=>cJ hw1 (hS.2 i v h));have HB1:=aF (HB0.out.drew.trans (hw1.mono HB0.out.drew.size));refine hK1.out _ _ (fun _=>hS) ?_;clear hK1 hw1;(iterate 2 (refine cR (v:=?_) ?_ hS ?_;rotate_left;(next=>(rintro X -;(try simp only [aI]);go_simp;rfl));simp only [aM]));(iterate 5 (refine cR (v:=?_) ?_ hS ?_;rotate_left;(next=>(rintro X ⟨hX,hZ⟩;obtain ⟨y0,y1,y2,y3,y4,y5,y6⟩:=aS hX;obtain ⟨z0,z1,z2,z3,z4⟩:=aQ hZ;(try simp only [aI]);go_simp;rfl));simp only [aM]));(refine cM (fun K1 hK1=>?_);simp only [aM];rw [bA (by rfl)];go_simp);refine (HCN.out _ HB1.out HCC.out).mono ?_;rintro e' w2 ⟨rfl,hw1⟩;replace hS:=bJ (fun i v h=>cJ hw1 (hS.1 i v h)) (fun i v h=>cJ hw1 (hS.2 i v h));have HB2:=aF (HB1.out.trans (hw1.mono HB1.out.size));refine hK1.out _ _ (fun _=>hS) ?_;clear hK1 hw1;(refine cM (fun K1 hK1=>?_);simp only [aM];rw [bA (by rfl)];go_simp);refine (HE.out _ HB2.out).mono ?_;rintro e' w3 ⟨rfl,hw1⟩;replace hS:=bJ (fun i v h=>cJ hw1 (hS.1 i v h)) (fun i v h=>cJ hw1 (hS.2 i v h));have HB3:=aF (HB2.out.trans (hw1.mono HB2.out.size));refine hK1.out _ _ (fun _=>hS) ?_;clear hK1 hw1;(iterate 2 (refine cR (v:=?_) ?_ hS ?_;rotate_left;(next=>(rintro X -;(try simp only [aI]);go_simp;rfl));simp only [aM]));refine cV ?_;clear hS;go_wp2_with fail
  go_ret2
  exact ⟨by rw [HR.out];rfl,HB3.out⟩
 case pos=>
 have e2:(fctE f (cntP b.blocks) b.regions.length != 0)=false:=by simp [hfe]
 have HOF:=aF (yH hfe);have HZ2:=aF (HZ.out hc hfe);have HOKF:Hid (okF b f↔∀l∈f.loans,canP b.locals.length l):=aF ⟨fun h=>h.2.2,fun h=>⟨hc,hfe,h⟩⟩;obtain ⟨R,hR⟩:∃R,pfR b f=R:=⟨_,rfl⟩;have HRE:=aF hR.symm;rw [hR];rw [hfe] at HE e2;clear hc hfe HZ hS hR;go_enter Tryz.func14,Tryz.ntmps14
 go_wp2_with fail
 have hS:W0.drew.heap[w.heap.size]?=some (.cells ((bdM b A1 c1 A2 c2 A3 c3 A4 c4 A5 c5 [])).toArray 28 (0,0))/\W0.drew.heap[w.heap.size+1]?=some (.cells ([Value.slice B0 f.loans.length d0,.slice B1 f.edges.length d1,.slice B2 f.killed.length d2,.slice B3 f.inval.length d3,.slice B4 f.live.length d4]).toArray 39 (0,0)):=⟨HN0.out,HN1.out⟩;refine cQ (S:=fun X=>X.heap[w.heap.size]?=some (.cells ((bdM b A1 c1 A2 c2 A3 c3 A4 c4 A5 c5 [])).toArray 28 (0,0))/\X.heap[w.heap.size+1]?=some (.cells ([Value.slice B0 f.loans.length d0,.slice B1 f.edges.length d1,.slice B2 f.killed.length d2,.slice B3 f.inval.length d3,.slice B4 f.live.length d4]).toArray 39 (0,0))) [0,1,2,3,4,5,7,8,9,6,10,11,12] (by kernel_rfl) ?_;((refine cR (v:=?_) ?_ hS ?_;rotate_left;(next=>(rintro X ⟨hX1,hZ1⟩;have hX:=cO hX1;obtain ⟨y0,y1,y2,y3,y4,y5,y6⟩:=aS hX;(try simp only [aI]);go_simp;rfl));simp only [aM]))
 (refine cM (fun K1 hK1=>?_);simp only [aM];rw [bA (by rfl)];go_simp);refine (HK.out _ HB0.out.drew).mono ?_;rintro e' w1 ⟨rfl,hw1⟩;replace hS:=bJ (cL hS.1 hw1) (cL hS.2 hw1);have HB1:=aF (HB0.out.drew.trans (hw1.mono HB0.out.drew.size));refine hK1.out _ _ (fun _=>hS) ?_;clear hK1 hw1;(iterate 2 (refine cR (v:=?_) ?_ hS ?_;rotate_left;(next=>(rintro X -;(try simp only [aI]);go_simp;rfl));simp only [aM]));(iterate 5 (refine cR (v:=?_) ?_ hS ?_;rotate_left;(next=>(rintro X ⟨hX1,hZ1⟩;have hX:=cO hX1;have hZ:=cO hZ1;obtain ⟨y0,y1,y2,y3,y4,y5,y6⟩:=aS hX;obtain ⟨z0,z1,z2,z3,z4⟩:=aQ hZ;(try simp only [aI]);go_simp;rfl));simp only [aM]));(refine cM (fun K1 hK1=>?_);simp only [aM];rw [bA (by rfl)];go_simp);refine (HCN.out _ HB1.out HCC.out).mono ?_;rintro e' w2 ⟨rfl,hw1⟩;replace hS:=bJ (cL hS.1 hw1) (cL hS.2 hw1);have HB2:=aF (HB1.out.trans (hw1.mono HB1.out.size));refine hK1.out _ _ (fun _=>hS) ?_;clear hK1 hw1;(refine cM (fun K1 hK1=>?_);simp only [aM];rw [bA (by rfl)];go_simp);refine (HE.out _ HB2.out).mono ?_;rintro e' w3 ⟨rfl,hw1⟩;replace hS:=bJ (cL hS.1 hw1) (cL hS.2 hw1);have HB3:=aF (HB2.out.trans (hw1.mono HB2.out.size));refine hK1.out _ _ (fun _=>hS) ?_;clear hK1 hw1;(iterate 2 (refine cR (v:=?_) ?_ hS ?_;rotate_left;(next=>(rintro X -;(try simp only [aI]);go_simp;rfl));simp only [aM]));refine cV ?_;have hX:=cO hS.1;have hZ:=cO hS.2;obtain ⟨y0,y1,y2,y3,y4,y5,y6⟩:=aS hX;have HT0:Hid (printF b f=headP wFacts b ++ sR1 b f 0):=aF (xT b f);have hzl:=eG HT0.out HZ2.out
 have hz1:¬(9223372036854775807<7+b.name.size):=by
  have:(headP wFacts b).length=b.name.size+10:=by simp [headP,wFacts]
  omega
 have hz1b:¬(9223372036854775807<7+b.name.size+3):=by
  have:(headP wFacts b).length=b.name.size+10:=by simp [headP,wFacts]
  omega
 have HB4:=HB3;have HSS:=aF hS;clear hzl hX hZ hS HB1 HB2;go_upto_region 3 with fail
 go_cut [6] (fun s wx=>s=tx (headP wFacts b)/\wx=w3)
 case first=>
  go_wp2_with fail
  go_meet;exact ⟨congrArg Value.string (ByteArray.ext (by simp [headP,wFacts,bl])),rfl⟩
 case rest=>
 obtain ⟨rfl,hwc⟩:=hcut;rw [hwc];clear hwc;have HX:=aF (cO HSS.out.1);have HZ1:=aF (cO HSS.out.2);have z0:=HZ1.out 0 _ rfl;clear y0 y1 y2 y3 y4 y5 y6 hz1 hz1b;have HHB:=aF (HB4.out);go_upto_block 0 with fail
 go_cut [6] (fun s wx=>∃bs,s=tx bs/\printF b f=bs ++ sR2 b f/\Below w.heap.size w wx/\(wx.heap[w.heap.size]?=some (.cells ((bdM b A1 c1 A2 c2 A3 c3 A4 c4 A5 c5 [])).toArray 28 (0,0))/\wx.heap[w.heap.size+1]?=some (.cells ([Value.slice B0 f.loans.length d0,.slice B1 f.edges.length d1,.slice B2 f.killed.length d2,.slice B3 f.inval.length d3,.slice B4 f.live.length d4]).toArray 39 (0,0)))/\∀l∈f.loans,canP b.locals.length l)
 case first=>
  have HT0':Hid (∀l∈f.loans.take 0,canP b.locals.length l):=aF (by simp);go_wp2_with fail
  go_loopw [6,7] (fun s i wr=>∃(k:Nat) (bs:List UInt8),i = .int .i64 k/\s=tx bs/\k<=f.loans.length/\Hid (printF b f=bs ++ sR1 b f k)/\Hid (Below w.heap.size w wr)/\Hid (wr.heap[w.heap.size]?=some (.cells ((bdM b A1 c1 A2 c2 A3 c3 A4 c4 A5 c5 [])).toArray 28 (0,0))/\wr.heap[w.heap.size+1]?=some (.cells ([Value.slice B0 f.loans.length d0,.slice B1 f.edges.length d1,.slice B2 f.killed.length d2,.slice B3 f.inval.length d3,.slice B4 f.live.length d4]).toArray 39 (0,0)))/\Hid (∀l∈f.loans.take k,canP b.locals.length l)) (fun _ i _=>f.loans.length - (intOf i).toNat)
  case atStart=>exact ⟨0,_,rfl,rfl,Nat.zero_le _,HT0,HHB,HSS,HT0'⟩
  case round=>
   clear HT0 HT0' HX HZ1 z0 HSS HHB HB4 HB3;obtain ⟨k,bs,rfl,rfl,hk,HT,HB,HSS,HCP⟩:=hrel;have z0:=cO HSS.out.2 0 _ rfl;by_cases hlt:k<f.loans.length
   case neg=>
    have HE:=aF (xL (b:=b) (f:=f) (k:=k) (by omega));have HCA:Hid (∀l∈f.loans,canP b.locals.length l):=aF (by have h:=HCP.out;rwa [List.take_of_length_le (by omega)] at h);go_wp2_with fail
    go_meet;exact ⟨bs,rfl,by rw [HT.out,HE.out],HB.out,HSS.out,HCA.out⟩
   case pos=>
   obtain ⟨bb,oo,rfl,hbb,hx⟩:=(HG.out.ln.keep RLn.keeps HB.out).sl.at_ hlt;have HTN:=aF (HT.out.trans (by rw [uR hlt]));have HO:=aF (HOF.out.ln _ (bN hlt));have HFP:=aF (HFF.out.pt _ (bN hlt));have HFJ:=aF (HFF.out.pj _ (bN hlt));have HBAD:Hid (¬canP b.locals.length f.loans[k]->R=([],16)):=aF (fun h=>HRE.out.trans (mU (fun ho=>h (HOKF.out.1 ho _ (bN hlt)))))
   have HCN2:Hid (canP b.locals.length f.loans[k]->∀l∈f.loans.take (k+1),canP b.locals.length l):=aF (fun h l hl=>by
    rw [bF hlt] at hl;rcases List.mem_append.1 hl with hl | hl
    ·exact HCP.out l hl
    ·rw [List.mem_singleton.1 hl];exact h)
   obtain ⟨x,hxe⟩:∃x,f.loans[k]=x:=⟨_,rfl⟩;rw [hxe] at HTN HO HFP HFJ HBAD HCN2 hx;obtain ⟨g0,g1,g2,g3,PA,pc,g4,p1,p2,p3⟩:=hx;have HSP:Hid (Slc 2 RPj wr PA pc x.place.proj):=aF ⟨p3,p1,p2⟩;obtain ⟨xr,xp,xm,xl,xj⟩:=x;simp only at g0 g1 g2 g3 g4 p1 HSP HFP HFJ;obtain ⟨WN,hWN⟩:∃W,wr.alloc (.cells ([Value.int .i64 xr,.int .i64 xp,.bool xm,.int .i64 xl,.slice PA xj.length pc]).toArray 95)=W:=⟨_,rfl⟩;have hbn:Below wr.heap.size wr WN:=by rw [<- hWN];exact (aX _ _).alloc (aY _) _
   have hnew:=cP wr [Value.int .i64 xr,.int .i64 xp,.bool xm,.int .i64 xl,.slice PA xj.length pc] 95;rw [hWN] at hnew;have HNW:=aF hnew;obtain ⟨n0,n1,n2,n3,n4⟩:=aQ hnew;have HSN:Hid (WN.heap[w.heap.size]?=some (.cells ((bdM b A1 c1 A2 c2 A3 c3 A4 c4 A5 c5 [])).toArray 28 (0,0))/\WN.heap[w.heap.size+1]?=some (.cells ([Value.slice (some ⟨bb,oo,none⟩) f.loans.length d0,.slice B1 f.edges.length d1,.slice B2 f.killed.length d2,.slice B3 f.inval.length d3,.slice B4 f.live.length d4]).toArray 39 (0,0))):=aF ⟨cL HSS.out.1 hbn,cL HSS.out.2 hbn⟩;have HBN:=aF (HB.out.trans (hbn.mono HB.out.size));have hX:=cO HSN.out.1;obtain ⟨y0,y1,y2,y3,y4,y5,y6⟩:=aS hX;have HSPN:=aF (HSP.out.keep RPj.keeps hbn);clear hxe p1 p3 hX hbn hnew HT HB HSP HSS;by_cases hloc:xl<b.locals.length
   case neg=>
    have HR:=aF (HBAD.out (fun h=>hloc h.1));clear HBAD HCN2 HOKF;go_wp2_with fail
    all_goals first
     | (exfalso;omega)
     | (go_ret2;exact ⟨by rw [HR.out];rfl,HBN.out⟩)
   case pos=>
   have hl0:¬(b.locals.length:Int)<=xl:=by omega
   have hjl:=HSPN.out.le;have hjb:=HSPN.out.big;go_upto_block 2 with fail
   go_cut [] (fun wx=>wx=WN/\∀x∈xj,x.field<65535)
   case first=>
    go_wp2_with fail
    go_loopw [9] (fun i wv=>∃j:Nat,i = .int .i64 j/\j<=xj.length/\wv=WN/\Hid (∀x∈xj.take j,x.field<65535)) (fun i _=>xj.length - (intOf i).toNat)
    case atStart=>exact ⟨0,rfl,Nat.zero_le _,rfl,aF (by simp)⟩
    case round=>
     obtain ⟨j,rfl,hj,rfl,HJ⟩:=hrel;by_cases hjlt:j<xj.length
     case neg=>
      have HA:Hid (∀x∈xj,x.field<65535):=aF (by have h:=HJ.out;rwa [List.take_of_length_le (by omega)] at h);go_wp2_with fail
      go_meet;exact ⟨rfl,HA.out⟩
     case pos=>
     obtain ⟨pb,po,rfl,hpb,hpx⟩:=HSPN.out.sl.at_ hjlt
     have HJ2:Hid (xj[j].field<65535->∀x∈xj.take (j+1),x.field<65535):=aF (fun h x hx=>by
      rw [bF hjlt] at hx;rcases List.mem_append.1 hx with hx | hx
      ·exact HJ.out x hx
      ·rw [List.mem_singleton.1 hx];exact h)
     have HR:Hid (¬xj[j].field<65535->R=([],16)):=aF (fun h=>HBAD.out (fun hc=>h (hc.2 _ (bN hjlt))));generalize xj[j]=y at *;obtain ⟨yk,yf⟩:=y;obtain ⟨v0,v1⟩:=hpx;simp only at v0 v1 HJ2 HR;by_cases hyf:yf<65535
     case neg=>
      have HR2:=aF (HR.out hyf);clear HR HJ2 HBAD HCN2 HOKF;go_wp2_with fail
      all_goals first
       | (exfalso;omega)
       | (go_ret2;exact ⟨by rw [HR2.out];rfl,HBN.out⟩)
     case pos=>
     have HJ3:=aF (HJ2.out hyf);clear HR HJ2;go_wp2_with fail
     all_goals first
      | (exfalso;omega)
      | (go_roundw
         case rel=>exact ⟨j+1,by go_num,by omega,trivial,HJ3⟩
         case measure=>simp [intOf];omega)
   case rest=>
   obtain ⟨hwc,hpf⟩:=hcut;rw [hwc];clear hwc;have HCP2:=aF (HCN2.out ⟨hloc,hpf⟩);obtain ⟨rk,hrk⟩:=bG HO.out.1.1;subst hrk;have hrl:rk<b.regions.length:=by have:=HO.out.1.2;simp only at this;omega
   obtain ⟨rb,ro,hA1,hrb,hrx⟩:=(HH.out.reg.keep RN.keeps HBN.out).sl.at_ hrl;simp only at hA1;have hrg:rgP b.regions (rk:Int)=bl b.regions[rk]:=by unfold rgP;rw [bW,bD hrl];rfl
   obtain ⟨rn,hrn⟩:∃n,bl b.regions[rk]=n:=⟨_,rfl⟩;have r0:WN.cell? ⟨rb,ro+rk,none⟩=some (.string ⟨rn.toArray⟩):=by have h:=hrx;unfold RN at h;rw [Nat.mul_one] at h;rw [h,<- hrn]
   rw [hrn] at hrg;obtain ⟨T1,hT1⟩:∃T,placeP b.locals ⟨xl,xj⟩=T:=⟨_,rfl⟩;obtain ⟨i1,hi1⟩:∃i,Lib.itoa xp=i:=⟨_,rfl⟩;have HTX:Hid (printF b f=((bs ++ 32 :: 32 :: 108 :: 111 :: 97 :: 110 :: 32 :: 39 :: (rn ++ [32])) ++ mutP xm ++ (T1 ++ 32 :: 97 :: 116 :: 32 :: (i1 ++ [59,10]))) ++ sR1 b f (k+1)):=aF (by rw [HTN.out,oH,lnP];simp only;rw [hrg,hT1,hi1,semP];simp);have hzl:=eG HTX.out HZ2.out;have hml:(mutP xm).length<=4:=by cases xm <;> simp [mutP]
   simp only [bB,bK,bP] at hzl;have hz2:¬(9223372036854775807<8+rn.length):=by omega
   have hz2b:¬(9223372036854775807<rn.length+1+1+1+1+1+1+1+1+1):=by omega
   have hz2c:¬(9223372036854775807<8+rn.length+1):=by omega
   have hz2d:¬(9223372036854775807<bs.length+(8+rn.length+1)):=by omega
   have hz3:bs.length+rn.length+T1.length+i1.length+300<=140737488355328:=by omega
   have HPLC:Hid (∀W,Below WN.heap.size WN W->Calls Tryz.prog 50 #[.agg ([Value.string b.name,.slice A1 b.regions.length c1,.slice A2 b.outl.length c2,.slice A3 b.types.length c3,.slice A4 b.locals.length c4,.int .i64 b.args,.slice A5 b.blocks.length c5]).toArray,.agg #[.int .i64 xl,.slice PA xj.length pc]] W fun e' w'=>e' = .returned (tx T1)/\Below W.heap.size W w'):=aF (fun W hb=>by
    rw [<- hT1]
    exact pE b ⟨A1,c1,A2,c2,A3,c3,A4,c4,A5,c5⟩ ⟨xl,xj⟩ PA pc W (HH.out.keep (HBN.out.trans (hb.mono HBN.out.size))) (HSPN.out.keep RPj.keeps hb) ⟨(jW HO.out.2.2.2).1,by simp only;omega⟩ HFJ.out (by rw [hT1];show T1.length<=_;omega))
   have HIX:Hid (∀W,Calls Tryz.prog 39 #[.int .i64 xp] W fun e' w'=>e' = .returned (tx i1)/\Below W.heap.size W w'):=aF (fun W=>by rw [<- hi1];exact uT xp HFP.out.1 HFP.out.2 W);have y1':=y1;rw [hA1] at y1';have hrk1:(rk:Int)<b.regions.length:=by omega
   clear hzl hT1 hi1 hrg hrn HTN HO HFP HFJ HBAD HCN2 HCP hpf hrx y1 hA1;go_upto_region 15 with fail
   go_cut [6] (fun s wx=>s=tx (bs ++ 32 :: 32 :: 108 :: 111 :: 97 :: 110 :: 32 :: 39 :: (rn ++ [32]))/\wx=WN)
   case first=>
    go_wp2_with fail
    go_meet;exact ⟨congrArg Value.string (ByteArray.ext (by simp)),rfl⟩
   case rest=>
   obtain ⟨rfl,hwc⟩:=hcut;rw [hwc];clear hwc;obtain ⟨S0,hS0⟩:∃S,bs ++ 32 :: 32 :: 108 :: 111 :: 97 :: 110 :: 32 :: 39 :: (rn ++ [32])=S:=⟨_,rfl⟩;have hS0l:S0.length=bs.length+rn.length+9:=by rw [<- hS0];simp only [bB,bK,bP];omega
   rw [hS0] at HTX ⊢;have hz4:¬(9223372036854775807<S0.length+4):=by omega
   clear hS0 hz2 hz2b hz2c hz2d y1';go_upto_if 74 with fail
   go_cut [6] (fun s wx=>s=tx (S0 ++ mutP xm)/\wx=WN)
   case first=>
    cases xm
    ·go_wp2_with fail
     go_meet;exact ⟨congrArg Value.string (ByteArray.ext (by simp [mutP])),rfl⟩
    ·go_wp2_with fail
     go_meet;exact ⟨congrArg Value.string (ByteArray.ext (by simp [mutP])),rfl⟩
   case rest=>
   obtain ⟨rfl,hwc⟩:=hcut;rw [hwc];clear hwc;have hS1l:(S0 ++ mutP xm).length<=bs.length+rn.length+13:=by rw [bB];omega
   obtain ⟨S1,hS1⟩:∃S,S0 ++ mutP xm=S:=⟨_,rfl⟩;rw [hS1] at HTX hS1l ⊢;clear hS1 hz4 hS0l hml;go_wp2_with fail
   have hS:WN.drew.heap[w.heap.size]?=some (.cells ((bdM b A1 c1 A2 c2 A3 c3 A4 c4 A5 c5 [])).toArray 28 (0,0))/\WN.drew.heap[w.heap.size+1]?=some (.cells ([Value.slice (some ⟨bb,oo,none⟩) f.loans.length d0,.slice B1 f.edges.length d1,.slice B2 f.killed.length d2,.slice B3 f.inval.length d3,.slice B4 f.live.length d4]).toArray 39 (0,0))/\(aA [Value.int .i64 (rk:Int),.int .i64 xp,.bool xm,.int .i64 xl,.slice PA xj.length pc] WN.drew wr.heap.size):=⟨HSN.out.1,HSN.out.2,HNW.out⟩;refine cQ (S:=fun X=>X.heap[w.heap.size]?=some (.cells ((bdM b A1 c1 A2 c2 A3 c3 A4 c4 A5 c5 [])).toArray 28 (0,0))/\X.heap[w.heap.size+1]?=some (.cells ([Value.slice (some ⟨bb,oo,none⟩) f.loans.length d0,.slice B1 f.edges.length d1,.slice B2 f.killed.length d2,.slice B3 f.inval.length d3,.slice B4 f.live.length d4]).toArray 39 (0,0))/\(aA [Value.int .i64 (rk:Int),.int .i64 xp,.bool xm,.int .i64 xl,.slice PA xj.length pc] X wr.heap.size)) [0,1,2,3,6,7,4,5,8,9,10,11,12] (by kernel_rfl) ?_;(iterate 6 (refine dS (v:=?_) (by kernel_rfl) (fun _ _ _ h=>h) (Or.inl ⟨by rfl,?_⟩) hS ?_;rotate_left;(next=>(rintro X ⟨hX1,_,hE⟩;have hX:=cO hX1;obtain ⟨y0,y1,y2,y3,y4,y5,y6⟩:=aS hX;have e0:=hE 0 _ rfl;have e1:=hE 1 _ rfl;have e2:=hE 2 _ rfl;have e3:=hE 3 _ rfl;have e4:=hE 4 _ rfl;(try simp only [aI]);go_simp;rfl));simp only [aM]));(refine cM (fun K1 hK1=>?_);simp only [aM];rw [bA (by rfl)];go_simp);refine (HPLC.out _ (aX _ _).drew).mono ?_;rintro e' w3a ⟨rfl,hw⟩;replace hS:=bJ (cL hS.1 hw) (bJ (cL hS.2.1 hw) (fun i v h=>cJ hw (hS.2.2 i v h)));have HBw3a:=aF (HBN.out.drew.trans (hw.mono HBN.out.drew.size));refine hK1.out _ _ (fun _=>hS) ?_;clear hK1 hw;refine dS (v:=tx (T1 ++ [32,97,116,32])) (by kernel_rfl) (fun _ _ _ h=>h) (Or.inl ⟨by rfl,?_⟩) hS ?_
   ·rintro X hX;(try simp only [aI]);go_simp;first
    | exact (ba_app' _ _).trans (by simp [bl])
    | (rw [aZ (by omega)];refine congrArg (fun s=>Result.ok (Next.value (Value.string s)) X) ((ba_app' _ _).trans (by simp [bl])))
   (simp only [aM]);(refine cM (fun K1 hK1=>?_);simp only [aM];rw [bA (by rfl)];go_simp);refine (HIX.out _).mono ?_;rintro e' w4a ⟨rfl,hw⟩;replace hS:=bJ (cL hS.1 hw) (bJ (cL hS.2.1 hw) (fun i v h=>cJ hw (hS.2.2 i v h)));have HBw4a:=aF (HBw3a.out.trans (hw.mono HBw3a.out.size));refine hK1.out _ _ (fun _=>hS) ?_;clear hK1 hw;refine dS (v:=tx (T1 ++ 32 :: 97 :: 116 :: 32 :: i1)) (by kernel_rfl) (fun _ _ _ h=>h) (Or.inl ⟨by rfl,?_⟩) hS ?_
   ·rintro X hX;(try simp only [aI]);go_simp;first
    | exact (ba_app' _ _).trans (by simp [bl])
    | (rw [aZ (by omega)];refine congrArg (fun s=>Result.ok (Next.value (Value.string s)) X) ((ba_app' _ _).trans (by simp [bl])))
   (simp only [aM]);refine dS (v:=tx (T1 ++ 32 :: 97 :: 116 :: 32 :: (i1 ++ [59,10]))) (by kernel_rfl) (fun _ _ _ h=>h) (Or.inl ⟨by rfl,?_⟩) hS ?_
   ·rintro X hX;(try simp only [aI]);go_simp;first
    | exact (ba_app' _ _).trans (by simp [bl])
    | (rw [aZ (by omega)];refine congrArg (fun s=>Result.ok (Next.value (Value.string s)) X) ((ba_app' _ _).trans (by simp [bl])))
   (simp only [aM]);refine dS (v:=tx (S1 ++ (T1 ++ 32 :: 97 :: 116 :: 32 :: (i1 ++ [59,10])))) (by kernel_rfl) (fun _ _ _ h=>h) (Or.inl ⟨by rfl,?_⟩) hS ?_
   ·rintro X hX;(try simp only [aI]);go_simp;first
    | exact (ba_app' _ _).trans (by simp [bl])
    | (rw [aZ (by omega)];refine congrArg (fun s=>Result.ok (Next.value (Value.string s)) X) ((ba_app' _ _).trans (by simp [bl])))
   (simp only [aM]);((refine dS (v:=?_) (by kernel_rfl) (fun _ _ _ h=>h) (Or.inl ⟨by rfl,?_⟩) hS ?_;rotate_left;(next=>(rintro X -;(try simp only [aI]);go_simp;rfl));simp only [aM]))
   refine cV ?_;have HSF:=aF (bJ hS.1 hS.2.1);clear hS;go_wp2_with fail
   go_roundw
   case rel=>exact ⟨k+1,_,by go_num,rfl,by omega,HTX,HBw4a,HSF,HCP2⟩
   case measure=>simp [intOf];omega
 case rest=>
 obtain ⟨bs,rfl,hT1,hB1,hS1,hcan⟩:=hcut;have HT:=aF hT1;have HB:=aF hB1;have HS:=aF hS1;have HR:=aF (HRE.out.trans (wO (HOKF.out.2 hcan)));clear hT1 hB1 hS1 hcan HT0 HOKF z0 HX HZ1 HSS HHB HB4 HB3;obtain ⟨E,hE⟩:∃E,f.edges.flatMap (prLine wEdge)=E:=⟨_,rfl⟩;obtain ⟨K,hK⟩:∃E,f.killed.flatMap (prLine wKill)=E:=⟨_,rfl⟩;obtain ⟨V,hV⟩:∃E,f.inval.flatMap (prLine wInv)=E:=⟨_,rfl⟩;have HTX:Hid (printF b f=(bs ++ (E ++ (K ++ V))) ++ sR5 b f 0):=aF (by rw [HT.out];unfold sR2 sR3 sR4;rw [hE,hK,hV];simp only [bM]);have hzl:=eG HTX.out HZ2.out;simp only [bB] at hzl
 have HPE:Hid (∀W,Below w.heap.size w W->Calls Tryz.prog 51 #[tx wEdge,.slice B1 f.edges.length d1] W fun e' w'=>e' = .returned (tx E)/\Below W.heap.size W w'):=aF (fun W hb=>by
  rw [<- hE]
  exact xAO wEdge (by decide) f.edges B1 d1 W (HG.out.ed.keep RPr.keeps hb) HFF.out.ed (by rw [hE];omega))
 have HPK:Hid (∀W,Below w.heap.size w W->Calls Tryz.prog 51 #[tx wKill,.slice B2 f.killed.length d2] W fun e' w'=>e' = .returned (tx K)/\Below W.heap.size W w'):=aF (fun W hb=>by
  rw [<- hK]
  exact xAO wKill (by decide) f.killed B2 d2 W (HG.out.ki.keep RPr.keeps hb) HFF.out.ki (by rw [hK];omega))
 have HPV:Hid (∀W,Below w.heap.size w W->Calls Tryz.prog 51 #[tx wInv,.slice B3 f.inval.length d3] W fun e' w'=>e' = .returned (tx V)/\Below W.heap.size W w'):=aF (fun W hb=>by
  rw [<- hV]
  exact xAO wInv (by decide) f.inval B3 d3 W (HG.out.iv.keep RPr.keeps hb) HFF.out.iv (by rw [hV];omega))
 clear hE hK hV HT;go_wp2_with fail
 have hS:wc.drew.heap[w.heap.size]?=some (.cells ((bdM b A1 c1 A2 c2 A3 c3 A4 c4 A5 c5 [])).toArray 28 (0,0))/\wc.drew.heap[w.heap.size+1]?=some (.cells ([Value.slice B0 f.loans.length d0,.slice B1 f.edges.length d1,.slice B2 f.killed.length d2,.slice B3 f.inval.length d3,.slice B4 f.live.length d4]).toArray 39 (0,0)):=HS.out;refine cQ (S:=fun X=>X.heap[w.heap.size]?=some (.cells ((bdM b A1 c1 A2 c2 A3 c3 A4 c4 A5 c5 [])).toArray 28 (0,0))/\X.heap[w.heap.size+1]?=some (.cells ([Value.slice B0 f.loans.length d0,.slice B1 f.edges.length d1,.slice B2 f.killed.length d2,.slice B3 f.inval.length d3,.slice B4 f.live.length d4]).toArray 39 (0,0))) [0,1,2,4,5,8,9,3,6,7,10,11,12,13] (by kernel_rfl) ?_;(iterate 7 (refine dS (v:=?_) (by kernel_rfl) (fun _ _ _ h=>h) (Or.inl ⟨by rfl,?_⟩) hS ?_;rotate_left;(next=>(rintro X ⟨_,hZ1⟩;have hZ:=cO hZ1;obtain ⟨z0,z1,z2,z3,z4⟩:=aQ hZ;(try simp only [aI]);go_simp;rfl));simp only [aM]));(refine cM (fun K1 hK1=>?_);simp only [aM];rw [bA (by rfl)];go_simp);refine (HPE.out _ HB.out.drew).mono ?_;rintro e' w3b ⟨rfl,hw⟩;replace hS:=bJ (cL hS.1 hw) (cL hS.2 hw);have HBw3b:=aF (HB.out.drew.trans (hw.mono HB.out.drew.size));refine hK1.out _ _ (fun _=>hS) ?_;clear hK1 hw;(refine cM (fun K1 hK1=>?_);simp only [aM];rw [bA (by rfl)];go_simp);refine (HPK.out _ HBw3b.out).mono ?_;rintro e' w4b ⟨rfl,hw⟩;replace hS:=bJ (cL hS.1 hw) (cL hS.2 hw);have HBw4b:=aF (HBw3b.out.trans (hw.mono HBw3b.out.size));refine hK1.out _ _ (fun _=>hS) ?_;clear hK1 hw;refine dS (v:=tx (E ++ K)) (by kernel_rfl) (fun _ _ _ h=>h) (Or.inl ⟨by rfl,?_⟩) hS ?_
 ·rintro X hX;(try simp only [aI]);go_simp;first
  | exact (ba_app' _ _).trans (by simp [bl])
  | (rw [aZ (by omega)];refine congrArg (fun s=>Result.ok (Next.value (Value.string s)) X) ((ba_app' _ _).trans (by simp [bl])))
 (simp only [aM]);(refine cM (fun K1 hK1=>?_);simp only [aM];rw [bA (by rfl)];go_simp);refine (HPV.out _ HBw4b.out).mono ?_;rintro e' w5b ⟨rfl,hw⟩;replace hS:=bJ (cL hS.1 hw) (cL hS.2 hw);have HBw5b:=aF (HBw4b.out.trans (hw.mono HBw4b.out.size));refine hK1.out _ _ (fun _=>hS) ?_;clear hK1 hw;refine dS (v:=tx (E ++ (K ++ V))) (by kernel_rfl) (fun _ _ _ h=>h) (Or.inl ⟨by rfl,?_⟩) hS ?_
 ·rintro X hX;(try simp only [aI]);go_simp;first
  | exact (ba_app' _ _).trans (by simp [bl])
  | (rw [aZ (by omega)];refine congrArg (fun s=>Result.ok (Next.value (Value.string s)) X) ((ba_app' _ _).trans (by simp [bl])))
 (simp only [aM]);refine dS (v:=tx (bs ++ (E ++ (K ++ V)))) (by kernel_rfl) (fun _ _ _ h=>h) (Or.inl ⟨by rfl,?_⟩) hS ?_
 ·rintro X hX;(try simp only [aI]);go_simp;first
  | exact (ba_app' _ _).trans (by simp [bl])
  | (rw [aZ (by omega)];refine congrArg (fun s=>Result.ok (Next.value (Value.string s)) X) ((ba_app' _ _).trans (by simp [bl])))
 (simp only [aM]);((refine dS (v:=?_) (by kernel_rfl) (fun _ _ _ h=>h) (Or.inl ⟨by rfl,?_⟩) hS ?_;rotate_left;(next=>(rintro X -;(try simp only [aI]);go_simp;rfl));simp only [aM]))
 refine cV ?_;have HSF:=aF hS;clear hS HPE HPK HPV HB HS;obtain ⟨bs3,hbs3⟩:∃B,bs ++ (E ++ (K ++ V))=B:=⟨_,rfl⟩;rw [hbs3] at HTX ⊢;clear hbs3 hzl;go_upto_block 4 with fail
 go_cut [6] (fun s wx=>∃bs,s=tx bs/\printF b f=bs ++ [125,10]/\Below w.heap.size w wx/\(wx.heap[w.heap.size]?=some (.cells ((bdM b A1 c1 A2 c2 A3 c3 A4 c4 A5 c5 [])).toArray 28 (0,0))/\wx.heap[w.heap.size+1]?=some (.cells ([Value.slice B0 f.loans.length d0,.slice B1 f.edges.length d1,.slice B2 f.killed.length d2,.slice B3 f.inval.length d3,.slice B4 f.live.length d4]).toArray 39 (0,0))))
 case first=>
  go_wp2_with fail
  go_loopw [6,10] (fun s i wr=>∃(k:Nat) (bs:List UInt8),i = .int .i64 k/\s=tx bs/\k<=f.live.length/\Hid (printF b f=bs ++ sR5 b f k)/\Hid (Below w.heap.size w wr)/\Hid (wr.heap[w.heap.size]?=some (.cells ((bdM b A1 c1 A2 c2 A3 c3 A4 c4 A5 c5 [])).toArray 28 (0,0))/\wr.heap[w.heap.size+1]?=some (.cells ([Value.slice B0 f.loans.length d0,.slice B1 f.edges.length d1,.slice B2 f.killed.length d2,.slice B3 f.inval.length d3,.slice B4 f.live.length d4]).toArray 39 (0,0)))) (fun _ i _=>f.live.length - (intOf i).toNat)
  case atStart=>exact ⟨0,_,rfl,rfl,Nat.zero_le _,HTX,HBw5b,HSF⟩
  case round=>
   clear HTX HBw5b HSF HBw3b HBw4b;obtain ⟨k,bs,rfl,rfl,hk,HT,HB,HSS⟩:=hrel;have z4:=cO HSS.out.2 4 _ rfl;by_cases hlt:k<f.live.length
   case neg=>
    have HE:=aF (xK (b:=b) (f:=f) (k:=k) (by omega));go_wp2_with fail
    go_meet;exact ⟨bs,rfl,by rw [HT.out,HE.out],HB.out,HSS.out⟩
   case pos=>
   obtain ⟨bb,oo,rfl,hbb,hx⟩:=(HG.out.li.keep RPr.keeps HB.out).sl.at_ hlt;have HTN:=aF (HT.out.trans (by rw [uQ hlt]));have HO:=aF (HOF.out.li _ (bN hlt));have HFL:=aF (HFF.out.li _ (bN hlt));generalize f.live[k]=x at *;obtain ⟨x1,x2⟩:=x;obtain ⟨g0,g1⟩:=hx;simp only at g0 g1 HO HFL;obtain ⟨rk,hrk⟩:=bG HO.out.1;subst hrk;have hrl:rk<b.regions.length:=by have:=HO.out.2.1;omega
   obtain ⟨rb,ro,hA1,hrb,hrx⟩:=(HH.out.reg.keep RN.keeps HB.out).sl.at_ hrl;simp only at hA1;have hrg:rgP b.regions (rk:Int)=bl b.regions[rk]:=by unfold rgP;rw [bW,bD hrl];rfl
   obtain ⟨rn,hrn⟩:∃n,bl b.regions[rk]=n:=⟨_,rfl⟩;have r0:wr.cell? ⟨rb,ro+rk,none⟩=some (.string ⟨rn.toArray⟩):=by have h:=hrx;unfold RN at h;rw [Nat.mul_one] at h;rw [h,<- hrn]
   rw [hrn] at hrg;obtain ⟨i1,hi1⟩:∃i,Lib.itoa x2=i:=⟨_,rfl⟩;have HTX:Hid (printF b f=(bs ++ (32 :: 32 :: 108 :: 105 :: 118 :: 101 :: 32 :: 39 :: (rn ++ 32 :: (i1 ++ [59,10])))) ++ sR5 b f (k+1)):=aF (by rw [HTN.out,oE,lvP];simp only;rw [hrg,hi1,semP];simp);have hzl:=eG HTX.out HZ2.out;simp only [bB,bK,bP] at hzl;have hz3:bs.length+rn.length+i1.length+300<=140737488355328:=by omega
   have HIX:Hid (∀W,Calls Tryz.prog 39 #[.int .i64 x2] W fun e' w'=>e' = .returned (tx i1)/\Below W.heap.size W w'):=aF (fun W=>by rw [<- hi1];exact uT x2 HFL.out.2.1 HFL.out.2.2 W);have HA1:=aF hA1;have hrk1:(rk:Int)<b.regions.length:=by omega
   clear hzl hi1 hrg hrn HTN HO HFL HT hrx hA1;go_wp2_with fail
   have hS:(wr.drew.heap[w.heap.size]?=some (.cells ((bdM b A1 c1 A2 c2 A3 c3 A4 c4 A5 c5 [])).toArray 28 (0,0))/\wr.drew.heap[w.heap.size+1]?=some (.cells ([Value.slice B0 f.loans.length d0,.slice B1 f.edges.length d1,.slice B2 f.killed.length d2,.slice B3 f.inval.length d3,.slice (some ⟨bb,oo,none⟩) f.live.length d4]).toArray 39 (0,0)))/\wr.drew.cell? ⟨rb,ro+rk,none⟩=some (.string ⟨rn.toArray⟩)/\wr.drew.cell? ⟨bb,oo+k * 2,none⟩=some (.int .i64 (rk:Int))/\wr.drew.cell? ⟨bb,oo+k * 2+1,none⟩=some (.int .i64 x2):=⟨HSS.out,r0,g0,g1⟩;clear z4 r0 g0 g1;refine cQ (S:=fun X=>(X.heap[w.heap.size]?=some (.cells ((bdM b A1 c1 A2 c2 A3 c3 A4 c4 A5 c5 [])).toArray 28 (0,0))/\X.heap[w.heap.size+1]?=some (.cells ([Value.slice B0 f.loans.length d0,.slice B1 f.edges.length d1,.slice B2 f.killed.length d2,.slice B3 f.inval.length d3,.slice (some ⟨bb,oo,none⟩) f.live.length d4]).toArray 39 (0,0)))/\X.cell? ⟨rb,ro+rk,none⟩=some (.string ⟨rn.toArray⟩)/\X.cell? ⟨bb,oo+k * 2,none⟩=some (.int .i64 (rk:Int))/\X.cell? ⟨bb,oo+k * 2+1,none⟩=some (.int .i64 x2)) [0,1,2,3,4,5,6,7,8,9,10,11,12,13,14,15,16,17,18,19,20,21,22,23] (by kernel_rfl) ?_;(iterate 11 (refine dS (v:=?_) (by kernel_rfl) (fun _ _ _ h=>h) (Or.inl ⟨by rfl,?_⟩) hS ?_;rotate_left;(next=>(rintro X ⟨⟨hX1,hZ1⟩,s1,s2,s3⟩;have y1:=cO hX1 1 _ rfl;rw [HA1.out] at y1;have z4:=cO hZ1 4 _ rfl;(try simp only [aI]);go_simp;rfl));simp only [aM]));refine dS (v:=tx (32 :: 32 :: 108 :: 105 :: 118 :: 101 :: 32 :: 39 :: rn)) (by kernel_rfl) (fun _ _ _ h=>h) (Or.inl ⟨by rfl,?_⟩) hS ?_
   ·rintro X hX;(try simp only [aI]);go_simp;first
    | exact (ba_app' _ _).trans (by simp [bl])
    | (rw [aZ (by omega)];refine congrArg (fun s=>Result.ok (Next.value (Value.string s)) X) ((ba_app' _ _).trans (by simp [bl])))
   (simp only [aM]);refine dS (v:=tx (32 :: 32 :: 108 :: 105 :: 118 :: 101 :: 32 :: 39 :: (rn ++ [32]))) (by kernel_rfl) (fun _ _ _ h=>h) (Or.inl ⟨by rfl,?_⟩) hS ?_
   ·rintro X hX;(try simp only [aI]);go_simp;first
    | exact (ba_app' _ _).trans (by simp [bl])
    | (rw [aZ (by omega)];refine congrArg (fun s=>Result.ok (Next.value (Value.string s)) X) ((ba_app' _ _).trans (by simp [bl])))
   (simp only [aM]);(iterate 6 (refine dS (v:=?_) (by kernel_rfl) (fun _ _ _ h=>h) (Or.inl ⟨by rfl,?_⟩) hS ?_;rotate_left;(next=>(rintro X ⟨⟨hX1,hZ1⟩,s1,s2,s3⟩;have z4:=cO hZ1 4 _ rfl;(try simp only [aI]);go_simp;rfl));simp only [aM]));(refine cM (fun K1 hK1=>?_);simp only [aM];rw [bA (by rfl)];go_simp);refine (HIX.out _).mono ?_;rintro e' w4 ⟨rfl,hw⟩;replace hS:=bJ (bJ (cL hS.1.1 hw) (cL hS.1.2 hw)) (bJ (cJ hw hS.2.1) (bJ (cJ hw hS.2.2.1) (cJ hw hS.2.2.2)));have HBw4:=aF (HB.out.drew.trans (hw.mono HB.out.drew.size));refine hK1.out _ _ (fun _=>hS) ?_;clear hK1 hw;refine dS (v:=tx (32 :: 32 :: 108 :: 105 :: 118 :: 101 :: 32 :: 39 :: (rn ++ 32 :: i1))) (by kernel_rfl) (fun _ _ _ h=>h) (Or.inl ⟨by rfl,?_⟩) hS ?_
   ·rintro X hX;(try simp only [aI]);go_simp;first
    | exact (ba_app' _ _).trans (by simp [bl])
    | (rw [aZ (by omega)];refine congrArg (fun s=>Result.ok (Next.value (Value.string s)) X) ((ba_app' _ _).trans (by simp [bl])))
   (simp only [aM]);refine dS (v:=tx (32 :: 32 :: 108 :: 105 :: 118 :: 101 :: 32 :: 39 :: (rn ++ 32 :: (i1 ++ [59,10])))) (by kernel_rfl) (fun _ _ _ h=>h) (Or.inl ⟨by rfl,?_⟩) hS ?_
   ·rintro X hX;(try simp only [aI]);go_simp;first
    | exact (ba_app' _ _).trans (by simp [bl])
    | (rw [aZ (by omega)];refine congrArg (fun s=>Result.ok (Next.value (Value.string s)) X) ((ba_app' _ _).trans (by simp [bl])))
   (simp only [aM]);refine dS (v:=tx (bs ++ (32 :: 32 :: 108 :: 105 :: 118 :: 101 :: 32 :: 39 :: (rn ++ 32 :: (i1 ++ [59,10]))))) (by kernel_rfl) (fun _ _ _ h=>h) (Or.inl ⟨by rfl,?_⟩) hS ?_
   ·rintro X hX;(try simp only [aI]);go_simp;first
    | exact (ba_app' _ _).trans (by simp [bl])
    | (rw [aZ (by omega)];refine congrArg (fun s=>Result.ok (Next.value (Value.string s)) X) ((ba_app' _ _).trans (by simp [bl])))
   (simp only [aM]);((refine dS (v:=?_) (by kernel_rfl) (fun _ _ _ h=>h) (Or.inl ⟨by rfl,?_⟩) hS ?_;rotate_left;(next=>(rintro X -;(try simp only [aI]);go_simp;rfl));simp only [aM]))
   refine cV ?_;have HSF:=aF hS.1;clear hS;go_wp2_with fail
   go_roundw
   case rel=>exact ⟨k+1,_,by go_num,rfl,by omega,HTX,HBw4,HSF⟩
   case measure=>simp [intOf];omega
 case rest=>
 obtain ⟨bs7,rfl,hT1,hB1,_⟩:=hcut;have HT:=aF hT1;have HB:=aF hB1;have hzl:=eG hT1 HZ2.out;have hzz:¬(9223372036854775807<bs7.length+2):=by omega
 have ea:=fH bs7 [125,10];clear hT1 hB1 hzl;go_wp2_with fail
 go_ret2
 exact ⟨by rw [HR.out,HT.out];first | rfl | (refine congrArg (fun s=>Ending.returned (Value.tuple #[Value.string s,.int .i64 0])) (ByteArray.ext ?_);simp),HB.out⟩
end
section
open Go Go.RowKit
attribute [local irreducible] Calls
theorem xBW (f:Fct) (fh:FH) (w:World) (H:FcAt w f fh):
 Calls Tryz.prog 12 #[.agg (fcC f fh).toArray] w fun e' w'=>(∃q:Int,e' = .returned (.int .i64 q))/\Below w.heap.size w w':=by
 obtain ⟨B0,d0,B1,d1,B2,d2,B3,d3,B4,d4⟩:=fh;have HL:=aF H.ln;have l0:=H.ln.le;have m0:=H.ln.big;simp only at l0 m0 HL;obtain ⟨W0,hW0⟩:∃W,w.alloc (.cells ([Value.slice B0 f.loans.length d0,.slice B1 f.edges.length d1,.slice B2 f.killed.length d2,.slice B3 f.inval.length d3,.slice B4 f.live.length d4]).toArray 39)=W:=⟨_,rfl⟩;have hb0:Below w.heap.size w W0:=by rw [<- hW0];exact (aX _ _).alloc (aY _) _
 have HB0:=aF hb0;have hcx:=cP w [Value.slice B0 f.loans.length d0,.slice B1 f.edges.length d1,.slice B2 f.killed.length d2,.slice B3 f.inval.length d3,.slice B4 f.live.length d4] 39;rw [hW0] at hcx;have x0:=hcx 0 _ rfl;have x1:=hcx 1 _ rfl;have x2:=hcx 2 _ rfl;have x3:=hcx 3 _ rfl;have x4:=hcx 4 _ rfl;clear hcx hb0 H;unfold fcC;simp only;go_enter Tryz.func12,Tryz.ntmps12
 go_upto_region 1 with fail
 go_cut [3] (fun m wx=>(∃z:Int,m = .int .i64 z)/\wx=W0)
 case first=>
  go_wp2_with fail
  go_meet;exact ⟨⟨_,rfl⟩,rfl⟩
 case rest=>
 obtain ⟨⟨z0,rfl⟩,hwc⟩:=hcut;rw [hwc];clear hwc x1 x2 x3 x4;by_cases hz1:2000<z0
 case pos=>
  go_wp2_with fail
  go_ret;exact ⟨⟨_,rfl⟩,HB0.out⟩
 case neg=>
 by_cases hz2:(200:Int)<f.loans.length
 case pos=>
  go_wp2_with fail
  go_ret;exact ⟨⟨_,rfl⟩,HB0.out⟩
 case neg=>
 go_wp2_with fail
 go_loopw [3,32] (fun m i wr=>∃(k:Nat) (z:Int),k<=f.loans.length/\m = .int .i64 z/\i = .int .i64 k/\Hid (Below w.heap.size w wr)) (fun _ i _=>f.loans.length - (intOf i).toNat)
 case atStart=>exact ⟨0,_,by omega,rfl,rfl,HB0⟩
 case round=>
  obtain ⟨k,z,hk,rfl,rfl,HB⟩:=hrel;by_cases hlt:k<f.loans.length
  ·obtain ⟨bb,oo,rfl,hbb,hx⟩:=(HL.out.keep RLn.keeps HB.out).sl.at_ hlt;generalize f.loans[k]=x at *;obtain ⟨g0,g1,g2,g3,PA,pc,g4,p1,p2,p3⟩:=hx;obtain ⟨xr,xp,xm,xl,xj⟩:=x;simp only at g0 g1 g2 g3 g4;have hsz:=HB.out.size;clear p3 x0;go_wp2_with fail
   all_goals first
    | (go_ret;exact ⟨⟨_,rfl⟩,HB.out.alloc (by omega) _⟩)
    | (go_roundw
       case rel=>exact ⟨k+1,_,by omega,rfl,by go_num,aF (HB.out.alloc (by omega) _)⟩
       case measure=>simp [intOf];omega)
  ·go_wp2_with fail
   all_goals first
    | (exfalso;omega)
    | (go_ret;exact ⟨⟨_,rfl⟩,HB.out⟩)
theorem xBO {b:Bdy} {f:Fct} (hc:chkB b=0) (hz:fctE f (cntP b.blocks) b.regions.length=0) (hf:FitF f):(printF b f).length<=100000000000000:=by
 have O:=wS hc;have hr:=O.rs.all;have hl:=O.ls.all;have e0:=xFQ O.name;have K:=yH hz
 have hb:¬fcBig f:=fun h=>by
  unfold fctE at hz;rw [bA h] at hz;cases hz
 unfold fcBig at hb
 have pr:∀(wd:List UInt8) (l:List (Int × Int)),wd.length<=10->(∀x∈l,fitN x.1/\fitN x.2)->(l.flatMap (prLine wd)).length<=100 * l.length:=fun wd l hw hx=>lU (fun x hm=>by
  have h1:=wT (hx x hm).1;have h2:=wT (hx x hm).2;unfold prLine prP semP
  simp only [bB,bK,bP];omega)
 have e1:=lU (f:=oH b.locals b.regions) (k:=2000) (l:=f.loans) (fun x hx=>by
  have h1:=xGJ hr x.reg;have h2:=xHH hl (p:=x.place) (jW (K.ln x hx).2.2.2).2 (hf.pj x hx);have h3:=wT (hf.pt x hx);have h4:(mutP x.mu).length<=4:=by cases x.mu <;> simp [mutP]
  unfold oH lnP semP
  simp only [bB,bK,bP];omega)
 have e2:=pr wEdge f.edges (by decide) hf.ed;have e3:=pr wKill f.killed (by decide) hf.ki;have e4:=pr wInv f.inval (by decide) hf.iv
 have e5:=lU (f:=oE b.regions) (k:=400) (l:=f.live) (fun x hx=>by
  have h1:=xGJ hr x.1;have h2:=wT (hf.li x hx).2;unfold oE lvP semP
  simp only [bB,bK,bP];omega)
 have e6:wFacts.length=5:=rfl;unfold printF headP;simp only [bB,bK,bP];omega
end
section
open Go Go.RowKit
attribute [local irreducible] Calls
theorem xFN (b:Bdy) (bh:BH) (f:Fct) (fh:FH) (w:World) (hT:TabsOk w) (hpow:PowTab w) (hsp:SpTab w) (H:BdAt w b bh) (hz:NmOk b) (HF:FcAt w f fh) (hff:FitF f):
 Calls Tryz.prog 4 #[.agg (bdC b bh).toArray,.agg (fcC f fh).toArray] w fun e' w'=>e' = .returned (.bool true)/\Below w.heap.size w w':=by
 have HAL:=aF (fun (W:World) (hb:Below w.heap.size w W)=>nJ W (hT.keep hb) (hpow.keep hb) (hsp.keep hb));have HSK:=aF (fun (W:World) (hb:Below w.heap.size w W)=>xFX b bh W (H.keep hb) hz);have HTL:=aF (fun (W:World) (hb:Below w.heap.size w W)=>xBW f fh W (HF.keep hb));have HPR:=aF (fun (W:World) (hb:Below w.heap.size w W)=>pK b bh f fh W (H.keep hb) (HF.keep hb) (hT.keep hb) (hpow.keep hb) (hsp.keep hb) hff (fun hc he=>xBO hc he hff));have HRR:=aF (fun (W:World) (hb:Below w.heap.size w W)=>xCO b bh f fh W (H.keep hb) (HF.keep hb) hz hff (fun hc he=>xBO hc he hff));obtain ⟨A1,c1,A2,c2,A3,c3,A4,c4,A5,c5⟩:=bh;obtain ⟨B0,d0,B1,d1,B2,d2,B3,d3,B4,d4⟩:=fh;generalize pfR b f=R at *;obtain ⟨R1,R2⟩:=R;unfold bdC fcC at *;simp only at *;obtain ⟨Wa,hWa⟩:∃W,w.alloc (.cells ([Value.string b.name,.slice A1 b.regions.length c1,.slice A2 b.outl.length c2,.slice A3 b.types.length c3,.slice A4 b.locals.length c4,.int .i64 b.args,.slice A5 b.blocks.length c5]).toArray 28)=W:=⟨_,rfl⟩;obtain ⟨W0,hW0⟩:∃W,Wa.alloc (.cells ([Value.slice B0 f.loans.length d0,.slice B1 f.edges.length d1,.slice B2 f.killed.length d2,.slice B3 f.inval.length d3,.slice B4 f.live.length d4]).toArray 39)=W:=⟨_,rfl⟩;have hba:Below w.heap.size w Wa:=by rw [<- hWa];exact (aX _ _).alloc (aY _) _
 have hbb:Below Wa.heap.size Wa W0:=by rw [<- hW0];exact (aX _ _).alloc (aY _) _
 have hsa:Wa.heap.size=w.heap.size+1:=by rw [<- hWa];simp
 have HB0:=aF (hba.trans (hbb.mono hba.size));have hcx:=cP w [Value.string b.name,.slice A1 b.regions.length c1,.slice A2 b.outl.length c2,.slice A3 b.types.length c3,.slice A4 b.locals.length c4,.int .i64 b.args,.slice A5 b.blocks.length c5] 28;rw [hWa] at hcx;have hcf:=cP Wa [Value.slice B0 f.loans.length d0,.slice B1 f.edges.length d1,.slice B2 f.killed.length d2,.slice B3 f.inval.length d3,.slice B4 f.live.length d4] 39;rw [hW0,hsa] at hcf;have HX:=aF (fun (W:World) (hb:Below W0.heap.size W0 W) i v h=>cJ hb (cJ hbb (hcx i v h)));have HZ:=aF (fun (W:World) (hb:Below W0.heap.size W0 W) i v h=>cJ hb (hcf i v h));have hX:=HX.out W0 (aX _ _);have hZ:=HZ.out W0 (aX _ _);obtain ⟨y0,y1,y2,y3,y4,y5,y6⟩:=aS hX;obtain ⟨z0,z1,z2,z3,z4⟩:=aQ hZ;clear hX hZ hcx hcf hba hbb hT hpow hsp H hz hff HF;go_enter Tryz.func4,Tryz.ntmps4
 go_wp2_with fail
 go_at_call 8
 refine (HSK.out W0 HB0.out).mono ?_;rintro e' w1 ⟨⟨q,rfl,hq⟩,hw1⟩;have hX:=HX.out w1 hw1;have hZ:=HZ.out w1 hw1;obtain ⟨v0,v1,v2,v3,v4,v5,v6⟩:=aS hX;obtain ⟨u0,u1,u2,u3,u4⟩:=aQ hZ;have HB1:=aF (HB0.out.trans (hw1.mono HB0.out.size));clear hX hZ y0 y1 y2 y3 y4 y5 y6 z0 z1 z2 z3 z4 hq;by_cases hq0:0<q
 ·go_wp2_with (go_at_call 9;refine (HAL.out _ HB1.out).mono ?_;rintro e' w2 ⟨rfl,hw2⟩)
  go_ret;exact ⟨rfl,HB1.out.trans (hw2.mono HB1.out.size)⟩
 ·go_wp2_with fail
  go_at_call 12
  refine (HTL.out w1 HB1.out).mono ?_;rintro e' w2 ⟨⟨r,rfl⟩,hw2⟩;have hX:=HX.out w2 (hw1.trans (hw2.mono hw1.size));have hZ:=HZ.out w2 (hw1.trans (hw2.mono hw1.size));obtain ⟨y0,y1,y2,y3,y4,y5,y6⟩:=aS hX;obtain ⟨z0,z1,z2,z3,z4⟩:=aQ hZ;have HB2:=aF (HB1.out.trans (hw2.mono HB1.out.size));have hw12:=hw1.trans (hw2.mono hw1.size);clear hX hZ v0 v1 v2 v3 v4 v5 v6 u0 u1 u2 u3 u4 hw1 hw2;by_cases hr0:0<r
  ·go_wp2_with (go_at_call 9;refine (HAL.out _ HB2.out).mono ?_;rintro e' w3 ⟨rfl,hw3⟩)
   go_ret;exact ⟨rfl,HB2.out.trans (hw3.mono HB2.out.size)⟩
  ·go_wp2_with (first
    | (go_at_call 13;refine (HPR.out _ HB2.out).mono ?_;rintro e' w3 ⟨rfl,hw3⟩;have hX:=HX.out w3 (hw12.trans (hw3.mono hw12.size));have hZ:=HZ.out w3 (hw12.trans (hw3.mono hw12.size));obtain ⟨v0,v1,v2,v3,v4,v5,v6⟩:=aS hX;obtain ⟨u0,u1,u2,u3,u4⟩:=aQ hZ;clear hX hZ;have HB3:=aF (HB2.out.trans (hw3.mono HB2.out.size)))
    | (go_at_call 14;refine (HRR.out _ HB3.out).mono ?_;rintro e' w4 ⟨rfl,hw4⟩;have HB4:=aF (HB3.out.trans (hw4.mono HB3.out.size)))
    | (go_at_call 9;refine (HAL.out _ HB4.out).mono ?_;rintro e' w5 ⟨rfl,hw5⟩))
   all_goals (go_ret;exact ⟨by simp_all,HB4.out.trans (hw5.mono HB4.out.size)⟩)
end
section
open Go Go.RowKit
theorem xAD {a b:Bool} (ha:a=true) (hb:b=true):(a && b)=true:=by rw [ha,hb];rfl
theorem xER:(Rows.printerFactsRow.wf (OpenSpec.ofChange Rows.printerFactsSpec))=true:=by kernel_rfl
theorem xEQ:(laidOutB Tryz.prog)=true:=by kernel_rfl
theorem xEP:(mapsRowed Tryz.prog)=true:=by kernel_rfl
theorem xEO:(Tryz.f4.params.all (Tryz.prog.readableRec ·))=true:=by kernel_rfl
theorem xEN:(namedTie Tryz.prog Rows.printerFactsRow.named Rows.printerFactsSpec.vars)=true:=by kernel_rfl
theorem xEM:((Rows.printerFactsRow.stops == []))=true:=by kernel_rfl
theorem xEL:((Tryz.prog.stops == []))=true:=by kernel_rfl
theorem xEK:((Rows.printerFactsRow.knobs == []))=true:=by kernel_rfl
theorem xEJ:((Tryz.prog.stopKnobs == []))=true:=by kernel_rfl
theorem xEI:((Rows.printerFactsRow.inPlace == Tryz.prog.inPlace 4))=true:=by kernel_rfl
theorem xDK:((Rows.printerFactsRow.unfollowed == Tryz.prog.unfollowed 4))=true:=by kernel_rfl
theorem xDJ:((Rows.printerFactsRow.recurses == Tryz.prog.recurses 4))=true:=by kernel_rfl
theorem xDI:((Rows.printerFactsRow.named == Tryz.prog.varsNamed 4))=true:=by kernel_rfl
theorem xDH:((Rows.printerFactsRow.maps == (Tryz.f4.params.toList ++ Rows.printerFactsSpec.plain.varTypes Tryz.prog).any (Tryz.prog.mapsRec ·)))=true:=by kernel_rfl
theorem xDG:((Rows.printerFactsRow.ifaces == (Tryz.f4.params.toList ++ Rows.printerFactsSpec.plain.varTypes Tryz.prog).any (Tryz.prog.ifacesRec ·)))=true:=by kernel_rfl
theorem xDF:((Rows.printerFactsRow.mapsOut == Tryz.prog.mapsAmong Tryz.f4.resultTypes.toList))=true:=by kernel_rfl
theorem xDE:((Rows.printerFactsRow.loops == (Tryz.f4.params.toList ++ Rows.printerFactsSpec.plain.varTypes Tryz.prog).any (Tryz.prog.loopsFrom ·)))=true:=by kernel_rfl
theorem xDD:((Rows.printerFactsRow.wideKeys == (Tryz.f4.params.toList ++ Rows.printerFactsSpec.plain.varTypes Tryz.prog ++ Tryz.f4.resultTypes.toList).any (Tryz.prog.wideKeysFrom ·)))=true:=by kernel_rfl
theorem xDC:(Rows.printerFactsSpec.vars.all (Tryz.prog.varReadable ·))=true:=by kernel_rfl
theorem xDB:(Tryz.f4.resultTypes.all (fun t=>Tryz.prog.readableRec t && decide (t<Tryz.prog.types.size)))=true:=by kernel_rfl
theorem xDA:((Rows.printerFactsRow.ifacesOut == Tryz.f4.resultTypes.toList.any (Tryz.prog.ifacesRec ·)))=true:=by kernel_rfl
theorem xCZ:((Rows.printerFactsRow.loopsOut == Tryz.f4.resultTypes.toList.any (Tryz.prog.loopsFrom ·)))=true:=by kernel_rfl
theorem xCY:((Rows.printerFactsRow.plainKeys == Tryz.prog.plainKeys))=true:=by kernel_rfl
theorem xCX:(Rows.printerFactsRow.shortTexts.isNone)=true:=by kernel_rfl
theorem xCW:(Tryz.prog.stopsHeard)=true:=by kernel_rfl
theorem xCV:(Tryz.prog.mayEnter)=true:=by kernel_rfl
theorem xCU:((Rows.printerFactsRow.lifted == Tryz.prog.liftsFinal))=true:=by kernel_rfl
theorem xCT:((Tryz.prog.make == some Rows.printerFactsRow.make))=true:=by kernel_rfl
theorem xCS:((Rows.printerFactsRow.kinds == (if Rows.printerFactsRow.domain.isEmpty then [] else Tryz.f4.params.toList.map fun t=>match Tryz.prog.underlying t with | some (.int k)=>some k | _=>none)))=true:=by kernel_rfl
theorem xCR:((Rows.printerFactsRow.pinned == Rows.printerFactsRow.pinnedBy))=true:=by kernel_rfl
theorem xCQ:((Rows.printerFactsRow.veiled == (Tryz.f4.params.toList ++ Rows.printerFactsSpec.plain.varTypes Tryz.prog ++ Tryz.f4.resultTypes.toList).any (Tryz.prog.veiledRec ·)))=true:=by kernel_rfl
theorem xCP:(Rows.printerFactsRow.veiledFits Tryz.prog Tryz.f4.params.toList (Tryz.f4.params.toList ++ Rows.printerFactsSpec.plain.varTypes Tryz.prog ++ Tryz.f4.resultTypes.toList))=true:=by kernel_rfl
theorem xBA:joinedFacts Tryz.prog 4 Tryz.f4 Rows.printerFactsSpec Rows.printerFactsRow=true:=(xAD (xAD (xAD (xAD (xAD (xAD (xAD (xAD (xAD (xAD (xAD (xAD (xAD (xAD (xAD (xAD (xAD (xAD (xAD (xAD (xAD (xAD (xAD (xAD (xAD (xAD (xAD (xAD (xAD (xAD (xAD xER xEQ) xEP) xEO) xEN) xEM) xEL) xEK) xEJ) xEI) xDK) xDJ) xDI) xDH) xDG) xDF) xDE) xDD) xDC) xDB) xDA) xCZ) xCY) xCX) xCW) xCV) xCU) xCT) xCS) xCR) xCQ) xCP)
end
section
open Go Go.ChangeShapes Go.WideShapes Go.ChangeAt Go.RowKit
theorem xAZ (os:Os) (started:os.Started) (H:Type) (enc:TypeId × Value->H):
 ReturnsInHanded {} Tryz.checked os 4 .any (fun w args=>(Rows.printerFactsSpec.pre enc Tryz.prog Tryz.f4 [] false w args/\laidMetH Tryz.prog Rows.printerFactsRow.laid w)/\sizedMet enc Tryz.prog Tryz.f4 (OpenSpec.ofChange Rows.printerFactsSpec) false w args)
  (Rows.printerFactsSpec.post enc Tryz.prog Tryz.f4 false true false false):=by
 refine returnsInHanded_of_change_and (C:=Tryz.checked) (X:=fun w _=>laidMetH Tryz.prog Rows.printerFactsRow.laid w) (fun _ _ _ hh h=>h.of_heap hh) Tryz.own started (by kernel_rfl) Tryz.func4
  (ChangeSpec.witness_shaped (enc:=enc) (C:=Tryz.checked) (os:=os) (X:=fun w _=>laidMetH Tryz.prog Rows.printerFactsRow.laid w) false (World.laidAll Tryz.prog os Rows.printerFactsRow.laid) #[.agg #[.string ⟨#[]⟩,.slice none 0 0,.slice none 0 0,.slice none 0 0,.slice none 0 0,.int .i64 0,.slice none 0 0],.agg #[.slice none 0 0,.slice none 0 0,.slice none 0 0,.slice none 0 0,.slice none 0 0]] 8 (World.laidAll_os _ _ _) (World.shaped_of_ZipB (by kernel_rfl) (by kernel_rfl)) (by kernel_rfl) (by kernel_rfl) (by kernel_rfl)
    (by rw [MakeChecks.laidMetH_plain _ _ _ (by kernel_rfl)];exact laidMet_laidAll _ (by kernel_rfl) (by kernel_rfl))) ?_
 intro W base args ds gs before hval0 hW _ hwt hL _;have hval:∀(j:Nat) t v,Tryz.f4.params[j]?=some t->args[j]?=some v->Value.okWide Tryz.prog W .any base t v:=hval0;have hW':=hW;obtain ⟨p,q,hA0,hV,rfl,hfz,hnd⟩:=hW;have hA:DataW.TrodAll enc Tryz.prog W 0 (fun _=>true) true Tryz.f4.params.toList args.toList ds p:=hA0;rw [Tryz.params4] at hA hval;obtain ⟨v0,v1,d0,d1,p0,p1,rfl,rfl,rfl,h0,h1⟩:=trodAll_two hA;obtain ⟨rfl,rfl⟩:=trodVars_none hV;obtain ⟨bb,bh,rfl,hbd,hnm,hfb⟩:=rV (hval 0 _ v0 rfl rfl) h0;obtain ⟨hTT,hPP,hSS⟩:=yY hL;obtain ⟨ff,fh,rfl,hfc,hff⟩:=xFA (hval 1 _ v1 rfl rfl) h1;clear hA0 hval0;refine (xFN bb bh ff fh W hTT hPP hSS hbd hnm hfc hff).mono fun e W' ⟨he,hb⟩=>?_
 exact ⟨_,he,vJ Tryz.laidOut rfl (by kernel_rfl) Tryz.underlying4 rfl (by rw [Tryz.params4];intro t ht;simp at ht;rcases ht with rfl | rfl <;> exact ⟨by kernel_rfl,of_decide_eq_true (by kernel_rfl)⟩) hW' hb⟩
theorem xBQ:Rows.PrinterFactsSaid:=
 OpenClaim.holds_of_wide 4 Tryz.f4 rfl rfl rfl rfl rfl rfl rfl ⟨rfl,rfl,rfl,rfl,rfl⟩ rfl rfl rfl rfl rfl (by kernel_rfl) Tryz.func4 xBA
  (of_decide_eq_true (by kernel_rfl)) (by unfold Func.isWrapper;first | (rw [bA (by decide +kernel)];kernel_rfl) | (rw [aZ (by decide +kernel)];exact ⟨rfl,rfl⟩))
  (fun os started H enc _=>xAZ os started H enc)
theorem PrinterFacts_holds:Rows.PrinterFactsCardSaid:=
 Claim7.holds_tied_plain_at .later [] [.data, .data, .data, .data, .listed, .data, .widerDeep, .widerDeep, .pinned] true (true, "2565a398a9c3f64ed2b3d35e70614e8afda13dca12037df6a6fb8dd6ed235492") false
  xBQ (fun _ h=>by cases h) (by kernel_rfl) (fun _ h=>by cases h) printerFacts_row_tie rfl ⟨rfl,rfl⟩ (by kernel_rfl) rfl
  (fun f fn hf hfn=>by
    obtain rfl:f=4:=Option.some.inj ((show Tryz.prog.funcNamed Rows.printerFactsRow.func=some 4 by kernel_rfl).symm.trans hf) |>.symm;obtain rfl:fn=Tryz.f4:=(Option.some.inj (Tryz.func4.symm.trans hfn)).symm
    exact ⟨by kernel_rfl,fun j t ht=>by
     rw [Tryz.params4] at ht;have hm:t∈[28,39]:=(by simpa using Array.mem_of_getElem? ht);have hall:([28,39].all fun u=> !Tryz.prog.wantsStandIn u)=true:=by kernel_rfl
     exact (show Tryz.prog.wantsStandIn t=false by simpa using List.all_eq_true.1 hall t hm)⟩)
  (by kernel_rfl)
end
end Go.Proofs.YtmknfbfppmkcfaaGreatDoor
