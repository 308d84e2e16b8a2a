/-
  PrinterFactsAreInjective: the texts that this claim has beyond those of PrinterPlaces. (part 10)
-/
import Derived.Test.YtmknfbfppmkcfaaGreatDoorNG9
import Derived.Lib.Hide
import Derived.Below
import Derived.WalkSmall
import Derived.Laws.World
import Derived.Test.YtmknfbfppmkcfaaGreatDoorProg
import Derived.WalkKit
import Derived.WalkSpells
import Derived.WalkLawsBesides
import Derived.Deep.RegionHeld3
import Derived.Deep.DeepFit
import Derived.Deep.QuietTactic
import Derived.BigQuiet
import Derived.OwnWalk
import Derived.Maps.AppendAt
import Derived.Deep.DeepCutAuto
import Derived.StillTailTactics
import Derived.Lib.ItoaNum
import Derived.Lib.Join
import Derived.RangeFuncNested
import Derived.RangeFuncBound
import Derived.RangeFuncCalls
import Derived.RangeFuncLeaves
import Derived.OwnWalkIn
import Derived.TacticsInMore
import Derived.LoopNIn
import Derived.LoopIn
import Derived.Lib.ItoaLen
import Derived.Laws.IdiomStrings
import Derived.Shelf.Abstract
import Derived.OrdersHeld
import Derived.Deep.RegionHeld
import Derived.Test.YtmknfbfppmkcfaaGreatDoorSg
import Derived.Maps.OwnSet
import Derived.Maps.OwnOps
import Derived.StringKeys
import Derived.Deep.MidRow
import Derived.Deep.LoopGhost
import Derived.WideKeyPair
import Derived.WideKeyArr
import Derived.Test.YtmknfbfppmkcfaaGreatDoorSj
import Derived.Lib.AppendIntMem
import Derived.Test.YtmknfbfppmkcfaaGreatDoorSh
import Derived.RangeFuncBox
import Derived.Lib.AppendStr
import Derived.Lib.Builder
import Derived.WalkMore
import Derived.ChangeKeysEq
import Derived.Deep.CutBlock
import Derived.Test.YtmknfbfppmkcfaaGreatDoorRows
import Derived.ProofKit
import Derived.Deep.Slices
import Derived.Deep.Fields
import Derived.Lib.SmallJoins
import Derived.OpenShut
import Derived.LaidMore
import Derived.Stop.Joined
import Derived.Stop.LaidErr
import Derived.Lay
import Derived.SevenTiedAt
import Derived.Lib.LaidTab
import Derived.Test.YtmknfbfppmkcfaaGreatDoorTie
import Derived.Test.YtmknfbfppmkcfaaGreatDoorCards
import Derived.JoinedOf
import Derived.SizedLaws
namespace Go.Proofs.YtmknfbfppmkcfaaGreatDoor
set_option maxRecDepth 100000
set_option maxHeartbeats 16000000
section
open Go Go.RowKit
attribute [local irreducible] Calls
theorem xGG {b:Bdy} {f g:Fct} (hf:okF b f) (hg:okF b g):((⟨(printF b f).toArray⟩:ByteArray).toList == (⟨(printF b g).toArray⟩:ByteArray).toList)=decide (f=g):=by
 have O:=wS hf.1;rw [Lib.toList_data,Lib.toList_data,bR];simp only [beq_iff_eq,decide_eq_true_eq];exact ⟨fun h=>xFM O.ls O.rs (yH hf.2.1) (yH hg.2.1) hf.2.2 hg.2.2 (by simpa using h),fun h=>by rw [h]⟩
theorem xGB (b:Bdy) (f g:Fct) (bh:BH) (fh gh:FH) (w:World) (hT:TabsOk w) (hpow:PowTab w) (hsp:SpTab w) (H:BdAt w b bh) (H2:FcAt w f fh) (H3:FcAt w g gh) (hz:NmOk b) (hf:FitF f) (hg:FitF g):
 Calls Tryz.prog 7 #[.agg (bdC b bh).toArray,.agg (fcC f fh).toArray,.agg (fcC g gh).toArray] w fun e' w'=>e' = .returned (.bool true)/\Below w.heap.size w w':=by
 have HAL:=aF (fun (W:World) (hb:Below w.heap.size w W)=>nJ W (hT.keep hb) (hpow.keep hb) (hsp.keep hb));have HRC:=aF (fun (W:World) (hb:Below w.heap.size w W)=>rcount_any' b bh W (H.keep hb));have HSK:=aF (fun (W:World) (hb:Below w.heap.size w W)=>xEU b bh W (H.keep hb) hz);have HTF:=aF (fun (W:World) (hb:Below w.heap.size w W)=>xCF f fh W (H2.keep hb));have HTG:=aF (fun (W:World) (hb:Below w.heap.size w W)=>xCF g gh W (H3.keep hb));have HCF:=aF (fun (p r:Int) (W:World) (hb:Below w.heap.size w W)=>xCP f fh p r W (H2.keep hb));have HCG:=aF (fun (p r:Int) (W:World) (hb:Below w.heap.size w W)=>xCP g gh p r W (H3.keep hb));have HPF:=aF (fun (W:World) (hb:Below w.heap.size w W)=>pK b bh f fh W (H.keep hb) (H2.keep hb) (hT.keep hb) (hpow.keep hb) (hsp.keep hb) hf (fun hc he=>xDD hc he hf));have HPG:=aF (fun (W:World) (hb:Below w.heap.size w W)=>pK b bh g gh W (H.keep hb) (H3.keep hb) (hT.keep hb) (hpow.keep hb) (hsp.keep hb) hg (fun hc he=>xDD hc he hg));have HEQ:=aF (fun (W:World) (hb:Below w.heap.size w W)=>xGR f g fh gh W (H2.keep hb) (H3.keep hb));have HIJ:=aF (fun (h1:okF b f) (h2:okF b g)=>xGG h1 h2);have n3:=H.reg.le;have n4:=H.reg.big;obtain ⟨A1,c1,A2,c2,A3,c3,A4,c4,A5,c5⟩:=bh;obtain ⟨B0,d0,B1,d1,B2,d2,B3,d3,B4,d4⟩:=fh;obtain ⟨C0,k0,C1,k1,C2,k2,C3,k3,C4,k4⟩:=gh;unfold bdC fcC at *;simp only at *;obtain ⟨W0,hW0⟩:∃W,((w.alloc (.cells ([Value.string b.name,.slice A1 b.regions.length c1,.slice A2 b.outl.length c2,.slice A3 b.types.length c3,.slice A4 b.locals.length c4,.int .i64 b.args,.slice A5 b.blocks.length c5]).toArray 28)).alloc (.cells ([Value.slice B0 f.loans.length d0,.slice B1 f.edges.length d1,.slice B2 f.killed.length d2,.slice B3 f.inval.length d3,.slice B4 f.live.length d4]).toArray 39)).alloc (.cells ([Value.slice C0 g.loans.length k0,.slice C1 g.edges.length k1,.slice C2 g.killed.length k2,.slice C3 g.inval.length k3,.slice C4 g.live.length k4]).toArray 39)=W:=⟨_,rfl⟩;have hb0:Below w.heap.size w W0:=by rw [<- hW0];exact bel3 _ _ _ _
 have HB0:=aF hb0;have hcc:=dY (w:=w) (l1:=[Value.string b.name,.slice A1 b.regions.length c1,.slice A2 b.outl.length c2,.slice A3 b.types.length c3,.slice A4 b.locals.length c4,.int .i64 b.args,.slice A5 b.blocks.length c5]) (l2:=[Value.slice B0 f.loans.length d0,.slice B1 f.edges.length d1,.slice B2 f.killed.length d2,.slice B3 f.inval.length d3,.slice B4 f.live.length d4]) (l3:=[Value.slice C0 g.loans.length k0,.slice C1 g.edges.length k1,.slice C2 g.killed.length k2,.slice C3 g.inval.length k3,.slice C4 g.live.length k4]) (t1:=28) (t2:=39) (t3:=39) (w1:=W0) (by rw [hW0];exact aX _ _);have HX:=aF (fun (W:World) (hb:Below W0.heap.size W0 W) i v h=>cJ hb (hcc.1 i v h));have HY:=aF (fun (W:World) (hb:Below W0.heap.size W0 W) i v h=>cJ hb (hcc.2.1 i v h));have HV:=aF (fun (W:World) (hb:Below W0.heap.size W0 W) i v h=>cJ hb (hcc.2.2 i v h));clear hcc hb0 hT hpow hsp H H2 H3 hz hf hg;obtain ⟨E,hE⟩:∃E,decide (f=g)=E:=⟨_,rfl⟩;rw [hE] at HEQ HIJ;clear hE;go_enter Tryz.func7,Tryz.ntmps7
 go_wp2_with fail
 have hS:(aA (bdM b A1 c1 A2 c2 A3 c3 A4 c4 A5 c5 []) W0.drew w.heap.size)/\(aA [Value.slice B0 f.loans.length d0,.slice B1 f.edges.length d1,.slice B2 f.killed.length d2,.slice B3 f.inval.length d3,.slice B4 f.live.length d4] W0.drew (w.heap.size+1))/\(aA [Value.slice C0 g.loans.length k0,.slice C1 g.edges.length k1,.slice C2 g.killed.length k2,.slice C3 g.inval.length k3,.slice C4 g.live.length k4] W0.drew (w.heap.size+1+1)):=⟨HX.out _ (aX _ _).drew,HY.out _ (aX _ _).drew,HV.out _ (aX _ _).drew⟩;refine cQ (S:=fun X=>(aA (bdM b A1 c1 A2 c2 A3 c3 A4 c4 A5 c5 []) X w.heap.size)/\(aA [Value.slice B0 f.loans.length d0,.slice B1 f.edges.length d1,.slice B2 f.killed.length d2,.slice B3 f.inval.length d3,.slice B4 f.live.length d4] X (w.heap.size+1))/\(aA [Value.slice C0 g.loans.length k0,.slice C1 g.edges.length k1,.slice C2 g.killed.length k2,.slice C3 g.inval.length k3,.slice C4 g.live.length k4] X (w.heap.size+1+1))) [0,2,3,4,1,5,6] (by kernel_rfl) ?_;(iterate 4 (refine cR (v:=?_) ?_ hS ?_;rotate_left;(next=>(rintro X ⟨hX,hZ,hV⟩;obtain ⟨y0,y1,y2,y3,y4,y5,y6⟩:=aS hX;(try simp only [aI]);go_simp;rfl));simp only [aM]));(refine cM (fun K1 hK1=>?_);simp only [aM];rw [bA (by rfl)];go_simp);refine (HRC.out _ HB0.out.drew).mono ?_;rintro e' w1 ⟨⟨q,rfl,hq⟩,hw1⟩;replace hS:=bJ (fun i v h=>cJ hw1 (hS.1 i v h)) (bJ (fun i v h=>cJ hw1 (hS.2.1 i v h)) (fun i v h=>cJ hw1 (hS.2.2 i v h)));have HW1:=aF ((aX W0.heap.size W0).drew.trans hw1);have HB1:=aF (HB0.out.drew.trans (hw1.mono HB0.out.drew.size));have HQ:=aF hq;clear hw1 hq;refine hK1.out _ _ (fun _=>hS) ?_;(iterate 2 (refine cR (v:=?_) ?_ hS ?_;rotate_left;(next=>(rintro X -;(try simp only [aI]);go_simp;rfl));simp only [aM]));refine cV ?_;clear hK1 hS;have hX:=HX.out w1 HW1.out;obtain ⟨y0,y1,y2,y3,y4,y5,y6⟩:=aS hX;have hZ:=HY.out w1 HW1.out;obtain ⟨z0,z1,z2,z3,z4⟩:=aQ hZ;have hV:=HV.out w1 HW1.out;have v0:=hV 0 _ rfl;have v1:=hV 1 _ rfl;have v2:=hV 2 _ rfl;have v3:=hV 3 _ rfl;have v4:=hV 4 _ rfl;clear hX hZ hV;go_wp2_with fail
 first | refine (HSK.out _ HB1.out).mono ?_ | (go_at_call 20;refine (HSK.out _ HB1.out).mono ?_)
 rintro e' w2 ⟨⟨p,rfl,hp⟩,hw⟩;clear y0 y1 y2 y3 y4 y5 y6 z0 z1 z2 z3 z4 v0 v1 v2 v3 v4;have HW2:=aF (HW1.out.trans (hw.mono HW1.out.size));have hX:=HX.out w2 HW2.out;obtain ⟨y0,y1,y2,y3,y4,y5,y6⟩:=aS hX;have hZ:=HY.out w2 HW2.out;obtain ⟨z0,z1,z2,z3,z4⟩:=aQ hZ;have hV:=HV.out w2 HW2.out;have v0:=hV 0 _ rfl;have v1:=hV 1 _ rfl;have v2:=hV 2 _ rfl;have v3:=hV 3 _ rfl;have v4:=hV 4 _ rfl;clear hX hZ hV;have HB2:=aF (HB1.out.trans (hw.mono HB1.out.size));clear hw;by_cases hp0:0<p
 case pos=>
  clear hp;go_wp2_with fail
  first | refine (HAL.out _ HB2.out).mono ?_ | (go_at_call 9;refine (HAL.out _ HB2.out).mono ?_)
  rintro e' wa ⟨rfl,hwa⟩;go_wp2_with fail
  go_ret;exact ⟨rfl,HB2.out.trans (hwa.mono HB2.out.size)⟩
 have HN:=aF (hp (by omega));clear hp;have hqq:=HQ.out.out (lX HN.out.2).1;subst hqq;clear HQ;go_wp2_with fail
 first | refine (HTF.out _ HB2.out).mono ?_ | (go_at_call 12;refine (HTF.out _ HB2.out).mono ?_)
 rintro e' w3 ⟨⟨r,rfl⟩,hw⟩;clear y0 y1 y2 y3 y4 y5 y6 z0 z1 z2 z3 z4 v0 v1 v2 v3 v4;have HW3:=aF (HW2.out.trans (hw.mono HW2.out.size));have hX:=HX.out w3 HW3.out;obtain ⟨y0,y1,y2,y3,y4,y5,y6⟩:=aS hX;have hZ:=HY.out w3 HW3.out;obtain ⟨z0,z1,z2,z3,z4⟩:=aQ hZ;have hV:=HV.out w3 HW3.out;have v0:=hV 0 _ rfl;have v1:=hV 1 _ rfl;have v2:=hV 2 _ rfl;have v3:=hV 3 _ rfl;have v4:=hV 4 _ rfl;clear hX hZ hV;have HB3:=aF (HB2.out.trans (hw.mono HB2.out.size));clear hw;by_cases hr0:0<r
 case pos=>
  go_wp2_with fail
  first | refine (HAL.out _ HB3.out).mono ?_ | (go_at_call 9;refine (HAL.out _ HB3.out).mono ?_)
  rintro e' wa ⟨rfl,hwa⟩;go_wp2_with fail
  go_ret;exact ⟨rfl,HB3.out.trans (hwa.mono HB3.out.size)⟩
 go_wp2_with fail
 first | refine (HTG.out _ HB3.out).mono ?_ | (go_at_call 12;refine (HTG.out _ HB3.out).mono ?_)
 rintro e' w4 ⟨⟨s,rfl⟩,hw⟩;clear y0 y1 y2 y3 y4 y5 y6 z0 z1 z2 z3 z4 v0 v1 v2 v3 v4;have HW4:=aF (HW3.out.trans (hw.mono HW3.out.size));have hX:=HX.out w4 HW4.out;obtain ⟨y0,y1,y2,y3,y4,y5,y6⟩:=aS hX;have hZ:=HY.out w4 HW4.out;obtain ⟨z0,z1,z2,z3,z4⟩:=aQ hZ;have hV:=HV.out w4 HW4.out;have v0:=hV 0 _ rfl;have v1:=hV 1 _ rfl;have v2:=hV 2 _ rfl;have v3:=hV 3 _ rfl;have v4:=hV 4 _ rfl;clear hX hZ hV;have HB4:=aF (HB3.out.trans (hw.mono HB3.out.size));clear hw;by_cases hs0:0<s
 case pos=>
  go_wp2_with fail
  first | refine (HAL.out _ HB4.out).mono ?_ | (go_at_call 9;refine (HAL.out _ HB4.out).mono ?_)
  rintro e' wa ⟨rfl,hwa⟩;go_wp2_with fail
  go_ret;exact ⟨rfl,HB4.out.trans (hwa.mono HB4.out.size)⟩
 obtain ⟨cf,hcf⟩:∃z,fctE f (cntP b.blocks) b.regions.length=z:=⟨_,rfl⟩;obtain ⟨cg,hcg⟩:∃z,fctE g (cntP b.blocks) b.regions.length=z:=⟨_,rfl⟩;have HCF1:=aF (HCF.out (cntP b.blocks) b.regions.length);have HCG1:=aF (HCG.out (cntP b.blocks) b.regions.length);rw [hcf] at HCF1;rw [hcg] at HCG1;have HNF:=aF hcf;have HNG:=aF hcg;clear HCF HCG hcf hcg;by_cases h1:cf=0
 case neg=>
  have e0:(cf != 0)=true:=by simp [h1]
  go_wp2_with fail
  first | refine (HCF1.out _ HB4.out).mono ?_ | (go_at_call 21;refine (HCF1.out _ HB4.out).mono ?_)
  rintro e' w5 ⟨rfl,hw⟩;clear y0 y1 y2 y3 y4 y5 y6 z0 z1 z2 z3 z4 v0 v1 v2 v3 v4;have HW5:=aF (HW4.out.trans (hw.mono HW4.out.size));have hX:=HX.out w5 HW5.out;obtain ⟨y0,y1,y2,y3,y4,y5,y6⟩:=aS hX;have hZ:=HY.out w5 HW5.out;obtain ⟨z0,z1,z2,z3,z4⟩:=aQ hZ;have hV:=HV.out w5 HW5.out;have v0:=hV 0 _ rfl;have v1:=hV 1 _ rfl;have v2:=hV 2 _ rfl;have v3:=hV 3 _ rfl;have v4:=hV 4 _ rfl;clear hX hZ hV;have HB5:=aF (HB4.out.trans (hw.mono HB4.out.size));clear hw;go_wp2_with fail
  first | refine (HAL.out _ HB5.out).mono ?_ | (go_at_call 9;refine (HAL.out _ HB5.out).mono ?_)
  rintro e' wa ⟨rfl,hwa⟩;go_wp2_with fail
  go_ret;exact ⟨rfl,HB5.out.trans (hwa.mono HB5.out.size)⟩
 subst h1;go_wp2_with fail
 first | refine (HCF1.out _ HB4.out).mono ?_ | (go_at_call 21;refine (HCF1.out _ HB4.out).mono ?_)
 rintro e' w5 ⟨rfl,hw⟩;clear y0 y1 y2 y3 y4 y5 y6 z0 z1 z2 z3 z4 v0 v1 v2 v3 v4;have HW5:=aF (HW4.out.trans (hw.mono HW4.out.size));have hX:=HX.out w5 HW5.out;obtain ⟨y0,y1,y2,y3,y4,y5,y6⟩:=aS hX;have hZ:=HY.out w5 HW5.out;obtain ⟨z0,z1,z2,z3,z4⟩:=aQ hZ;have hV:=HV.out w5 HW5.out;have v0:=hV 0 _ rfl;have v1:=hV 1 _ rfl;have v2:=hV 2 _ rfl;have v3:=hV 3 _ rfl;have v4:=hV 4 _ rfl;clear hX hZ hV;have HB5:=aF (HB4.out.trans (hw.mono HB4.out.size));clear hw;by_cases h2:cg=0
 case neg=>
  have e0:(cg != 0)=true:=by simp [h2]
  go_wp2_with fail
  first | refine (HCG1.out _ HB5.out).mono ?_ | (go_at_call 21;refine (HCG1.out _ HB5.out).mono ?_)
  rintro e' w6 ⟨rfl,hw⟩;clear y0 y1 y2 y3 y4 y5 y6 z0 z1 z2 z3 z4 v0 v1 v2 v3 v4;have HW6:=aF (HW5.out.trans (hw.mono HW5.out.size));have hX:=HX.out w6 HW6.out;obtain ⟨y0,y1,y2,y3,y4,y5,y6⟩:=aS hX;have hZ:=HY.out w6 HW6.out;obtain ⟨z0,z1,z2,z3,z4⟩:=aQ hZ;have hV:=HV.out w6 HW6.out;have v0:=hV 0 _ rfl;have v1:=hV 1 _ rfl;have v2:=hV 2 _ rfl;have v3:=hV 3 _ rfl;have v4:=hV 4 _ rfl;clear hX hZ hV;have HB6:=aF (HB5.out.trans (hw.mono HB5.out.size));clear hw;go_wp2_with fail
  first | refine (HAL.out _ HB6.out).mono ?_ | (go_at_call 9;refine (HAL.out _ HB6.out).mono ?_)
  rintro e' wa ⟨rfl,hwa⟩;go_wp2_with fail
  go_ret;exact ⟨rfl,HB6.out.trans (hwa.mono HB6.out.size)⟩
 subst h2;go_wp2_with fail
 first | refine (HCG1.out _ HB5.out).mono ?_ | (go_at_call 21;refine (HCG1.out _ HB5.out).mono ?_)
 rintro e' w6 ⟨rfl,hw⟩;clear y0 y1 y2 y3 y4 y5 y6 z0 z1 z2 z3 z4 v0 v1 v2 v3 v4;have HW6:=aF (HW5.out.trans (hw.mono HW5.out.size));have hX:=HX.out w6 HW6.out;obtain ⟨y0,y1,y2,y3,y4,y5,y6⟩:=aS hX;have hZ:=HY.out w6 HW6.out;obtain ⟨z0,z1,z2,z3,z4⟩:=aQ hZ;have hV:=HV.out w6 HW6.out;have v0:=hV 0 _ rfl;have v1:=hV 1 _ rfl;have v2:=hV 2 _ rfl;have v3:=hV 3 _ rfl;have v4:=hV 4 _ rfl;clear hX hZ hV;have HB6:=aF (HB5.out.trans (hw.mono HB5.out.size));clear hw;by_cases h3:okF b f
 case neg=>
  rw [mU h3] at HPF;obtain ⟨⟨s1,x1⟩,hS1⟩:∃s,pfR b g=s:=⟨_,rfl⟩;rw [hS1] at HPG;clear hS1 HIJ HNF HNG;simp only at HPF HPG;go_wp2_with fail
  first | refine (HPF.out _ HB6.out).mono ?_ | (go_at_call 13;refine (HPF.out _ HB6.out).mono ?_)
  rintro e' w7 ⟨rfl,hw⟩;clear y0 y1 y2 y3 y4 y5 y6 z0 z1 z2 z3 z4 v0 v1 v2 v3 v4;have HW7:=aF (HW6.out.trans (hw.mono HW6.out.size));have hX:=HX.out w7 HW7.out;obtain ⟨y0,y1,y2,y3,y4,y5,y6⟩:=aS hX;have hZ:=HY.out w7 HW7.out;obtain ⟨z0,z1,z2,z3,z4⟩:=aQ hZ;have hV:=HV.out w7 HW7.out;have v0:=hV 0 _ rfl;have v1:=hV 1 _ rfl;have v2:=hV 2 _ rfl;have v3:=hV 3 _ rfl;have v4:=hV 4 _ rfl;clear hX hZ hV;have HB7:=aF (HB6.out.trans (hw.mono HB6.out.size));clear hw;go_wp2_with fail
  first | refine (HPG.out _ HB7.out).mono ?_ | (go_at_call 13;refine (HPG.out _ HB7.out).mono ?_)
  rintro e' w8 ⟨rfl,hw⟩;clear y0 y1 y2 y3 y4 y5 y6 z0 z1 z2 z3 z4 v0 v1 v2 v3 v4;have HW8:=aF (HW7.out.trans (hw.mono HW7.out.size));have hX:=HX.out w8 HW8.out;obtain ⟨y0,y1,y2,y3,y4,y5,y6⟩:=aS hX;have hZ:=HY.out w8 HW8.out;obtain ⟨z0,z1,z2,z3,z4⟩:=aQ hZ;have hV:=HV.out w8 HW8.out;have v0:=hV 0 _ rfl;have v1:=hV 1 _ rfl;have v2:=hV 2 _ rfl;have v3:=hV 3 _ rfl;have v4:=hV 4 _ rfl;clear hX hZ hV;have HB8:=aF (HB7.out.trans (hw.mono HB7.out.size));clear hw;go_wp2_with fail
  first | refine (HAL.out _ HB8.out).mono ?_ | (go_at_call 9;refine (HAL.out _ HB8.out).mono ?_)
  rintro e' wa ⟨rfl,hwa⟩;go_wp2_with fail
  go_ret;exact ⟨rfl,HB8.out.trans (hwa.mono HB8.out.size)⟩
 by_cases h4:okF b g
 case neg=>
  rw [wO h3] at HPF;rw [mU h4] at HPG;clear HIJ HNF HNG;simp only at HPF HPG;go_wp2_with fail
  first | refine (HPF.out _ HB6.out).mono ?_ | (go_at_call 13;refine (HPF.out _ HB6.out).mono ?_)
  rintro e' w7 ⟨rfl,hw⟩;clear y0 y1 y2 y3 y4 y5 y6 z0 z1 z2 z3 z4 v0 v1 v2 v3 v4;have HW7:=aF (HW6.out.trans (hw.mono HW6.out.size));have hX:=HX.out w7 HW7.out;obtain ⟨y0,y1,y2,y3,y4,y5,y6⟩:=aS hX;have hZ:=HY.out w7 HW7.out;obtain ⟨z0,z1,z2,z3,z4⟩:=aQ hZ;have hV:=HV.out w7 HW7.out;have v0:=hV 0 _ rfl;have v1:=hV 1 _ rfl;have v2:=hV 2 _ rfl;have v3:=hV 3 _ rfl;have v4:=hV 4 _ rfl;clear hX hZ hV;have HB7:=aF (HB6.out.trans (hw.mono HB6.out.size));clear hw;go_wp2_with fail
  first | refine (HPG.out _ HB7.out).mono ?_ | (go_at_call 13;refine (HPG.out _ HB7.out).mono ?_)
  rintro e' w8 ⟨rfl,hw⟩;clear y0 y1 y2 y3 y4 y5 y6 z0 z1 z2 z3 z4 v0 v1 v2 v3 v4;have HW8:=aF (HW7.out.trans (hw.mono HW7.out.size));have hX:=HX.out w8 HW8.out;obtain ⟨y0,y1,y2,y3,y4,y5,y6⟩:=aS hX;have hZ:=HY.out w8 HW8.out;obtain ⟨z0,z1,z2,z3,z4⟩:=aQ hZ;have hV:=HV.out w8 HW8.out;have v0:=hV 0 _ rfl;have v1:=hV 1 _ rfl;have v2:=hV 2 _ rfl;have v3:=hV 3 _ rfl;have v4:=hV 4 _ rfl;clear hX hZ hV;have HB8:=aF (HB7.out.trans (hw.mono HB7.out.size));clear hw;go_wp2_with fail
  first | refine (HAL.out _ HB8.out).mono ?_ | (go_at_call 9;refine (HAL.out _ HB8.out).mono ?_)
  rintro e' wa ⟨rfl,hwa⟩;go_wp2_with fail
  go_ret;exact ⟨rfl,HB8.out.trans (hwa.mono HB8.out.size)⟩
 rw [wO h3] at HPF;rw [wO h4] at HPG;have e0:=HIJ.out h3 h4;unfold tx at HPF HPG;clear HIJ HNF HNG h3 h4;simp only at HPF HPG;go_wp2_with fail
 first | refine (HPF.out _ HB6.out).mono ?_ | (go_at_call 13;refine (HPF.out _ HB6.out).mono ?_)
 rintro e' w7 ⟨rfl,hw⟩;clear y0 y1 y2 y3 y4 y5 y6 z0 z1 z2 z3 z4 v0 v1 v2 v3 v4;have HW7:=aF (HW6.out.trans (hw.mono HW6.out.size));have hX:=HX.out w7 HW7.out;obtain ⟨y0,y1,y2,y3,y4,y5,y6⟩:=aS hX;have hZ:=HY.out w7 HW7.out;obtain ⟨z0,z1,z2,z3,z4⟩:=aQ hZ;have hV:=HV.out w7 HW7.out;have v0:=hV 0 _ rfl;have v1:=hV 1 _ rfl;have v2:=hV 2 _ rfl;have v3:=hV 3 _ rfl;have v4:=hV 4 _ rfl;clear hX hZ hV;have HB7:=aF (HB6.out.trans (hw.mono HB6.out.size));clear hw;go_wp2_with fail
 first | refine (HPG.out _ HB7.out).mono ?_ | (go_at_call 13;refine (HPG.out _ HB7.out).mono ?_)
 rintro e' w8 ⟨rfl,hw⟩;clear y0 y1 y2 y3 y4 y5 y6 z0 z1 z2 z3 z4 v0 v1 v2 v3 v4;have HW8:=aF (HW7.out.trans (hw.mono HW7.out.size));have hX:=HX.out w8 HW8.out;obtain ⟨y0,y1,y2,y3,y4,y5,y6⟩:=aS hX;have hZ:=HY.out w8 HW8.out;obtain ⟨z0,z1,z2,z3,z4⟩:=aQ hZ;have hV:=HV.out w8 HW8.out;have v0:=hV 0 _ rfl;have v1:=hV 1 _ rfl;have v2:=hV 2 _ rfl;have v3:=hV 3 _ rfl;have v4:=hV 4 _ rfl;clear hX hZ hV;have HB8:=aF (HB7.out.trans (hw.mono HB7.out.size));clear hw;go_wp2_with fail
 first | refine (HAL.out _ HB8.out).mono ?_ | (go_at_call 9;refine (HAL.out _ HB8.out).mono ?_)
 rintro e' w9 ⟨rfl,hw⟩;clear y0 y1 y2 y3 y4 y5 y6 z0 z1 z2 z3 z4 v0 v1 v2 v3 v4;have HW9:=aF (HW8.out.trans (hw.mono HW8.out.size));have hX:=HX.out w9 HW9.out;obtain ⟨y0,y1,y2,y3,y4,y5,y6⟩:=aS hX;have hZ:=HY.out w9 HW9.out;obtain ⟨z0,z1,z2,z3,z4⟩:=aQ hZ;have hV:=HV.out w9 HW9.out;have v0:=hV 0 _ rfl;have v1:=hV 1 _ rfl;have v2:=hV 2 _ rfl;have v3:=hV 3 _ rfl;have v4:=hV 4 _ rfl;clear hX hZ hV;have HB9:=aF (HB8.out.trans (hw.mono HB8.out.size));clear hw;go_wp2_with fail
 first | refine (HEQ.out _ HB9.out).mono ?_ | (go_at_call 22;refine (HEQ.out _ HB9.out).mono ?_)
 rintro e' w10 ⟨rfl,hw⟩;clear y0 y1 y2 y3 y4 y5 y6 z0 z1 z2 z3 z4 v0 v1 v2 v3 v4;have HW10:=aF (HW9.out.trans (hw.mono HW9.out.size));have hX:=HX.out w10 HW10.out;obtain ⟨y0,y1,y2,y3,y4,y5,y6⟩:=aS hX;have hZ:=HY.out w10 HW10.out;obtain ⟨z0,z1,z2,z3,z4⟩:=aQ hZ;have hV:=HV.out w10 HW10.out;have v0:=hV 0 _ rfl;have v1:=hV 1 _ rfl;have v2:=hV 2 _ rfl;have v3:=hV 3 _ rfl;have v4:=hV 4 _ rfl;clear hX hZ hV;have HB10:=aF (HB9.out.trans (hw.mono HB9.out.size));clear hw;go_wp2_with fail
 go_ret;exact ⟨by cases E <;> simp_all,HB10.out⟩
end
section
open Go Go.RowKit
theorem xAD {a b:Bool} (ha:a=true) (hb:b=true):(a && b)=true:=by rw [ha,hb];rfl
theorem xBT:(Rows.printerFactsAreInjectiveRow.wf (OpenSpec.ofChange Rows.printerFactsAreInjectiveSpec))=true:=by kernel_rfl
theorem xBS:(laidOutB Tryz.prog)=true:=by kernel_rfl
theorem xBR:(mapsRowed Tryz.prog)=true:=by kernel_rfl
theorem xBQ:(Tryz.f7.params.all (Tryz.prog.readableRec ·))=true:=by kernel_rfl
theorem xBP:(namedTie Tryz.prog Rows.printerFactsAreInjectiveRow.named Rows.printerFactsAreInjectiveSpec.vars)=true:=by kernel_rfl
theorem xBO:((Rows.printerFactsAreInjectiveRow.stops == []))=true:=by kernel_rfl
theorem xBN:((Tryz.prog.stops == []))=true:=by kernel_rfl
theorem xBM:((Rows.printerFactsAreInjectiveRow.knobs == []))=true:=by kernel_rfl
theorem xBL:((Tryz.prog.stopKnobs == []))=true:=by kernel_rfl
theorem xBK:((Rows.printerFactsAreInjectiveRow.inPlace == Tryz.prog.inPlace 7))=true:=by kernel_rfl
theorem xBH:((Rows.printerFactsAreInjectiveRow.unfollowed == Tryz.prog.unfollowed 7))=true:=by kernel_rfl
theorem xBG:((Rows.printerFactsAreInjectiveRow.recurses == Tryz.prog.recurses 7))=true:=by kernel_rfl
theorem xBF:((Rows.printerFactsAreInjectiveRow.named == Tryz.prog.varsNamed 7))=true:=by kernel_rfl
theorem xBE:((Rows.printerFactsAreInjectiveRow.maps == (Tryz.f7.params.toList ++ Rows.printerFactsAreInjectiveSpec.plain.varTypes Tryz.prog).any (Tryz.prog.mapsRec ·)))=true:=by kernel_rfl
theorem xBD:((Rows.printerFactsAreInjectiveRow.ifaces == (Tryz.f7.params.toList ++ Rows.printerFactsAreInjectiveSpec.plain.varTypes Tryz.prog).any (Tryz.prog.ifacesRec ·)))=true:=by kernel_rfl
theorem xBC:((Rows.printerFactsAreInjectiveRow.mapsOut == Tryz.prog.mapsAmong Tryz.f7.resultTypes.toList))=true:=by kernel_rfl
theorem xBB:((Rows.printerFactsAreInjectiveRow.loops == (Tryz.f7.params.toList ++ Rows.printerFactsAreInjectiveSpec.plain.varTypes Tryz.prog).any (Tryz.prog.loopsFrom ·)))=true:=by kernel_rfl
theorem xBA:((Rows.printerFactsAreInjectiveRow.wideKeys == (Tryz.f7.params.toList ++ Rows.printerFactsAreInjectiveSpec.plain.varTypes Tryz.prog ++ Tryz.f7.resultTypes.toList).any (Tryz.prog.wideKeysFrom ·)))=true:=by kernel_rfl
theorem xAZ:(Rows.printerFactsAreInjectiveSpec.vars.all (Tryz.prog.varReadable ·))=true:=by kernel_rfl
theorem xAY:(Tryz.f7.resultTypes.all (fun t=>Tryz.prog.readableRec t && decide (t<Tryz.prog.types.size)))=true:=by kernel_rfl
theorem xAX:((Rows.printerFactsAreInjectiveRow.ifacesOut == Tryz.f7.resultTypes.toList.any (Tryz.prog.ifacesRec ·)))=true:=by kernel_rfl
theorem xAW:((Rows.printerFactsAreInjectiveRow.loopsOut == Tryz.f7.resultTypes.toList.any (Tryz.prog.loopsFrom ·)))=true:=by kernel_rfl
theorem xAV:((Rows.printerFactsAreInjectiveRow.plainKeys == Tryz.prog.plainKeys))=true:=by kernel_rfl
theorem xAU:(Rows.printerFactsAreInjectiveRow.shortTexts.isNone)=true:=by kernel_rfl
theorem xAT:(Tryz.prog.stopsHeard)=true:=by kernel_rfl
theorem xAS:(Tryz.prog.mayEnter)=true:=by kernel_rfl
theorem xAR:((Rows.printerFactsAreInjectiveRow.lifted == Tryz.prog.liftsFinal))=true:=by kernel_rfl
theorem xAQ:((Tryz.prog.make == some Rows.printerFactsAreInjectiveRow.make))=true:=by kernel_rfl
theorem xAP:((Rows.printerFactsAreInjectiveRow.kinds == (if Rows.printerFactsAreInjectiveRow.domain.isEmpty then [] else Tryz.f7.params.toList.map fun t=>match Tryz.prog.underlying t with | some (.int k)=>some k | _=>none)))=true:=by kernel_rfl
theorem xAO:((Rows.printerFactsAreInjectiveRow.pinned == Rows.printerFactsAreInjectiveRow.pinnedBy))=true:=by kernel_rfl
theorem xAN:((Rows.printerFactsAreInjectiveRow.veiled == (Tryz.f7.params.toList ++ Rows.printerFactsAreInjectiveSpec.plain.varTypes Tryz.prog ++ Tryz.f7.resultTypes.toList).any (Tryz.prog.veiledRec ·)))=true:=by kernel_rfl
theorem xAM:(Rows.printerFactsAreInjectiveRow.veiledFits Tryz.prog Tryz.f7.params.toList (Tryz.f7.params.toList ++ Rows.printerFactsAreInjectiveSpec.plain.varTypes Tryz.prog ++ Tryz.f7.resultTypes.toList))=true:=by kernel_rfl
theorem xAK:joinedFacts Tryz.prog 7 Tryz.f7 Rows.printerFactsAreInjectiveSpec Rows.printerFactsAreInjectiveRow=true:=(xAD (xAD (xAD (xAD (xAD (xAD (xAD (xAD (xAD (xAD (xAD (xAD (xAD (xAD (xAD (xAD (xAD (xAD (xAD (xAD (xAD (xAD (xAD (xAD (xAD (xAD (xAD (xAD (xAD (xAD (xAD xBT xBS) xBR) xBQ) xBP) xBO) xBN) xBM) xBL) xBK) xBH) xBG) xBF) xBE) xBD) xBC) xBB) xBA) xAZ) xAY) xAX) xAW) xAV) xAU) xAT) xAS) xAR) xAQ) xAP) xAO) xAN) xAM)
end
section
open Go Go.ChangeShapes Go.WideShapes Go.ChangeAt Go.RowKit
theorem xAJ (os:Os) (started:os.Started) (H:Type) (enc:TypeId × Value->H):
 ReturnsInHanded {} Tryz.checked os 7 .any (fun w args=>(Rows.printerFactsAreInjectiveSpec.pre enc Tryz.prog Tryz.f7 [] false w args/\laidMetH Tryz.prog Rows.printerFactsAreInjectiveRow.laid w)/\sizedMet enc Tryz.prog Tryz.f7 (OpenSpec.ofChange Rows.printerFactsAreInjectiveSpec) false w args)
  (Rows.printerFactsAreInjectiveSpec.post enc Tryz.prog Tryz.f7 false true false false):=by
 refine returnsInHanded_of_change_and (C:=Tryz.checked) (X:=fun w _=>laidMetH Tryz.prog Rows.printerFactsAreInjectiveRow.laid w) (fun _ _ _ hh h=>h.of_heap hh) Tryz.own started (by kernel_rfl) Tryz.func7
  (ChangeSpec.witness_shaped (enc:=enc) (C:=Tryz.checked) (os:=os) (X:=fun w _=>laidMetH Tryz.prog Rows.printerFactsAreInjectiveRow.laid w) false (World.laidAll Tryz.prog os Rows.printerFactsAreInjectiveRow.laid) #[.agg #[.string ⟨#[]⟩,.slice none 0 0,.slice none 0 0,.slice none 0 0,.slice none 0 0,.int .i64 0,.slice none 0 0],.agg #[.slice none 0 0,.slice none 0 0,.slice none 0 0,.slice none 0 0,.slice none 0 0],.agg #[.slice none 0 0,.slice none 0 0,.slice none 0 0,.slice none 0 0,.slice none 0 0]] 8 (World.laidAll_os _ _ _) (World.shaped_of_ZipB (by kernel_rfl) (by kernel_rfl)) (by kernel_rfl) (by kernel_rfl) (by kernel_rfl)
    (by rw [MakeChecks.laidMetH_plain _ _ _ (by kernel_rfl)];exact laidMet_laidAll _ (by kernel_rfl) (by kernel_rfl))) ?_
 intro W base args ds gs before hval0 hW _ hwt hL _;have hval:∀(j:Nat) t v,Tryz.f7.params[j]?=some t->args[j]?=some v->Value.okWide Tryz.prog W .any base t v:=hval0;have hW':=hW;obtain ⟨p,q,hA0,hV,rfl,hfz,hnd⟩:=hW;have hA:DataW.TrodAll enc Tryz.prog W 0 (fun _=>true) true Tryz.f7.params.toList args.toList ds p:=hA0;rw [Tryz.params7] at hA hval;obtain ⟨v0,v1,v2,d0,d1,d2,p0,p1,p2,rfl,rfl,rfl,h0,h1,h2⟩:=trodAll_three hA;obtain ⟨rfl,rfl⟩:=trodVars_none hV;obtain ⟨bb,bh,rfl,hbd,hnm,hfb⟩:=rV (hval 0 _ v0 rfl rfl) h0;obtain ⟨hTT,hPP,hSS⟩:=yY hL;obtain ⟨ff,fh,rfl,hfc,hff⟩:=xDE (hval 1 _ v1 rfl rfl) h1;obtain ⟨gg,gh,rfl,hgc,hgf⟩:=xDE (hval 2 _ v2 rfl rfl) h2;clear hA0 hval0;refine (xGB bb ff gg bh fh gh W hTT hPP hSS hbd hfc hgc hnm hff hgf).mono fun e W' ⟨he,hb⟩=>?_
 exact ⟨_,he,vJ Tryz.laidOut rfl (by kernel_rfl) Tryz.underlying4 rfl (by rw [Tryz.params7];intro t ht;simp at ht;rcases ht with rfl | rfl | rfl <;> exact ⟨by kernel_rfl,of_decide_eq_true (by kernel_rfl)⟩) hW' hb⟩
theorem xAL:Rows.PrinterFactsAreInjectiveSaid:=
 OpenClaim.holds_of_wide 7 Tryz.f7 rfl rfl rfl rfl rfl rfl rfl ⟨rfl,rfl,rfl,rfl,rfl⟩ rfl rfl rfl rfl rfl (by kernel_rfl) Tryz.func7 xAK
  (of_decide_eq_true (by kernel_rfl)) (by unfold Func.isWrapper;first | (rw [bA (by decide +kernel)];kernel_rfl) | (rw [aZ (by decide +kernel)];exact ⟨rfl,rfl⟩))
  (fun os started H enc _=>xAJ os started H enc)
theorem PrinterFactsAreInjective_holds:Rows.PrinterFactsAreInjectiveCardSaid:=
 Claim7.holds_tied_plain_at .later [] [.data, .data, .data, .data, .listed, .data, .widerDeep, .widerDeep, .pinned] true (true, "2565a398a9c3f64ed2b3d35e70614e8afda13dca12037df6a6fb8dd6ed235492") false
  xAL (fun _ h=>by cases h) (by kernel_rfl) (fun _ h=>by cases h) printerFactsAreInjective_row_tie rfl ⟨rfl,rfl⟩ (by kernel_rfl) rfl
  (fun f fn hf hfn=>by
    obtain rfl:f=7:=Option.some.inj ((show Tryz.prog.funcNamed Rows.printerFactsAreInjectiveRow.func=some 7 by kernel_rfl).symm.trans hf) |>.symm;obtain rfl:fn=Tryz.f7:=(Option.some.inj (Tryz.func7.symm.trans hfn)).symm
    exact ⟨by kernel_rfl,fun j t ht=>by
     rw [Tryz.params7] at ht;have hm:t∈[28,39,39]:=(by simpa using Array.mem_of_getElem? ht);have hall:([28,39,39].all fun u=> !Tryz.prog.wantsStandIn u)=true:=by kernel_rfl
     exact (show Tryz.prog.wantsStandIn t=false by simpa using List.all_eq_true.1 hall t hm)⟩)
  (by kernel_rfl)
end
end Go.Proofs.YtmknfbfppmkcfaaGreatDoor
