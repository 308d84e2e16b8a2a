/-
  LivenessEnds: for every body the law answers true, and the argument reads as it did; the card of the row. Condition: the four listed variables hold at the start what the text of the program lays (the given tie; one is a table of the library, pinned by its name). (part 1)
-/
import Derived.Test.YtcfchohkmkilpaaGreatDoorLP0
import Derived.Test.YtcfchohkmkilpaaGreatDoorLP1
import Derived.Test.YtcfchohkmkilpaaGreatDoorLP2
import Derived.Test.YtcfchohkmkilpaaGreatDoorLP3
import Derived.Test.YtcfchohkmkilpaaGreatDoorLP4
import Derived.Test.YtcfchohkmkilpaaGreatDoorLP5
import Derived.Test.YtcfchohkmkilpaaGreatDoorLP6
import Derived.Test.YtcfchohkmkilpaaGreatDoorLP7
import Derived.Test.YtcfchohkmkilpaaGreatDoorLP8
import Derived.Test.YtcfchohkmkilpaaGreatDoorLP9
import Derived.Test.YtcfchohkmkilpaaGreatDoorLP10
import Derived.Test.YtcfchohkmkilpaaGreatDoorLP12
import Derived.Test.YtcfchohkmkilpaaGreatDoorLP13
import Derived.Test.YtcfchohkmkilpaaGreatDoorLP15
import Derived.Test.YtcfchohkmkilpaaGreatDoorLP16
import Derived.Test.YtcfchohkmkilpaaGreatDoorLP17
import Derived.Test.YtcfchohkmkilpaaGreatDoorLP19
import Derived.Test.YtcfchohkmkilpaaGreatDoorLP20
import Derived.Test.YtcfchohkmkilpaaGreatDoorLP21
import Derived.Test.YtcfchohkmkilpaaGreatDoorLP25
import Derived.Test.YtcfchohkmkilpaaGreatDoorLP26
import Derived.Test.YtcfchohkmkilpaaGreatDoorLP27
import Derived.Lib.Hide
import Derived.Below
import Derived.WalkSmall
import Derived.Laws.World
import Derived.Test.YtcfchohkmkilpaaGreatDoorProg
import Derived.WalkKit
import Derived.WalkSpells
import Derived.WalkLawsBesides
import Derived.Deep.RegionHeld3
import Derived.Deep.DeepFit
import Derived.Deep.QuietTactic
import Derived.BigQuiet
import Derived.OwnWalk
import Derived.Maps.AppendAt
import Derived.Deep.DeepCutAuto
import Derived.StillTailTactics
import Derived.RangeFuncNested
import Derived.RangeFuncBound
import Derived.RangeFuncCalls
import Derived.RangeFuncLeaves
import Derived.OwnWalkIn
import Derived.TacticsInMore
import Derived.LoopNIn
import Derived.LoopIn
import Derived.Shelf.Abstract
import Derived.OrdersHeld
import Derived.Deep.RegionHeld
import Derived.Test.YtcfchohkmkilpaaGreatDoorSg
import Derived.Maps.OwnSet
import Derived.Maps.OwnOps
import Derived.StringKeys
import Derived.Laws.MakeOwn
import Derived.Deep.LoopGhost
import Derived.WideKeyPair
import Derived.WideKeyArr
import Derived.Deep.MidRow
import Derived.Test.YtcfchohkmkilpaaGreatDoorSh
import Derived.Test.YtcfchohkmkilpaaGreatDoorSj
import Derived.Sort.OwnSortedInts
import Derived.Lib.SlKeysI
import Derived.RangeFuncBox
import Derived.Maps.RangeWalk
import Derived.Laws.AppendOwnNone
import Derived.Maps.OwnIn
import Derived.Test.YtcfchohkmkilpaaGreatDoorHV
import Derived.Test.YtcfchohkmkilpaaGreatDoorRows
import Derived.ProofKit
import Derived.Deep.Slices
import Derived.Deep.Fields
import Derived.Lib.SmallJoins
import Derived.OpenShut
import Derived.LaidMore
import Derived.Stop.Joined
import Derived.Stop.LaidErr
import Derived.Lay
import Derived.SevenTiedAt
import Derived.JoinedOf
import Derived.Test.YtcfchohkmkilpaaGreatDoorTie
import Derived.Test.YtcfchohkmkilpaaGreatDoorCards
import Derived.SizedLaws
namespace Go.Proofs.YtcfchohkmkilpaaGreatDoor
set_option maxRecDepth 100000
set_option maxHeartbeats 16000000
section
open Go Go.RowKit Go.Maps
theorem xGX (b:Bdy) (bh:BH) (w:World) (H:BdAt w b bh) (hc:cntB b.blocks<=1000000000000):
 Calls Tryz.prog 17 #[.agg (bdC b bh).toArray] w fun e' w'=>e' = .returned (.int .i64 (cntB b.blocks))/\Below w.heap.size w w':=
 (rcount_any' b bh w H).mono (by
   rintro e' w' ⟨⟨q,rfl,hq⟩,hb⟩;rw [fR] at hq
   exact ⟨by rw [hq.out (by omega)],hb⟩)
end
section
open Go Go.RowKit
theorem xGW {b:Bdy} {t:Trm} (h:tmE b t=0) (hk:t.kind=2\/t.kind=5):usT t=[]/\t.targets=[]:=by
 unfold tmE at h;split at h
 ·cases h
 split at h
 ·cases h
 rename_i h2;rw [Bool.not_eq_false] at h2;unfold fieldsT at h2;rw [aZ (by omega),aZ (by omega),aZ (by omega),aZ (by omega)] at h2;simp only [bP,decide_eq_true_eq] at h2;refine ⟨?_,bU h2.1.1.1⟩;unfold usT ifU;rw [bU h2.1.1.2,aZ (by omega)];rfl
theorem xGZ {b:Bdy} (h:chkB b=0) {i:Nat} {x:Blk} (hx:b.blocks[i]?=some x) (hk:x.term.kind=2\/x.term.kind=5) (y:Int):
 ¬Lv b.blocks y (stB b.blocks i+x.stmts.length:Nat)/\(0<x.stmts.length->(Lv b.blocks y (stB b.blocks i+x.stmts.length - 1:Nat)↔y∈usP b.blocks (stB b.blocks i+x.stmts.length - 1:Nat))):=by
 obtain ⟨_,_,h3⟩:=sL (qP (xS h) x (List.mem_of_getElem? hx));obtain ⟨e1,e2⟩:=xGW h3 hk;have hl:locB b.blocks (stB b.blocks i+x.stmts.length:Nat)=some (i,x.stmts.length):=eD.2 ⟨x,hx,aY _,rfl⟩
 have hn:¬Lv b.blocks y (stB b.blocks i+x.stmts.length:Nat):=fun hv=>by
  rcases Lv.iff.1 hv with hu | ⟨⟨q,hq,_⟩,_⟩
  ·rw [uR hl hx] at hu;unfold usB at hu;rw [cE (aY _)] at hu;simp only [e1] at hu;cases hu
  ·obtain ⟨i',k',x',g1,g2,g3⟩:=hq;rw [hl] at g1;injection g1 with g1
   injection g1 with g1 g4
   subst g1 g4;rw [hx] at g2;injection g2 with g2
   subst g2;rw [aZ (by omega),e2] at g3;obtain ⟨t,ht,_⟩:=g3;cases ht
 refine ⟨hn,fun h0=>?_⟩;have hl2:locB b.blocks (stB b.blocks i+x.stmts.length - 1:Nat)=some (i,x.stmts.length - 1):=eD.2 ⟨x,hx,by omega,by omega⟩;constructor
 ·intro hv;rcases Lv.iff.1 hv with hu | ⟨⟨q,hq,hq2⟩,_⟩
  ·exact hu
  ·obtain ⟨i',k',x',g1,g2,g3⟩:=hq;rw [hl2] at g1;injection g1 with g1
   injection g1 with g1 g4
   subst g1 g4;rw [hx] at g2;injection g2 with g2
   subst g2;rw [bA (by omega)] at g3;rw [show q=((stB b.blocks i+x.stmts.length:Nat):Int) by omega] at hq2;exact absurd hq2 hn
 ·exact .use
end
section
open Go Go.RowKit
theorem xFI {a b:Bool} (ha:a=true) (hb:b=true):(a && b)=true:=by rw [ha,hb];rfl
theorem xGS:(Rows.livenessEndsRow.wf (OpenSpec.ofChange Rows.livenessEndsSpec))=true:=by kernel_rfl
theorem xGR:(laidOutB Tryz.prog)=true:=by kernel_rfl
theorem xGQ:(mapsRowed Tryz.prog)=true:=by kernel_rfl
theorem xGP:(Tryz.f5.params.all (Tryz.prog.readableRec ·))=true:=by kernel_rfl
theorem xGO:(namedTie Tryz.prog Rows.livenessEndsRow.named Rows.livenessEndsSpec.vars)=true:=by kernel_rfl
theorem xGN:((Rows.livenessEndsRow.stops == []))=true:=by kernel_rfl
theorem xGM:((Tryz.prog.stops == []))=true:=by kernel_rfl
theorem xGL:((Rows.livenessEndsRow.knobs == []))=true:=by kernel_rfl
theorem xGK:((Tryz.prog.stopKnobs == []))=true:=by kernel_rfl
theorem xGJ:((Rows.livenessEndsRow.inPlace == Tryz.prog.inPlace 5))=true:=by kernel_rfl
theorem xGH:((Rows.livenessEndsRow.unfollowed == Tryz.prog.unfollowed 5))=true:=by kernel_rfl
theorem xGG:((Rows.livenessEndsRow.recurses == Tryz.prog.recurses 5))=true:=by kernel_rfl
theorem xGF:((Rows.livenessEndsRow.named == Tryz.prog.varsNamed 5))=true:=by kernel_rfl
theorem xGE:((Rows.livenessEndsRow.maps == (Tryz.f5.params.toList ++ Rows.livenessEndsSpec.plain.varTypes Tryz.prog).any (Tryz.prog.mapsRec ·)))=true:=by kernel_rfl
theorem xGD:((Rows.livenessEndsRow.ifaces == (Tryz.f5.params.toList ++ Rows.livenessEndsSpec.plain.varTypes Tryz.prog).any (Tryz.prog.ifacesRec ·)))=true:=by kernel_rfl
theorem xGC:((Rows.livenessEndsRow.mapsOut == Tryz.prog.mapsAmong Tryz.f5.resultTypes.toList))=true:=by kernel_rfl
theorem xGB:((Rows.livenessEndsRow.loops == (Tryz.f5.params.toList ++ Rows.livenessEndsSpec.plain.varTypes Tryz.prog).any (Tryz.prog.loopsFrom ·)))=true:=by kernel_rfl
theorem xGA:((Rows.livenessEndsRow.wideKeys == (Tryz.f5.params.toList ++ Rows.livenessEndsSpec.plain.varTypes Tryz.prog ++ Tryz.f5.resultTypes.toList).any (Tryz.prog.wideKeysFrom ·)))=true:=by kernel_rfl
theorem xFZ:(Rows.livenessEndsSpec.vars.all (Tryz.prog.varReadable ·))=true:=by kernel_rfl
theorem xFY:(Tryz.f5.resultTypes.all (fun t=>Tryz.prog.readableRec t && decide (t<Tryz.prog.types.size)))=true:=by kernel_rfl
theorem xFX:((Rows.livenessEndsRow.ifacesOut == Tryz.f5.resultTypes.toList.any (Tryz.prog.ifacesRec ·)))=true:=by kernel_rfl
theorem xFW:((Rows.livenessEndsRow.loopsOut == Tryz.f5.resultTypes.toList.any (Tryz.prog.loopsFrom ·)))=true:=by kernel_rfl
theorem xFV:((Rows.livenessEndsRow.plainKeys == Tryz.prog.plainKeys))=true:=by kernel_rfl
theorem xFU:(Rows.livenessEndsRow.shortTexts.isNone)=true:=by kernel_rfl
theorem xFT:(Tryz.prog.stopsHeard)=true:=by kernel_rfl
theorem xFS:(Tryz.prog.mayEnter)=true:=by kernel_rfl
theorem xFR:((Rows.livenessEndsRow.lifted == Tryz.prog.liftsFinal))=true:=by kernel_rfl
theorem xFQ:((Tryz.prog.make == some Rows.livenessEndsRow.make))=true:=by kernel_rfl
theorem xFP:((Rows.livenessEndsRow.kinds == (if Rows.livenessEndsRow.domain.isEmpty then [] else Tryz.f5.params.toList.map fun t=>match Tryz.prog.underlying t with | some (.int k)=>some k | _=>none)))=true:=by kernel_rfl
theorem xFO:((Rows.livenessEndsRow.pinned == Rows.livenessEndsRow.pinnedBy))=true:=by kernel_rfl
theorem xFN:((Rows.livenessEndsRow.veiled == (Tryz.f5.params.toList ++ Rows.livenessEndsSpec.plain.varTypes Tryz.prog ++ Tryz.f5.resultTypes.toList).any (Tryz.prog.veiledRec ·)))=true:=by kernel_rfl
theorem xFM:(Rows.livenessEndsRow.veiledFits Tryz.prog Tryz.f5.params.toList (Tryz.f5.params.toList ++ Rows.livenessEndsSpec.plain.varTypes Tryz.prog ++ Tryz.f5.resultTypes.toList))=true:=by kernel_rfl
theorem xFK:joinedFacts Tryz.prog 5 Tryz.f5 Rows.livenessEndsSpec Rows.livenessEndsRow=true:=(xFI (xFI (xFI (xFI (xFI (xFI (xFI (xFI (xFI (xFI (xFI (xFI (xFI (xFI (xFI (xFI (xFI (xFI (xFI (xFI (xFI (xFI (xFI (xFI (xFI (xFI (xFI (xFI (xFI (xFI (xFI xGS xGR) xGQ) xGP) xGO) xGN) xGM) xGL) xGK) xGJ) xGH) xGG) xGF) xGE) xGD) xGC) xGB) xGA) xFZ) xFY) xFX) xFW) xFV) xFU) xFT) xFS) xFR) xFQ) xFP) xFO) xFN) xFM)
end
section
open Go Go.RowKit
attribute [local irreducible] Calls
def locU (b:Bdy):List Int:=(List.range b.locals.length).map (fun (i:Nat)=>(i:Int))
theorem xGY {b:Bdy} {z:Int} (h:LocIn b z):z∈locU b:=by
 unfold LocIn at h;unfold locU;rw [List.mem_map];exact ⟨z.toNat,List.mem_range.2 (by omega),by omega⟩
theorem Ok12.targets {b:Bdy} (h:Ok12 b):∀x∈b.blocks,x.term.targets.length<=1000000000000:=fun x hx=>by
 have:=(xR h.chk).blks x hx;omega
theorem Ok12.uses {b:Bdy} (h:Ok12 b):∀p,∀z∈usP b.blocks p,z∈locU b/\Sml z:=fun _ _ hz=>⟨xGY (xEG h.chk hz),h.sml hz⟩
theorem Ok12.ulen {b:Bdy} (h:Ok12 b):(locU b).length<=1000:=by
 have:=h.loc;unfold locU;simp;omega
def LocQ (b:Bdy) (w:World) (e':Ending) (w':World):Prop:=∃A c ll,e' = .returned (.slice A ll.length c)/\ll.length=cntB b.blocks/\(∀(k:Nat) (l:List Int),ll[k]?=some l->Srt l (fun z=>Lv b.blocks z (k:Int)))/\Slc 1 (RSl 1 RInt) w' A c ll/\Below w.heap.size w w'
theorem xGT (b:Bdy) (bh:BH) (w:World) (H:BdAt w b bh) (h:Ok12 b):Calls Tryz.prog 21 #[.agg (bdC b bh).toArray] w (LocQ b w):=
 qA b bh w (locU b) H (by have:=h.cnt;omega) (by have:=h.ns.blk;omega) h.targets h.uses h.ulen
end
section
open Go Go.RowKit
attribute [local irreducible] Calls
theorem xGU {w:World} {A:Option Addr} {c:Nat} {ll:List (List Int)} (h:Slc 1 (RSl 1 RInt) w A c ll) {k:Nat} {l:List Int} (hk:ll[k]?=some l):∃g o P e,A=some ⟨g,o,none⟩/\w.cell? ⟨g,o+k,none⟩=some (.slice P l.length e)/\Slc 1 RInt w P e l:=by
 have hl:=(List.getElem?_eq_some_iff.1 hk).1;obtain ⟨g,o,rfl,_,hx⟩:=h.sl (by omega);obtain ⟨P,e,q1,q2,q3,q4⟩:=hx k l hk;rw [Nat.mul_one] at q1;exact ⟨g,o,P,e,rfl,q1,⟨q4,q2,q3⟩⟩
theorem xGI {n:Int} {t:Nat} (h:n=(t:Int)) (ht:t<=1000000000000):IntKind.i64.wrap n=(t:Int):=by
 rw [IntWalk.i64_left,h];unfold RowKit.wrap64;omega
theorem xGV (b:Bdy) (bh:BH) (w:World) (hT:TabsOk w) (H:BdAt w b bh) (hz:NmOk b):
 Calls Tryz.prog 5 #[.agg (bdC b bh).toArray] w fun e' w'=>e' = .returned (.bool true)/\Below w.heap.size w w':=by
 have HAL:=aF (fun (W:World) (hb:Below w.heap.size w W)=>qQ W (hT.keep hb));have HSK:=aF (fun (W:World) (hb:Below w.heap.size w W)=>oO b bh W (H.keep hb) hz);have HLO:=aF (fun (W:World) (hb:Below w.heap.size w W) (ho:Ok12 b)=>xGT b bh W (H.keep hb) ho);have HRC:=aF (fun (W:World) (hb:Below w.heap.size w W) (ho:Ok12 b)=>xGX b bh W (H.keep hb) (by have:=ho.cnt;omega));have HFI:=aF (fun (W:World) (hb:Below w.heap.size w W) (ho:Ok12 b) (k:Nat) (hk:k<=b.blocks.length)=>zQ b bh k W (H.keep hb) hk (by have:=ho.cnt;omega));have HRU:=aF (fun (W:World) (hb:Below w.heap.size w W) (ho:Ok12 b) (p:Nat) (hp:p<=1000)=>zL b bh (p:Int) W (H.keep hb) (by have:=ho.cnt;omega) (by omega) (fun z hz=>ho.sml hz));have HBLK:=aF H.blk;have hbl:=H.blk.le;have hbg:=H.blk.big;obtain ⟨A1,c1,A2,c2,A3,c3,A4,c4,A5,c5⟩:=bh;unfold bdC at *;simp only at *;obtain ⟨W0,hW0⟩:∃W,w.alloc (.cells ([Value.string b.name,.slice A1 b.regions.length c1,.slice A2 b.outl.length c2,.slice A3 b.types.length c3,.slice A4 b.locals.length c4,.int .i64 b.args,.slice A5 b.blocks.length c5]).toArray 28)=W:=⟨_,rfl⟩;have hb0:Below w.heap.size w W0:=by rw [<- hW0];exact (aX _ _).alloc (aY _) _
 have HB0:=aF hb0;have hcx:=cQ w [Value.string b.name,.slice A1 b.regions.length c1,.slice A2 b.outl.length c2,.slice A3 b.types.length c3,.slice A4 b.locals.length c4,.int .i64 b.args,.slice A5 b.blocks.length c5] 28;rw [hW0] at hcx;have HX:=aF (fun (W:World) (hb:Below W0.heap.size W0 W) i v h=>cO hb (hcx i v h));have hX:=hcx;obtain ⟨y0,y1,y2,y3,y4,y5,y6⟩:=aS hX;have hw0:w.heap.size<W0.heap.size:=cD _ _ y0;clear hX hcx hb0 hT H hz;go_enter Tryz.func5,Tryz.ntmps5
 go_wp2_with fail
 go_at_call 9
 refine (HSK.out W0 HB0.out).mono ?_;rintro e' w1 ⟨⟨q,rfl,hq⟩,hw1⟩;clear y0 y1 y2 y3 y4 y5 y6;have hX:=HX.out w1 hw1;obtain ⟨y0,y1,y2,y3,y4,y5,y6⟩:=aS hX;clear hX;have HW1:=aF hw1;have HB1:=aF (HB0.out.trans (hw1.mono HB0.out.size));clear hw1;by_cases hq0:0<q
 ·clear hq;go_wp2_with (go_at_call 10;refine (HAL.out _ HB1.out).mono ?_;rintro e' w2 ⟨rfl,hw2⟩)
  go_ret;exact ⟨rfl,HB1.out.trans (hw2.mono HB1.out.size)⟩
 ·have HOK:=aF (hq (by omega));clear hq;obtain ⟨n,hn⟩:∃n,cntB b.blocks=n:=⟨_,rfl⟩;have HNE:=aF hn;rw [hn] at HRC;clear hn
  go_wp2_with (first
   | (go_at_call 17;refine (HRC.out _ HB2.out HOK.out).mono ?_;rintro e' w3 ⟨rfl,hw3⟩;have HB3:=aF (HB2.out.trans (hw3.mono HB2.out.size));have HW3:=aF (HW2.out.trans (hw3.mono HW2.out.size));have H3:=aF (H2.out.keep (RSl.keeps RInt.keeps) hw3);clear y0 y1 y2 y3 y4 y5 y6 hw3;have hX:=HX.out w3 HW3.out;obtain ⟨y0,y1,y2,y3,y4,y5,y6⟩:=aS hX;clear hX)
   | (go_at_call 21;refine (HLO.out _ HB1.out HOK.out).mono ?_;rintro e' w2 ⟨A6,c6,ll,rfl,l1,l2,h6,hw2⟩;rw [HNE.out] at l1;have L2:=aF l2;have H2:=aF h6;have n6:=h6.le;have n7:=h6.big;have HB2:=aF (HB1.out.trans (hw2.mono HB1.out.size));have HW2:=aF (HW1.out.trans (hw2.mono HW1.out.size));clear y0 y1 y2 y3 y4 y5 y6 l2 h6 hw2;have hX:=HX.out w2 HW2.out;obtain ⟨y0,y1,y2,y3,y4,y5,y6⟩:=aS hX;clear hX))
  go_loopw [2,4,5,6,7,22] (fun _ _ _ _ _ i wr=>∃k:Nat,i = .int .i64 k/\k<=b.blocks.length/\Hid (Below w3.heap.size w3 wr)) (fun _ _ _ _ _ i _=>b.blocks.length - (intOf i).toNat)
  case atStart=>exact ⟨0,rfl,by omega,aF (aX _ _)⟩
  case round=>
  clear y0 y1 y2 y3 y4 y5 y6;obtain ⟨k,rfl,hk,HB⟩:=hrel;have HWr:=aF (HW3.out.trans (HB.out.mono HW3.out.size));have HBr:=aF (HB3.out.trans (HB.out.mono HB3.out.size));have hX:=HX.out wr HWr.out;obtain ⟨y0,y1,y2,y3,y4,y5,y6⟩:=aS hX;clear hX;have hwr:w.heap.size<wr.heap.size:=cD _ _ y0;by_cases hlt:k<b.blocks.length
  case neg=>
   go_wp2_with (go_at_call 10;refine (HAL.out _ HBr.out).mono ?_;rintro e' w4 ⟨rfl,hw4⟩)
   go_ret;exact ⟨rfl,HBr.out.trans (hw4.mono HBr.out.size)⟩
  case pos=>
  obtain ⟨xb,xo,hXA,hxb,hxx⟩:=(HBLK.out.keep RBk.keeps HBr.out).sl.at_ hlt;obtain ⟨D1,d1,D2,d2,D3,d3,D4,d4,p0,p1,p2,p3,p4,p5,p6,hs1,-⟩:=eV hxx;have hxk:=bD hlt;have HXK:=aF hxk;have n8:=hs1.le;have n9:=hs1.big;have hcn:=jN hxk;rw [HNE.out] at hcn;have HEND:=aF (fun hk y=>xGZ HOK.out.chk hxk hk y);have HFK:=aF (fun W hb=>HFI.out W hb HOK.out k (by omega));clear hxx hs1 hxk;generalize b.blocks[k]=x at *;obtain ⟨s0,hs0⟩:∃s0,stB b.blocks k=s0:=⟨_,rfl⟩;rw [hs0] at HFK HEND hcn;clear hs0;obtain ⟨m,hm⟩:∃m,x.stmts.length=m:=⟨_,rfl⟩;rw [hm] at p0 HEND hcn n8;clear hm;rw [hXA] at y6 HFK HRU ⊢;generalize x.term.kind=kd at *;by_cases hkd:kd=2\/kd=5
  case neg=>
   have e2:(kd != 2)=true:=by simp;omega
   have e5:(kd != 5)=true:=by simp;omega
   go_wp2_with fail
   go_roundw
   case rel=>exact ⟨k+1,by go_num,by omega,aF (HB.out.alloc HB.out.size _)⟩
   case measure=>simp [intOf];omega
  case pos=>
  have hn60:n<=60:=by have:=HOK.out.cnt;rw [HNE.out] at this;exact this
  have hend:=HEND.out hkd;obtain ⟨tt,htt⟩:∃tt,s0+m=tt:=⟨_,rfl⟩;rw [htt] at hend hcn;have hlk:=bD (show tt<ll.length by omega);have hs2:=L2.out tt _ hlk;have hr2:=xGU (H3.out.keep (RSl.keeps RInt.keeps) HB.out) hlk;have hnil:=hs2.empty (fun z=>(hend z).1);rw [hnil] at hr2;obtain ⟨lg,lo,P2,e2,rfl,q2,-⟩:=hr2;have hti:(s0:Int)+(m:Int)=(tt:Int):=by omega
  have HTI:=aF htt;have HEN:=aF (fun y=>(hend y).2);have hw1:=xGI hti (by omega);clear hend hlk hs2 hnil htt;have hal:=fun kd=>alF wr (.cells #[.slice D1 m d1,.int .i64 kd,.slice D2 x.term.targets.length d2,.slice D3 x.term.args.length d3,.int .i64 x.term.place.loc,.slice D4 x.term.place.proj.length d4,.string x.term.name] 55)
  have HAW:=aF hal;have HQ2:=aF q2;clear hal
  have hkk:(kd != 2)=false\/((kd != 2)=true/\(kd != 5)=false):=by
   rcases hkd with rfl | rfl
   ·exact .inl (by decide)
   ·exact .inr ⟨by decide,by decide⟩
  clear hkd;by_cases hm0:0<m
  case neg=>
   have hmz:m=0:=by omega
   subst hmz;obtain rfl:tt=s0:=by have:=HTI.out;omega
   rcases hkk with ek2 | ⟨ek2,ek5⟩
   all_goals
    go_wp2_with (go_at_call 22;refine (HFK.out _ (HBr.out.alloc HBr.out.size _)).mono ?_;rintro e' w4 ⟨rfl,hw4⟩;have z0:=cO hw4 (cQ wr [.slice D1 0 d1,.int .i64 kd,.slice D2 x.term.targets.length d2,.slice D3 x.term.args.length d3,.int .i64 x.term.place.loc,.slice D4 x.term.place.proj.length d4,.string x.term.name] 55 0 _ rfl);have HM4:=aF (((HAW.out kd).trans (hw4.mono (by simp))));have q4:=cO HM4.out HQ2.out;have HB4:=aF (HB.out.trans (HM4.out.mono HB.out.size));clear y0 y1 y2 y3 y4 y5 y6 q2 hw4)
    have hS:(fun _:World=>True) w4.drew:=trivial;refine cT (S:=fun _=>True) [0,1,2,3,4,5,6,7,8,9,10,11,12,13,14,15,16,17,18] (by kernel_rfl) ?_;(iterate 3 (refine cR (v:=?_) ?_ hS ?_;rotate_left;(next=>(rintro X -;(try simp only [aI]);go_simp;rfl));simp only [aM]));(iterate 15 (refine dA (v:=undef) (by kernel_rfl) (fun _ _ _ h=>h) (Or.inr ⟨by rfl,rfl⟩) hS ?_;simp only [aM]));((refine cR (v:=?_) ?_ hS ?_;rotate_left;(next=>(rintro X -;(try simp only [aI]);go_simp;rfl));simp only [aM]))
    refine cZ ?_;go_wp2_with fail
    go_roundw
    case rel=>exact ⟨k+1,by go_num,by omega,aF (HB4.out.drew)⟩
    case measure=>simp [intOf];omega
  case pos=>
   obtain ⟨t1,ht1⟩:∃t1,tt - 1=t1:=⟨_,rfl⟩;have ht1i:(tt:Int) - 1=(t1:Int):=by have:=HTI.out;omega
   have hw2:=xGI ht1i (by omega);have hw0:=xGI (n:=(tt:Int)) rfl (by omega);have hl1:=bD (show t1<ll.length by omega);have hs1:Srt ll[t1] (fun y=>y∈usP b.blocks (t1:Int)):=(L2.out t1 _ hl1).iff (fun y=>by have:=HEN.out y hm0;rw [ht1] at this;exact this);have hr1:=xGU (H3.out.keep (RSl.keeps RInt.keeps) HB.out) hl1;have hin:Srt (insL [] (usP b.blocks (t1:Int))) (fun z=>z∈usP b.blocks (t1:Int)):=(rW srt_nil _).iff (fun z=>by simp);have HEQ:=aF (hs1.uniq hin);obtain ⟨lg',lo',P1,e1,hPA,q1,h1⟩:=hr1;injection hPA with hPA
   injection hPA with hP1 hP2
   subst hP1 hP2;generalize ll[t1]=l1' at *;have HQ1:=aF q1;have HL1:=aF h1;have ht1n:(t1:Int)<(n:Int):=by omega
   have HRT:=aF (fun W hb=>HRU.out W hb HOK.out t1 (by omega));clear hl1 hs1 hin h1 ht1 ht1i q1 HEN;rcases hkk with ek2 | ⟨ek2,ek5⟩
   all_goals
    go_wp2_with (go_at_call 22;refine (HFK.out _ (HBr.out.alloc HBr.out.size _)).mono ?_;rintro e' w4 ⟨rfl,hw4⟩;have z0:=cO hw4 (cQ wr [.slice D1 m d1,.int .i64 kd,.slice D2 x.term.targets.length d2,.slice D3 x.term.args.length d3,.int .i64 x.term.place.loc,.slice D4 x.term.place.proj.length d4,.string x.term.name] 55 0 _ rfl);have HM4:=aF (((HAW.out kd).trans (hw4.mono (by simp))));have q4:=cO HM4.out HQ2.out;have HB4:=aF (HB.out.trans (HM4.out.mono HB.out.size));clear y0 y1 y2 y3 y4 y5 y6 q2 hw4)
    have hS:Below w4.heap.size w4 w4.drew:=(aX _ _).drew;have HWX:=aF (HWr.out.trans (HM4.out.mono HWr.out.size));have HBX:=aF (HBr.out.trans (HM4.out.mono HBr.out.size));have HQX:=aF (cO HM4.out HQ1.out);have HLX:=aF (HL1.out.keep RInt.keeps HM4.out);refine cT (S:=fun X=>Below w4.heap.size w4 X) [0,1,2,3,4,5,6,7,8,9,10,11,12,13,14,15,16,17,18] (by kernel_rfl) ?_;(iterate 15 (refine cR (v:=?_) ?_ hS ?_;rotate_left;(next=>(rintro X hx;have hX:=HX.out X (HWX.out.trans (hx.mono HWX.out.size));obtain ⟨y0,y1,y2,y3,y4,y5,y6⟩:=aS hX;have r1:=cO hx HQX.out;(try simp only [aI]);go_simp;rfl));simp only [aM]));(refine cY (fun K1 hK1=>?_);simp only [aM];rw [bA (by rfl)];go_simp);refine (HRT.out _ (HBX.out.drew)).mono ?_;rintro e' w6 ⟨A7,c7,rfl,h7,hw6⟩;have hS6:=hS.trans (hw6.mono hS.size);refine hK1.out _ _ (fun _=>hS6) ?_;have h6':=HLX.out.keep RInt.keeps hS6;(refine cY (fun K1 hK1=>?_);simp only [aM];rw [bA (by rfl)];go_simp);refine (kL P1 A7 e1 c7 l1' _ _ h6' h7).mono ?_;rintro e' w8 ⟨rfl,q8,hq8⟩;rw [decide_eq_true HEQ.out];have hS8:Below w4.heap.size w4 w8:=by rw [hq8];exact aG hS6 _
    clear hq8;refine hK1.out _ _ (fun _=>hS8) ?_;clear hS;have hS:=hS8;(iterate 2 (refine cR (v:=?_) ?_ hS ?_;rotate_left;(next=>(rintro X -;(try simp only [aI]);go_simp;rfl));simp only [aM]));refine cZ ?_;go_wp2_with fail
    go_roundw
    case rel=>exact ⟨k+1,by go_num,by omega,aF (HB4.out.trans (hS8.mono HB4.out.size))⟩
    case measure=>simp [intOf];omega
end
section
open Go Go.ChangeShapes Go.WideShapes Go.ChangeAt Go.RowKit
theorem xFJ (os:Os) (started:os.Started) (H:Type) (enc:TypeId × Value->H):
 ReturnsInHanded {} Tryz.checked os 5 .any (fun w args=>(Rows.livenessEndsSpec.pre enc Tryz.prog Tryz.f5 [] false w args/\laidMetH Tryz.prog Rows.livenessEndsRow.laid w)/\sizedMet enc Tryz.prog Tryz.f5 (OpenSpec.ofChange Rows.livenessEndsSpec) false w args)
  (Rows.livenessEndsSpec.post enc Tryz.prog Tryz.f5 false true false false):=by
 refine returnsInHanded_of_change_and (C:=Tryz.checked) (X:=fun w _=>laidMetH Tryz.prog Rows.livenessEndsRow.laid w) (fun _ _ _ hh h=>h.of_heap hh) Tryz.own started (by kernel_rfl) Tryz.func5
  (ChangeSpec.witness_shaped (enc:=enc) (C:=Tryz.checked) (os:=os) (X:=fun w _=>laidMetH Tryz.prog Rows.livenessEndsRow.laid w) false (World.laidAll Tryz.prog os Rows.livenessEndsRow.laid) #[.agg #[.string ⟨#[]⟩,.slice none 0 0,.slice none 0 0,.slice none 0 0,.slice none 0 0,.int .i64 0,.slice none 0 0]] 8 (World.laidAll_os _ _ _) (World.shaped_of_ZipB (by kernel_rfl) (by kernel_rfl)) (by kernel_rfl) (by kernel_rfl) (by kernel_rfl)
    (by rw [MakeChecks.laidMetH_plain _ _ _ (by kernel_rfl)];exact laidMet_laidAll _ (by kernel_rfl) (by kernel_rfl))) ?_
 intro W base args ds gs before hval0 hW _ hwt hL _;have hval:∀(j:Nat) t v,Tryz.f5.params[j]?=some t->args[j]?=some v->Value.okWide Tryz.prog W .any base t v:=hval0;have hW':=hW;obtain ⟨p,q,hA0,hV,rfl,hfz,hnd⟩:=hW;have hA:DataW.TrodAll enc Tryz.prog W 0 (fun _=>true) true Tryz.f5.params.toList args.toList ds p:=hA0;rw [Tryz.params5] at hA hval;obtain ⟨v0,d0,rfl,rfl,h0⟩:=trodAll_one hA;obtain ⟨rfl,rfl⟩:=trodVars_none hV;obtain ⟨bb,bh,rfl,hbd,hnm⟩:=wI (hval 0 _ v0 rfl rfl) h0;have hTT:=xEF hL;clear hA0 hval0;refine (xGV bb bh W hTT hbd hnm).mono fun e W' ⟨he,hb⟩=>?_
 exact ⟨_,he,xAN Tryz.laidOut rfl (by kernel_rfl) Tryz.underlying4 rfl (by rw [Tryz.params5];intro t ht;simp at ht;subst ht;exact ⟨by kernel_rfl,of_decide_eq_true (by kernel_rfl)⟩) hW' hb⟩
theorem xFL:Rows.LivenessEndsSaid:=
 OpenClaim.holds_of_wide 5 Tryz.f5 rfl rfl rfl rfl rfl rfl rfl ⟨rfl,rfl,rfl,rfl,rfl⟩ rfl rfl rfl rfl rfl (by kernel_rfl) Tryz.func5 xFK
  (of_decide_eq_true (by kernel_rfl)) (by unfold Func.isWrapper;first | (rw [bA (by decide +kernel)];kernel_rfl) | (rw [aZ (by decide +kernel)];exact ⟨rfl,rfl⟩))
  (fun os started H enc _=>xFJ os started H enc)
theorem LivenessEnds_holds:Rows.LivenessEndsCardSaid:=
 Claim7.holds_tied_plain_at .later [] [.data, .widerDeep, .widerDeep, .pinned] true (true, "c508f7b79725eb36423e68c36a915c820725776de7feaa7e39e53a602ed9389b") false
  xFL (fun _ h=>by cases h) (by kernel_rfl) (fun _ h=>by cases h) livenessEnds_row_tie rfl ⟨rfl,rfl⟩ (by kernel_rfl) rfl
  (fun f fn hf hfn=>by
    obtain rfl:f=5:=Option.some.inj ((show Tryz.prog.funcNamed Rows.livenessEndsRow.func=some 5 by kernel_rfl).symm.trans hf) |>.symm;obtain rfl:fn=Tryz.f5:=(Option.some.inj (Tryz.func5.symm.trans hfn)).symm
    exact ⟨by kernel_rfl,fun j t ht=>by
     rw [Tryz.params5] at ht;have hm:t∈[28]:=(by simpa using Array.mem_of_getElem? ht);have hall:([28].all fun u=> !Tryz.prog.wantsStandIn u)=true:=by kernel_rfl
     exact (show Tryz.prog.wantsStandIn t=false by simpa using List.all_eq_true.1 hall t hm)⟩)
  (by kernel_rfl)
end
end Go.Proofs.YtcfchohkmkilpaaGreatDoor
