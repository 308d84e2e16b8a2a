/-
  BindeclRoundTrip: a statement of Bindecl (part 3)
-/
import Derived.Test.YtbnljlpefpllcaaGreatDoorNR2
import Derived.Lib.Hide
import Derived.Below
import Derived.WalkSmall
import Derived.Laws.World
import Derived.Test.YtbnljlpefpllcaaGreatDoorProg
import Derived.WalkKit
import Derived.WalkSpells
import Derived.WalkLawsBesides
import Derived.Deep.RegionHeld3
import Derived.Deep.DeepFit
import Derived.Deep.QuietTactic
import Derived.BigQuiet
import Derived.OwnWalk
import Derived.Maps.AppendAt
import Derived.Deep.DeepCutAuto
import Derived.StillTailTactics
import Derived.RangeFuncNested
import Derived.RangeFuncBound
import Derived.RangeFuncCalls
import Derived.RangeFuncLeaves
import Derived.OwnWalkIn
import Derived.TacticsInMore
import Derived.LoopNIn
import Derived.LoopIn
import Derived.Laws.Bits64b
import Derived.Shelf.Abstract
import Derived.OrdersHeld
import Derived.Deep.RegionHeld
import Derived.Lib.SliceRun
import Derived.Test.YtbnljlpefpllcaaGreatDoorSg
import Derived.Deep.AppendSrc
import Derived.Maps.OwnSet
import Derived.Maps.OwnOps
import Derived.StringKeys
import Derived.Laws.MathBits
import Derived.Test.YtbnljlpefpllcaaGreatDoorSh
import Derived.WideKeyPair
import Derived.WideKeyArr
import Derived.Deep.MidRow
import Derived.Lib.SlicesCompact
import Derived.Sort.Walk0
import Derived.Deep.LoopGhost
import Derived.ChangeKeysEq
import Derived.Sort.OwnSorted
import Derived.Test.YtbnljlpefpllcaaGreatDoorRows
import Derived.ProofKit
import Derived.Deep.Slices
import Derived.Deep.Fields
import Derived.Lib.SmallJoins
import Derived.OpenShut
import Derived.LaidMore
import Derived.Stop.Joined
import Derived.Stop.LaidErr
import Derived.Lay
import Derived.SevenTiedAt
import Derived.JoinedOf
import Derived.Test.YtbnljlpefpllcaaGreatDoorTie
import Derived.Test.YtbnljlpefpllcaaGreatDoorCards
import Derived.SizedLaws
namespace Go.Proofs.YtbnljlpefpllcaaGreatDoor
set_option maxRecDepth 100000
set_option maxHeartbeats 16000000
section
open Go Go.RowKit
def Lit2 (b:Bdy) (er:Int) (w:World) (e':Ending) (w':World):Prop:=
 ∃A1 a1 A2 a2 A3 a3 A4 a4 A5 a5,e' = .returned (.tuple #[.agg #[.string b.name,.slice A1 b.regions.length a1,.slice A2 b.outl.length a2,.slice A3 b.types.length a3,.slice A4 b.locals.length a4,.int .i64 b.args,.slice A5 b.blocks.length a5],.int .i64 er])∧BdAt w' b ⟨A1,a1,A2,a2,A3,a3,A4,a4,A5,a5⟩∧Below w.heap.size w w'
theorem Lit2.of {b:Bdy} {er:Int} {w:World} (e':Ending) (w':World) (h:∃bh,e' = .returned (.tuple #[.agg (bdC b bh).toArray,.int .i64 er])∧BdAt w' b bh∧Below w.heap.size w w'):Lit2 b er w e' w':=by
 obtain ⟨⟨A1,a1,A2,a2,A3,a3,A4,a4,A5,a5⟩,h1,h2,h3⟩:=h
 exact ⟨A1,a1,A2,a2,A3,a3,A4,a4,A5,a5,h1,h2,h3⟩
theorem xKJ {t:List ByteArray} {b:Bdy} (hc:chkB b=0) (hg:DGood t b):encR t b=(0,declW t b):=by
 unfold encR
 rw [aY hc,aY (wR hg),xDN hg]
theorem xKC (b:Bdy) (bh:BH) (w:World) (hT:TabsOk w) (H:BdAt w b bh) (hz:NmOk b):
 Calls Tryz.prog 5 #[.agg (bdC b bh).toArray] w (fun e' w'=>e' = .returned (.bool true)∧Below w.heap.size w w'):=by
 obtain ⟨A1,c1,A2,c2,A3,c3,A4,c4,A5,c5⟩:=bh
 obtain ⟨W,hW⟩:∃W,w.alloc (.cells #[Value.string b.name,.slice A1 b.regions.length c1,.slice A2 b.outl.length c2,.slice A3 b.types.length c3,.slice A4 b.locals.length c4,.int .i64 b.args,.slice A5 b.blocks.length c5] 28)=W:=⟨_,rfl⟩
 have hbw:Below w.heap.size w W:=by rw [← hW];exact alF _ _
 have hlW:w.heap.size<W.heap.size:=by rw [← hW];simp
 have HCC:Hid (aA (bdM b A1 c1 A2 c2 A3 c3 A4 c4 A5 c5 []) W w.heap.size):=aF (by rw [← hW];exact cW w [Value.string b.name,.slice A1 b.regions.length c1,.slice A2 b.outl.length c2,.slice A3 b.types.length c3,.slice A4 b.locals.length c4,.int .i64 b.args,.slice A5 b.blocks.length c5] 28)
 have HB:=aF hbw
 have HT:=aF (fun W' hb=>hT.keep (w':=W') hb)
 have HZ:=aF hz
 have HH:=aF H
 have HL:=aF (fun W' hb=>xAS W' (hT.keep hb))
 have HS:Hid (∀W',Below w.heap.size w W'→Calls Tryz.prog 9 #[.agg #[Value.string b.name,.slice A1 b.regions.length c1,.slice A2 b.outl.length c2,.slice A3 b.types.length c3,.slice A4 b.locals.length c4,.int .i64 b.args,.slice A5 b.blocks.length c5]] W' fun e' w'=>(∃q:Int,e' = .returned (.int .i64 q)∧(q≤0→NotSkip b))∧Below W'.heap.size W' w'):=aF (fun W' hb=>xBV b ⟨A1,c1,A2,c2,A3,c3,A4,c4,A5,c5⟩ W' (H.keep hb) hz)
 have HK:Hid (∀W',Below w.heap.size w W'→Calls Tryz.prog 17 #[.agg #[Value.string b.name,.slice A1 b.regions.length c1,.slice A2 b.outl.length c2,.slice A3 b.types.length c3,.slice A4 b.locals.length c4,.int .i64 b.args,.slice A5 b.blocks.length c5]] W' fun e' w'=>e' = .returned (.int .i64 (chkB b))∧Below W'.heap.size W' w'):=aF (fun W' hb=>rY b ⟨A1,c1,A2,c2,A3,c3,A4,c4,A5,c5⟩ W' (H.keep hb) hz)
 clear hT H hz hbw
 unfold bdC
 simp only
 obtain ⟨y0,y1,y2,y3,y4,y5,y6⟩:=aQ HCC.out
 change Calls _ _ #[.agg #[Value.string b.name,.slice A1 b.regions.length c1,.slice A2 b.outl.length c2,.slice A3 b.types.length c3,.slice A4 b.locals.length c4,.int .i64 b.args,.slice A5 b.blocks.length c5]] _ _
 go_enter Tryz.func5,Tryz.ntmps5
 go_wp2_with fail
 go_at_call 9
 refine (HS.out W HB.out).mono ?_
 rintro e' w1 ⟨⟨q,rfl,hq⟩,hb1⟩
 replace HCC:=aF (cells_kept HCC.out hb1)
 replace HB:=aF (keep0 hb1 HB.out)
 have hlw:w.heap.size<w1.heap.size:=bN hlW hb1.size
 have HQ:=aF hq
 clear hb1 HS hq
 clear y0 y1 y2 y3 y4 y5 y6
 by_cases hq0:0<q
 ·go_wp2_with fail
  go_at_call 10
  refine (HL.out w1 HB.out).mono ?_
  rintro e' w3 ⟨rfl,hb3⟩
  have HB3:=aF (keep0 hb3 HB.out)
  clear hb3
  go_wp2_with fail
  go_ret
  exact ⟨rfl,HB3.out⟩
 have hq1:q≤0:=by omega
 have HNS:=aF (HQ.out hq1)
 clear HQ
 obtain ⟨y0,y1,y2,y3,y4,y5,y6⟩:=aQ HCC.out
 go_wp2_with fail
 go_at_call 17
 refine (HK.out w1 HB.out).mono ?_
 rintro e' w2 ⟨rfl,hb2⟩
 replace HCC:=aF (cells_kept HCC.out hb2)
 replace HB:=aF (keep0 hb2 HB.out)
 have hlw2:w.heap.size<w2.heap.size:=bN hlw hb2.size
 clear hb2 HK
 clear y0 y1 y2 y3 y4 y5 y6
 by_cases hc:chkB b=0
 case neg=>
  generalize chkB b=ch at *
  have e1:(ch != 0)=true:=by simp [hc]
  clear hc
  go_wp2_with fail
  go_at_call 10
  refine (HL.out w2 HB.out).mono ?_
  rintro e' w3 ⟨rfl,hb3⟩
  have HB3:=aF (keep0 hb3 HB.out)
  clear hb3
  go_wp2_with fail
  go_ret
  exact ⟨rfl,HB3.out⟩
 have hnz:=HNS.out.nm (rA hc)
 have HDC:=aF (iB hc)
 have HCH:=aF hc
 have HLEN:Hid (∀t,(declW t b).length≤1000000):=aF (fun t=>xDL hnz)
 have HSUM:Hid (sumN (tabB [] (allN b))≤8000):=aF (xKG hnz)
 have HIDN:Hid (∀s∈tabB [] (allN b),isIdent s=true):=aF (xJK hc)
 have hD:=dY (iB hc)
 have HN:Hid (∀W',Below w.heap.size w W'→Calls Tryz.prog 18 #[.agg #[Value.string b.name,.slice A1 b.regions.length c1,.slice A2 b.outl.length c2,.slice A3 b.types.length c3,.slice A4 b.locals.length c4,.int .i64 b.args,.slice A5 b.blocks.length c5]] W' fun e' w'=>(∃A c,e' = .returned (.slice A (tabB [] (allN b)).length c)∧Slc 1 RN w' A c (tabB [] (allN b)))∧Below W'.heap.size W' w'):=aF (fun W' hb=>xJT b ⟨A1,c1,A2,c2,A3,c3,A4,c4,A5,c5⟩ W' (HH.out.keep hb) (by have:=hD.nreg;omega) (by have:=hD.nloc;omega) (by have:=HNS.out.blk;omega))
 rw [hc]
 clear hD hnz hc HNS
 obtain ⟨y0,y1,y2,y3,y4,y5,y6⟩:=aQ HCC.out
 go_wp2_with fail
 go_at_call 18
 refine (HN.out w2 HB.out).mono ?_
 rintro e' w3 ⟨⟨C,d,rfl,hs3⟩,hb3⟩
 replace HCC:=aF (cells_kept HCC.out hb3)
 replace HB:=aF (keep0 hb3 HB.out)
 have HS3:=aF hs3
 clear hb3 hs3 HN
 clear y0 y1 y2 y3 y4 y5 y6
 obtain ⟨nms,hnm⟩:∃l,tabB [] (allN b)=l:=⟨_,rfl⟩
 have HMEM:Hid (∀s∈allN b,s∈nms):=aF (fun s hs=>by rw [← hnm];exact (xJC _ _).2 hs)
 rw [hnm] at HS3 HSUM HIDN ⊢
 clear hnm
 go_wp2_with fail
 go_at_call 8
 refine (uY nms C d w3 HS3.out).mono ?_
 rintro e' w4 ⟨hb4,h4⟩
 replace HCC:=aF (cells_kept HCC.out hb4)
 replace HB:=aF (keep0 hb4 HB.out)
 clear hb4
 rcases h4 with ⟨rfl,h4⟩ | ⟨_,hxl,t,B1,d1,T,d2,rfl,ht,-,-⟩
 ·exfalso
  rcases h4 with h4 | ⟨s,hs,h4⟩
  ·have:=HSUM.out;omega
  ·have:=HIDN.out s hs;rw [h4] at this;cases this
 have htl:=xGQ hxl
 have HTM:Hid (∀s∈allN b,s∈tabB [] nms):=aF (fun s hs=>(xJC _ _).2 (HMEM.out s hs))
 have hsrt:=kP nms
 generalize tabB [] nms=tbl at *
 have HGD:=aF (xKA HDC.out (by omega) HTM.out)
 have HTT:=aF ht
 have HP:Hid (Calls Tryz.prog 11 #[.agg #[Value.string b.name,.slice A1 b.regions.length c1,.slice A2 b.outl.length c2,.slice A3 b.types.length c3,.slice A4 b.locals.length c4,.int .i64 b.args,.slice A5 b.blocks.length c5],.pointer (some ⟨t,0,none⟩)] w4 (uQ (0,declW tbl b) w4)):=aF (by
  have h:=(lB b ⟨A1,c1,A2,c2,A3,c3,A4,c4,A5,c5⟩ t B1 d1 tbl w4 (HH.out.keep HB.out) (HT.out _ HB.out) ht hsrt (by omega) (fun _=>by rw [xDN HGD.out];exact HLEN.out tbl)).mono (fun _ _=>EncPost.res)
  rw [xKJ HCH.out HGD.out] at h
  exact h)
 have HDI:=aF (xKF HGD.out)
 have HLN:=aF (HLEN.out tbl)
 clear ht hsrt hxl HSUM HIDN HMEM HTM HLEN HS3
 obtain ⟨y0,y1,y2,y3,y4,y5,y6⟩:=aQ HCC.out
 go_wp2_with fail
 go_at_call 11
 refine HP.out.mono ?_
 rintro e' w5 ⟨P,p,rfl,hs5,hb5⟩
 simp only at hs5 ⊢
 have HD5:=aF ((sE (declW tbl b) P p t B1 d1 tbl w5 hs5 HLN.out (HTT.out.keep hb5)).mono Lit2.of)
 rw [HDI.out] at HD5
 replace HCC:=aF (cells_kept HCC.out hb5)
 replace HB:=aF (keep0 hb5 HB.out)
 clear hb5 hs5 HP HTT HDI HLN HGD
 clear y0 y1 y2 y3 y4 y5 y6
 generalize declW tbl b=out at *
 go_wp2_with fail
 go_at_call 14
 refine HD5.out.mono ?_
 rintro e' w6 ⟨E1,e1,E2,e2,E3,e3,E4,e4,E5,e5,rfl,hbd,hb6⟩
 simp only [bO] at hbd ⊢
 obtain ⟨W6,hW6⟩:∃W6,w6.alloc (.cells #[Value.string b.name,.slice E1 b.regions.length e1,.slice E2 b.outl.length e2,.slice E3 b.types.length e3,.slice E4 b.locals.length e4,.int .i64 b.args,.slice E5 0 e5] 28)=W6:=⟨_,rfl⟩
 have hk6:W6.heap[w6.heap.size]?=some (.cells #[Value.string b.name,.slice E1 b.regions.length e1,.slice E2 b.outl.length e2,.slice E3 b.types.length e3,.slice E4 b.locals.length e4,.int .i64 b.args,.slice E5 0 e5] 28 (0,0)):=by rw [← hW6];exact heap_alloc_new _ _
 have hb66:Below w5.heap.size w5 W6:=by rw [← hW6];exact keep0 (alF _ _) hb6
 have hbd6:BdAt W6 { b with blocks:=[] } ⟨E1,e1,E2,e2,E3,e3,E4,e4,E5,e5⟩:=by rw [← hW6];exact hbd.keep (alF _ _)
 replace HCC:=aF (cells_kept HCC.out hb66)
 replace HB:=aF (keep0 hb66 HB.out)
 have HK6:=aF hk6
 have HBD:=aF hbd6
 have HDL:Hid (∀W',Calls Tryz.prog 19 #[.agg #[Value.string b.name,.slice A1 b.regions.length c1,.slice A2 b.outl.length c2,.slice A3 b.types.length c3,.slice A4 b.locals.length c4,.int .i64 b.args,.slice A5 b.blocks.length c5]] W' fun e' w'=>e' = .returned (.agg #[.string b.name,.slice A1 b.regions.length c1,.slice A2 b.outl.length c2,.slice A3 b.types.length c3,.slice A4 b.locals.length c4,.int .i64 b.args,.slice none 0 0])∧Below W'.heap.size W' w'):=aF (fun W'=>xJX b ⟨A1,c1,A2,c2,A3,c3,A4,c4,A5,c5⟩ W')
 have HSB:Hid (∀W',Below W6.heap.size W6 W'→Calls Tryz.prog 16 #[.agg #[Value.string b.name,.slice E1 b.regions.length e1,.slice E2 b.outl.length e2,.slice E3 b.types.length e3,.slice E4 b.locals.length e4,.int .i64 b.args,.slice E5 0 e5],.agg #[.string b.name,.slice A1 b.regions.length c1,.slice A2 b.outl.length c2,.slice A3 b.types.length c3,.slice A4 b.locals.length c4,.int .i64 b.args,.slice none 0 0]] W' fun e' w'=>e' = .returned (.bool true)∧Below W'.heap.size W' w'):=aF (fun W' hb=>xJV { b with blocks:=[] } ⟨E1,e1,E2,e2,E3,e3,E4,e4,E5,e5⟩ ⟨A1,c1,A2,c2,A3,c3,A4,c4,none,0⟩ W' rfl (hbd6.keep hb) ⟨(HH.out.keep (keep0 hb HB.out)).reg,(HH.out.keep (keep0 hb HB.out)).out,(HH.out.keep (keep0 hb HB.out)).typ,(HH.out.keep (keep0 hb HB.out)).loc,⟨Sl.nil,Nat.zero_le _,Nat.zero_le _⟩⟩)
 clear hb6 hbd hb66 hk6 hbd6 HD5
 go_wp2_with fail
 have hS:Below W6.heap.size W6 W6.drew:=(aV _ _).drew
 refine cP (S:=fun X=>Below W6.heap.size W6 X) [0,1,2,3,4,5,6,7,8,9,10,11,12,13,14,15,16,17,18,19] (by kernel_rfl) ?_
 (refine cS (by kernel_rfl) (fun K1 hK1=>?_);simp only [aH,Act.put,aJ];rw [aY (by rfl)];go_simp)
 refine (HL.out _ (keep0 hS HB.out)).mono ?_
 rintro e' w7 ⟨rfl,hb7⟩
 replace hS:=hS.trans (hb7.mono hS.size)
 refine hK1.out _ _ (fun _=>hS) ?_
 clear hK1 hb7
 (iterate 15 (refine cQ (v:=?_) ?_ hS ?_;rotate_left;(next=>(rintro X hX;obtain ⟨s0,s1,s2,s3,s4,s5,s6,_⟩:=blk7 ((hX.block _ (Array.getElem?_eq_some_iff.1 HK6.out).1).trans HK6.out);have HCX:=aF (cells_kept HCC.out hX);have u0:=HCX.out 0 _ rfl;have u1:=HCX.out 1 _ rfl;have u2:=HCX.out 2 _ rfl;have u3:=HCX.out 3 _ rfl;have u4:=HCX.out 4 _ rfl;have u5:=HCX.out 5 _ rfl;have u6:=HCX.out 6 _ rfl;(try simp only [aH]);go_simp;rfl));simp only [aH,Act.put,aJ]))
 (refine cS (by kernel_rfl) (fun K1 hK1=>?_);simp only [aH,Act.put,aJ];rw [aY (by rfl)];go_simp)
 refine (HDL.out _).mono ?_
 rintro e' w8 ⟨rfl,hb8⟩
 replace hS:=hS.trans (hb8.mono hS.size)
 refine hK1.out _ _ (fun _=>hS) ?_
 clear hK1 hb8
 (refine cS (by kernel_rfl) (fun K1 hK1=>?_);simp only [aH,Act.put,aJ];rw [aY (by rfl)];go_simp)
 refine (HSB.out _ hS).mono ?_
 rintro e' w9 ⟨rfl,hb9⟩
 replace hS:=hS.trans (hb9.mono hS.size)
 refine hK1.out _ _ (fun _=>hS) ?_
 clear hK1 hb9
 (iterate 2 (refine cQ (v:=?_) ?_ hS ?_;rotate_left;(next=>(rintro X _;(try simp only [aH]);go_simp;rfl));simp only [aH,Act.put,aJ]))
 refine cV (by kernel_rfl) ?_
 have HBF:=aF (keep0 hS HB.out)
 clear hS
 go_wp2_with fail
 go_ret
 exact ⟨rfl,HBF.out⟩
end
section
open Go Go.ChangeShapes Go.WideShapes Go.ChangeAt Go.RowKit
theorem xHR (os:Os) (started:os.Started) (H:Type) (enc:TypeId × Value→H):
 ReturnsInHanded {} Tryz.checked os 5 .any (fun w args=>(Rows.bindeclRoundTripSpec.pre enc Tryz.prog Tryz.f5 [] false w args∧laidMetH Tryz.prog Rows.bindeclRoundTripRow.laid w)∧sizedMet enc Tryz.prog Tryz.f5 (OpenSpec.ofChange Rows.bindeclRoundTripSpec) false w args)
  (Rows.bindeclRoundTripSpec.post enc Tryz.prog Tryz.f5 false true false false):=by
 refine returnsInHanded_of_change_and (C:=Tryz.checked) (X:=fun w _=>laidMetH Tryz.prog Rows.bindeclRoundTripRow.laid w) (fun _ _ _ hh h=>h.of_heap hh) Tryz.own started (by kernel_rfl) Tryz.func5
  (ChangeSpec.witness_shaped (enc:=enc) (C:=Tryz.checked) (os:=os) (X:=fun w _=>laidMetH Tryz.prog Rows.bindeclRoundTripRow.laid w) false (World.laidAll Tryz.prog os Rows.bindeclRoundTripRow.laid) #[.agg #[.string ⟨#[]⟩,.slice none 0 0,.slice none 0 0,.slice none 0 0,.slice none 0 0,.int .i64 0,.slice none 0 0]] 8 (World.laidAll_os _ _ _) (World.shaped_of_ZipB (by kernel_rfl) (by kernel_rfl)) (by kernel_rfl) (by kernel_rfl) (by kernel_rfl)
    (by rw [MakeChecks.laidMetH_plain _ _ _ (by kernel_rfl)];exact laidMet_laidAll _ (by kernel_rfl) (by kernel_rfl))) ?_
 intro W base args ds gs before hval0 hW _ hwt hL _
 have hval:∀(j:Nat) t v,Tryz.f5.params[j]?=some t→args[j]?=some v→Value.okWide Tryz.prog W .any base t v:=hval0
 have hW':=hW
 obtain ⟨p,q,hA0,hV,rfl,hfz,hnd⟩:=hW
 have hA:DataW.TrodAll enc Tryz.prog W 0 (fun _=>true) true Tryz.f5.params.toList args.toList ds p:=hA0
 rw [Tryz.params5] at hA hval
 obtain ⟨v0,d0,rfl,rfl,h0⟩:=trodAll_one hA
 obtain ⟨rfl,rfl⟩:=trodVars_none hV
 obtain ⟨bb,bh,rfl,hbd,hnm⟩:=yV (hval 0 _ v0 rfl rfl) h0
 clear hA0 hval0
 refine (xKC bb bh W (xEY hL) hbd hnm).mono fun e W' ⟨he,hb⟩=>?_
 exact ⟨_,he,xDB Tryz.laidOut rfl (by kernel_rfl) Tryz.underlying4 rfl (by rw [Tryz.params5];intro t ht;simp at ht;subst ht;exact ⟨by kernel_rfl,of_decide_eq_true (by kernel_rfl)⟩) hW' hb⟩
theorem xHU:Rows.BindeclRoundTripSaid:=
 OpenClaim.holds_of_wide 5 Tryz.f5 rfl rfl rfl rfl rfl rfl rfl ⟨rfl,rfl,rfl,rfl,rfl⟩ rfl rfl rfl rfl rfl (by kernel_rfl) Tryz.func5 xHS
  (of_decide_eq_true (by kernel_rfl)) (by unfold Func.isWrapper;first | (rw [aY (by decide +kernel)];kernel_rfl) | (rw [aX (by decide +kernel)];exact ⟨rfl,rfl⟩))
  (fun os started H enc _=>xHR os started H enc)
theorem BindeclRoundTrip_holds:Rows.BindeclRoundTripCardSaid:=
 Claim7.holds_tied_plain_at .later [] [.data, .widerDeep, .widerDeep, .pinned] true (true, "df92e3dffe42141494600ee8b20469a2441dd03061facf2bfbf3bc0513c4d676") false
  xHU (fun _ h=>by cases h) (by kernel_rfl) (fun _ h=>by cases h) bindeclRoundTrip_row_tie rfl ⟨rfl,rfl⟩ (by kernel_rfl) rfl
  (fun f fn hf hfn=>by
    obtain rfl:f=5:=Option.some.inj ((show Tryz.prog.funcNamed Rows.bindeclRoundTripRow.func=some 5 by kernel_rfl).symm.trans hf) |>.symm
    obtain rfl:fn=Tryz.f5:=(Option.some.inj (Tryz.func5.symm.trans hfn)).symm
    exact ⟨by kernel_rfl,fun j t ht=>by
     rw [Tryz.params5] at ht
     have hm:t∈[28]:=by simpa using Array.mem_of_getElem? ht
     have hall:([28].all fun u=> !Tryz.prog.wantsStandIn u)=true:=by kernel_rfl
     exact (show Tryz.prog.wantsStandIn t=false by simpa using List.all_eq_true.1 hall t hm)⟩)
  (by kernel_rfl)
end
end Go.Proofs.YtbnljlpefpllcaaGreatDoor
