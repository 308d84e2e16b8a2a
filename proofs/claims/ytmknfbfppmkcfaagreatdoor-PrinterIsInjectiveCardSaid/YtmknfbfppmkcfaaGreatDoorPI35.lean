/-
  PrinterIsInjective: for every two bodies the law answers true, and the arguments read as they did; the card of the row. Condition: the nine listed variables hold at the start what the text of the program lays (the given tie; one is a table of the library, pinned by its name).
-/
import Derived.Test.YtmknfbfppmkcfaaGreatDoorPI0
import Derived.Test.YtmknfbfppmkcfaaGreatDoorPI30
import Derived.Test.YtmknfbfppmkcfaaGreatDoorPI33
import Derived.Test.YtmknfbfppmkcfaaGreatDoorPI29
import Derived.Test.YtmknfbfppmkcfaaGreatDoorPI34
import Derived.Test.YtmknfbfppmkcfaaGreatDoorTie
import Derived.Test.YtmknfbfppmkcfaaGreatDoorCards
import Derived.SevenTiedAt
import Derived.SizedLaws
import Derived.Lay
namespace Go.Proofs.YtmknfbfppmkcfaaGreatDoor
set_option maxRecDepth 100000
set_option maxHeartbeats 16000000
section
open Go Go.RowKit
attribute [local irreducible] Calls
theorem zM {a b:Bdy} (ha:chkB a=0) (hb:chkB b=0):((⟨(printP a).toArray⟩:ByteArray).toList == (⟨(printP b).toArray⟩:ByteArray).toList)=decide (a=b):=by
 rw [Lib.toList_data,Lib.toList_data,bR];simp only [beq_iff_eq,decide_eq_true_eq];exact ⟨fun h=>vK (qB ha) (qB hb) (by simpa using h),fun h=>by rw [h]⟩
theorem yP (a b:Bdy) (ah bh:BH) (w:World) (hT:TabsOk w) (hpow:PowTab w) (hsp:SpTab w) (H:BdAt w a ah) (H2:BdAt w b bh) (hz:NmOk a) (hz2:NmOk b) (hf:FitB a) (hf2:FitB b):
 Calls Tryz.prog 6 #[.agg (bdC a ah).toArray,.agg (bdC b bh).toArray] w fun e' w'=>e' = .returned (.bool true)/\Below w.heap.size w w':=by
 have HAL:=aF (fun (W:World) (hb:Below w.heap.size w W)=>sD W (hT.keep hb) (hpow.keep hb) (hsp.keep hb));have HSA:=aF (fun (W:World) (hb:Below w.heap.size w W)=>sR a ah W (H.keep hb) hz);have HSB:=aF (fun (W:World) (hb:Below w.heap.size w W)=>sR b bh W (H2.keep hb) hz2);have HCA:=aF (fun (W:World) (hb:Below w.heap.size w W)=>lJ a ah W (H.keep hb) hz);have HCB:=aF (fun (W:World) (hb:Below w.heap.size w W)=>lJ b bh W (H2.keep hb) hz2);have HPA:=aF (fun (W:World) (hb:Below w.heap.size w W) (hn:NotSkip a)=>gP a ah W (H.keep hb) (hT.keep hb) (hpow.keep hb) (hsp.keep hb) hf (fun hc=>pU hc hf hn));have HPB:=aF (fun (W:World) (hb:Below w.heap.size w W) (hn:NotSkip b)=>gP b bh W (H2.keep hb) (hT.keep hb) (hpow.keep hb) (hsp.keep hb) hf2 (fun hc=>pU hc hf2 hn));have HEQ:=aF (fun (W:World) (hb:Below w.heap.size w W)=>xH a b ah bh W (H.keep hb) (H2.keep hb));have HIJ:=aF (fun (h1:chkB a=0) (h2:chkB b=0)=>zM h1 h2);obtain ⟨A1,c1,A2,c2,A3,c3,A4,c4,A5,c5⟩:=ah;obtain ⟨B1,d1,B2,d2,B3,d3,B4,d4,B5,d5⟩:=bh;unfold bdC at *;simp only at *;obtain ⟨W0,hW0⟩:∃W,(w.alloc (.cells ([Value.string a.name,.slice A1 a.regions.length c1,.slice A2 a.outl.length c2,.slice A3 a.types.length c3,.slice A4 a.locals.length c4,.int .i64 a.args,.slice A5 a.blocks.length c5]).toArray 28)).alloc (.cells ([Value.string b.name,.slice B1 b.regions.length d1,.slice B2 b.outl.length d2,.slice B3 b.types.length d3,.slice B4 b.locals.length d4,.int .i64 b.args,.slice B5 b.blocks.length d5]).toArray 28)=W:=⟨_,rfl⟩;have hb0:Below w.heap.size w W0:=by rw [<- hW0];exact bel2 _ _ _
 have HB0:=aF hb0;have hcc:=cT (w:=w) (l1:=[Value.string a.name,.slice A1 a.regions.length c1,.slice A2 a.outl.length c2,.slice A3 a.types.length c3,.slice A4 a.locals.length c4,.int .i64 a.args,.slice A5 a.blocks.length c5]) (l2:=[Value.string b.name,.slice B1 b.regions.length d1,.slice B2 b.outl.length d2,.slice B3 b.types.length d3,.slice B4 b.locals.length d4,.int .i64 b.args,.slice B5 b.blocks.length d5]) (t1:=28) (t2:=28) (w1:=W0) (by rw [hW0];exact aX _ _);have HX:=aF (fun (W:World) (hb:Below W0.heap.size W0 W) i v h=>cM hb (hcc.1 i v h));have HY:=aF (fun (W:World) (hb:Below W0.heap.size W0 W) i v h=>cM hb (hcc.2 i v h));clear hcc hb0 hT hpow hsp H H2 hz hz2 hf hf2;obtain ⟨E,hE⟩:∃E,decide (a=b)=E:=⟨_,rfl⟩;rw [hE] at HEQ HIJ;clear hE;have hX:=HX.out W0 (aX _ _);obtain ⟨y0,y1,y2,y3,y4,y5,y6⟩:=aS hX;have hY:=HY.out W0 (aX _ _);obtain ⟨z0,z1,z2,z3,z4,z5,z6⟩:=aS hY;clear hX hY;go_enter Tryz.func6,Tryz.ntmps6
 go_wp2_with fail
 first | refine (HSA.out _ HB0.out).mono ?_ | (go_at_call 8;refine (HSA.out _ HB0.out).mono ?_)
 rintro e' w1 ⟨⟨q,rfl,hq⟩,hw1⟩;clear y0 y1 y2 y3 y4 y5 y6 z0 z1 z2 z3 z4 z5 z6;have hX:=HX.out w1 hw1;obtain ⟨y0,y1,y2,y3,y4,y5,y6⟩:=aS hX;have hY:=HY.out w1 hw1;obtain ⟨z0,z1,z2,z3,z4,z5,z6⟩:=aS hY;clear hX hY;have HB1:=aF (HB0.out.trans (hw1.mono HB0.out.size));have HW1:=aF hw1;clear hw1;by_cases hq0:0<q
 case pos=>
  clear hq;go_wp2_with fail
  first | refine (HAL.out _ HB1.out).mono ?_ | (go_at_call 9;refine (HAL.out _ HB1.out).mono ?_)
  rintro e' wa ⟨rfl,hwa⟩;go_wp2_with fail
  go_ret;exact ⟨rfl,HB1.out.trans (hwa.mono HB1.out.size)⟩
 have HN1:=aF (hq (by omega));clear hq;go_wp2_with fail
 first | refine (HSB.out _ HB1.out).mono ?_ | (go_at_call 8;refine (HSB.out _ HB1.out).mono ?_)
 rintro e' w2 ⟨⟨p,rfl,hp⟩,hw⟩;clear y0 y1 y2 y3 y4 y5 y6 z0 z1 z2 z3 z4 z5 z6;have HW2:=aF (HW1.out.trans (hw.mono HW1.out.size));have hX:=HX.out w2 HW2.out;obtain ⟨y0,y1,y2,y3,y4,y5,y6⟩:=aS hX;have hY:=HY.out w2 HW2.out;obtain ⟨z0,z1,z2,z3,z4,z5,z6⟩:=aS hY;clear hX hY;have HB2:=aF (HB1.out.trans (hw.mono HB1.out.size));clear hw;by_cases hp0:0<p
 case pos=>
  clear hp;go_wp2_with fail
  first | refine (HAL.out _ HB2.out).mono ?_ | (go_at_call 9;refine (HAL.out _ HB2.out).mono ?_)
  rintro e' wa ⟨rfl,hwa⟩;go_wp2_with fail
  go_ret;exact ⟨rfl,HB2.out.trans (hwa.mono HB2.out.size)⟩
 have HN2:=aF (hp (by omega));clear hp;by_cases ca:chkB a=0
 case neg=>
  have e0:(chkB a != 0)=true:=by simp [ca]
  go_wp2_with fail
  first | refine (HCA.out _ HB2.out).mono ?_ | (go_at_call 17;refine (HCA.out _ HB2.out).mono ?_)
  rintro e' w3 ⟨rfl,hw⟩;clear y0 y1 y2 y3 y4 y5 y6 z0 z1 z2 z3 z4 z5 z6;have HW3:=aF (HW2.out.trans (hw.mono HW2.out.size));have hX:=HX.out w3 HW3.out;obtain ⟨y0,y1,y2,y3,y4,y5,y6⟩:=aS hX;have hY:=HY.out w3 HW3.out;obtain ⟨z0,z1,z2,z3,z4,z5,z6⟩:=aS hY;clear hX hY;have HB3:=aF (HB2.out.trans (hw.mono HB2.out.size));clear hw;go_wp2_with fail
  first | refine (HAL.out _ HB3.out).mono ?_ | (go_at_call 9;refine (HAL.out _ HB3.out).mono ?_)
  rintro e' wa ⟨rfl,hwa⟩;go_wp2_with fail
  go_ret;exact ⟨rfl,HB3.out.trans (hwa.mono HB3.out.size)⟩
 rw [ca] at HCA;rw [bA ca] at HPA;go_wp2_with fail
 first | refine (HCA.out _ HB2.out).mono ?_ | (go_at_call 17;refine (HCA.out _ HB2.out).mono ?_)
 rintro e' w3 ⟨rfl,hw⟩;clear y0 y1 y2 y3 y4 y5 y6 z0 z1 z2 z3 z4 z5 z6;have HW3:=aF (HW2.out.trans (hw.mono HW2.out.size));have hX:=HX.out w3 HW3.out;obtain ⟨y0,y1,y2,y3,y4,y5,y6⟩:=aS hX;have hY:=HY.out w3 HW3.out;obtain ⟨z0,z1,z2,z3,z4,z5,z6⟩:=aS hY;clear hX hY;have HB3:=aF (HB2.out.trans (hw.mono HB2.out.size));clear hw;by_cases cb:chkB b=0
 case neg=>
  have e0:(chkB b != 0)=true:=by simp [cb]
  go_wp2_with fail
  first | refine (HCB.out _ HB3.out).mono ?_ | (go_at_call 17;refine (HCB.out _ HB3.out).mono ?_)
  rintro e' w4 ⟨rfl,hw⟩;clear y0 y1 y2 y3 y4 y5 y6 z0 z1 z2 z3 z4 z5 z6;have HW4:=aF (HW3.out.trans (hw.mono HW3.out.size));have hX:=HX.out w4 HW4.out;obtain ⟨y0,y1,y2,y3,y4,y5,y6⟩:=aS hX;have hY:=HY.out w4 HW4.out;obtain ⟨z0,z1,z2,z3,z4,z5,z6⟩:=aS hY;clear hX hY;have HB4:=aF (HB3.out.trans (hw.mono HB3.out.size));clear hw;go_wp2_with fail
  first | refine (HAL.out _ HB4.out).mono ?_ | (go_at_call 9;refine (HAL.out _ HB4.out).mono ?_)
  rintro e' wa ⟨rfl,hwa⟩;go_wp2_with fail
  go_ret;exact ⟨rfl,HB4.out.trans (hwa.mono HB4.out.size)⟩
 rw [cb] at HCB;rw [bA cb] at HPB;have HJ:=aF (HIJ.out ca cb);clear ca cb HIJ;go_wp2_with fail
 first | refine (HCB.out _ HB3.out).mono ?_ | (go_at_call 17;refine (HCB.out _ HB3.out).mono ?_)
 rintro e' w4 ⟨rfl,hw⟩;clear y0 y1 y2 y3 y4 y5 y6 z0 z1 z2 z3 z4 z5 z6;have HW4:=aF (HW3.out.trans (hw.mono HW3.out.size));have hX:=HX.out w4 HW4.out;obtain ⟨y0,y1,y2,y3,y4,y5,y6⟩:=aS hX;have hY:=HY.out w4 HW4.out;obtain ⟨z0,z1,z2,z3,z4,z5,z6⟩:=aS hY;clear hX hY;have HB4:=aF (HB3.out.trans (hw.mono HB3.out.size));clear hw;go_wp2_with fail
 first | refine (HPA.out _ HB4.out HN1.out).mono ?_ | (go_at_call 10;refine (HPA.out _ HB4.out HN1.out).mono ?_)
 rintro e' w5 ⟨rfl,hw⟩;clear y0 y1 y2 y3 y4 y5 y6 z0 z1 z2 z3 z4 z5 z6;have HW5:=aF (HW4.out.trans (hw.mono HW4.out.size));have hX:=HX.out w5 HW5.out;obtain ⟨y0,y1,y2,y3,y4,y5,y6⟩:=aS hX;have hY:=HY.out w5 HW5.out;obtain ⟨z0,z1,z2,z3,z4,z5,z6⟩:=aS hY;clear hX hY;have HB5:=aF (HB4.out.trans (hw.mono HB4.out.size));clear hw;go_wp2_with fail
 first | refine (HPB.out _ HB5.out HN2.out).mono ?_ | (go_at_call 10;refine (HPB.out _ HB5.out HN2.out).mono ?_)
 rintro e' w6 ⟨rfl,hw⟩;clear y0 y1 y2 y3 y4 y5 y6 z0 z1 z2 z3 z4 z5 z6;have HW6:=aF (HW5.out.trans (hw.mono HW5.out.size));have hX:=HX.out w6 HW6.out;obtain ⟨y0,y1,y2,y3,y4,y5,y6⟩:=aS hX;have hY:=HY.out w6 HW6.out;obtain ⟨z0,z1,z2,z3,z4,z5,z6⟩:=aS hY;clear hX hY;have HB6:=aF (HB5.out.trans (hw.mono HB5.out.size));clear hw;have e0:=HJ.out;unfold tx;go_wp2_with fail
 first | refine (HAL.out _ HB6.out).mono ?_ | (go_at_call 9;refine (HAL.out _ HB6.out).mono ?_)
 rintro e' w7 ⟨rfl,hw⟩;clear y0 y1 y2 y3 y4 y5 y6 z0 z1 z2 z3 z4 z5 z6;have HW7:=aF (HW6.out.trans (hw.mono HW6.out.size));have hX:=HX.out w7 HW7.out;obtain ⟨y0,y1,y2,y3,y4,y5,y6⟩:=aS hX;have hY:=HY.out w7 HW7.out;obtain ⟨z0,z1,z2,z3,z4,z5,z6⟩:=aS hY;clear hX hY;have HB7:=aF (HB6.out.trans (hw.mono HB6.out.size));clear hw;go_wp2_with fail
 first | refine (HEQ.out _ HB7.out).mono ?_ | (go_at_call 18;refine (HEQ.out _ HB7.out).mono ?_)
 rintro e' w8 ⟨rfl,hw⟩;clear y0 y1 y2 y3 y4 y5 y6 z0 z1 z2 z3 z4 z5 z6;have HW8:=aF (HW7.out.trans (hw.mono HW7.out.size));have hX:=HX.out w8 HW8.out;obtain ⟨y0,y1,y2,y3,y4,y5,y6⟩:=aS hX;have hY:=HY.out w8 HW8.out;obtain ⟨z0,z1,z2,z3,z4,z5,z6⟩:=aS hY;clear hX hY;have HB8:=aF (HB7.out.trans (hw.mono HB7.out.size));clear hw;go_wp2_with fail
 go_ret;exact ⟨by cases E <;> simp_all,HB8.out⟩
end
section
open Go Go.ChangeShapes Go.WideShapes Go.ChangeAt Go.RowKit
theorem gE (os:Os) (started:os.Started) (H:Type) (enc:TypeId × Value->H):
 ReturnsInHanded {} Tryz.checked os 6 .any (fun w args=>(Rows.printerIsInjectiveSpec.pre enc Tryz.prog Tryz.f6 [] false w args/\laidMetH Tryz.prog Rows.printerIsInjectiveRow.laid w)/\sizedMet enc Tryz.prog Tryz.f6 (OpenSpec.ofChange Rows.printerIsInjectiveSpec) false w args)
  (Rows.printerIsInjectiveSpec.post enc Tryz.prog Tryz.f6 false true false false):=by
 refine returnsInHanded_of_change_and (C:=Tryz.checked) (X:=fun w _=>laidMetH Tryz.prog Rows.printerIsInjectiveRow.laid w) (fun _ _ _ hh h=>h.of_heap hh) Tryz.own started (by kernel_rfl) Tryz.func6
  (ChangeSpec.witness_shaped (enc:=enc) (C:=Tryz.checked) (os:=os) (X:=fun w _=>laidMetH Tryz.prog Rows.printerIsInjectiveRow.laid w) false (World.laidAll Tryz.prog os Rows.printerIsInjectiveRow.laid) #[.agg #[.string ⟨#[]⟩,.slice none 0 0,.slice none 0 0,.slice none 0 0,.slice none 0 0,.int .i64 0,.slice none 0 0],.agg #[.string ⟨#[]⟩,.slice none 0 0,.slice none 0 0,.slice none 0 0,.slice none 0 0,.int .i64 0,.slice none 0 0]] 8 (World.laidAll_os _ _ _) (World.shaped_of_ZipB (by kernel_rfl) (by kernel_rfl)) (by kernel_rfl) (by kernel_rfl) (by kernel_rfl)
    (by rw [MakeChecks.laidMetH_plain _ _ _ (by kernel_rfl)];exact laidMet_laidAll _ (by kernel_rfl) (by kernel_rfl))) ?_
 intro W base args ds gs before hval0 hW _ hwt hL _;have hval:∀(j:Nat) t v,Tryz.f6.params[j]?=some t->args[j]?=some v->Value.okWide Tryz.prog W .any base t v:=hval0;have hW':=hW;obtain ⟨p,q,hA0,hV,rfl,hfz,hnd⟩:=hW;have hA:DataW.TrodAll enc Tryz.prog W 0 (fun _=>true) true Tryz.f6.params.toList args.toList ds p:=hA0;rw [Tryz.params6] at hA hval;obtain ⟨v0,v1,d0,d1,p0,p1,rfl,rfl,rfl,h0,h1⟩:=trodAll_two hA;obtain ⟨rfl,rfl⟩:=trodVars_none hV;obtain ⟨bb,bh,rfl,hbd,hnm,hfb⟩:=qA (hval 0 _ v0 rfl rfl) h0;obtain ⟨hTT,hPP,hSS⟩:=xGY hL;obtain ⟨cc,ch,rfl,hcd,hcm,hcf⟩:=qA (hval 1 _ v1 rfl rfl) h1;clear hA0 hval0;refine (yP bb cc bh ch W hTT hPP hSS hbd hcd hnm hcm hfb hcf).mono fun e W' ⟨he,hb⟩=>?_
 exact ⟨_,he,xCP Tryz.laidOut rfl (by kernel_rfl) Tryz.underlying4 rfl (by rw [Tryz.params6];intro t ht;simp at ht;rcases ht with rfl | rfl <;> exact ⟨by kernel_rfl,of_decide_eq_true (by kernel_rfl)⟩) hW' hb⟩
theorem gY:Rows.PrinterIsInjectiveSaid:=
 OpenClaim.holds_of_wide 6 Tryz.f6 rfl rfl rfl rfl rfl rfl rfl ⟨rfl,rfl,rfl,rfl,rfl⟩ rfl rfl rfl rfl rfl (by kernel_rfl) Tryz.func6 gF
  (of_decide_eq_true (by kernel_rfl)) (by unfold Func.isWrapper;first | (rw [bA (by decide +kernel)];kernel_rfl) | (rw [aZ (by decide +kernel)];exact ⟨rfl,rfl⟩))
  (fun os started H enc _=>gE os started H enc)
theorem PrinterIsInjective_holds:Rows.PrinterIsInjectiveCardSaid:=
 Claim7.holds_tied_plain_at .later [] [.data, .data, .data, .data, .listed, .data, .widerDeep, .widerDeep, .pinned] true (true, "2565a398a9c3f64ed2b3d35e70614e8afda13dca12037df6a6fb8dd6ed235492") false
  gY (fun _ h=>by cases h) (by kernel_rfl) (fun _ h=>by cases h) printerIsInjective_row_tie rfl ⟨rfl,rfl⟩ (by kernel_rfl) rfl
  (fun f fn hf hfn=>by
    obtain rfl:f=6:=Option.some.inj ((show Tryz.prog.funcNamed Rows.printerIsInjectiveRow.func=some 6 by kernel_rfl).symm.trans hf) |>.symm;obtain rfl:fn=Tryz.f6:=(Option.some.inj (Tryz.func6.symm.trans hfn)).symm
    exact ⟨by kernel_rfl,fun j t ht=>by
     rw [Tryz.params6] at ht;have hm:t∈[28,28]:=(by simpa using Array.mem_of_getElem? ht);have hall:([28,28].all fun u=> !Tryz.prog.wantsStandIn u)=true:=by kernel_rfl
     exact (show Tryz.prog.wantsStandIn t=false by simpa using List.all_eq_true.1 hall t hm)⟩)
  (by kernel_rfl)
end
end Go.Proofs.YtmknfbfppmkcfaaGreatDoor
