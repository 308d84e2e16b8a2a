/-
  PrinterMatchesReference: for every body the law answers true, and the argument reads as it did; the card of the row. Condition: the nine listed variables hold at the start what the text of the program lays (the given tie; one is a table of the library, pinned by its name).
-/
import Derived.Test.YtmknfbfppmkcfaaGreatDoorPM0
import Derived.Test.YtmknfbfppmkcfaaGreatDoorPM25
import Derived.Test.YtmknfbfppmkcfaaGreatDoorPM24
import Derived.Test.YtmknfbfppmkcfaaGreatDoorPM28
import Derived.Test.YtmknfbfppmkcfaaGreatDoorPM15
import Derived.Test.YtmknfbfppmkcfaaGreatDoorPM4
import Derived.Test.YtmknfbfppmkcfaaGreatDoorPM9
import Derived.Test.YtmknfbfppmkcfaaGreatDoorPM26
import Derived.Test.YtmknfbfppmkcfaaGreatDoorTie
import Derived.Test.YtmknfbfppmkcfaaGreatDoorCards
import Derived.Deep.CutBlock
import Derived.SevenTiedAt
import Derived.SizedLaws
import Derived.Lay
namespace Go.Proofs.YtmknfbfppmkcfaaGreatDoor
set_option maxRecDepth 100000
set_option maxHeartbeats 16000000
section
open Go Go.RowKit
attribute [local irreducible] Calls
theorem xN (b:Bdy) (bh:BH) (w:World) (hT:TabsOk w) (hpow:PowTab w) (hsp:SpTab w) (H:BdAt w b bh) (hz:NmOk b) (hf:FitB b):
 Calls Tryz.prog 3 #[.agg (bdC b bh).toArray] w fun e' w'=>e' = .returned (.bool true)/\Below w.heap.size w w':=by
 have HAL:=aF (fun (W:World) (hb:Below w.heap.size w W)=>rE W (hT.keep hb) (hpow.keep hb) (hsp.keep hb));have HSK:=aF (fun (W:World) (hb:Below w.heap.size w W)=>xAC b bh W (H.keep hb) hz);have HPR:=aF (fun (W:World) (hb:Below w.heap.size w W) (hn:NotSkip b)=>jY b bh W (H.keep hb) (hT.keep hb) (hpow.keep hb) (hsp.keep hb) hf (fun hc=>pD hc hf hn));have HRR:=aF (fun (W:World) (hb:Below w.heap.size w W) (hn:NotSkip b)=>uC b bh W (H.keep hb) hz hf (fun hc=>pD hc hf hn));obtain ⟨A1,c1,A2,c2,A3,c3,A4,c4,A5,c5⟩:=bh;obtain ⟨R1,hR1⟩:∃R,(if chkB b=0 then printP b else [])=R:=⟨_,rfl⟩;obtain ⟨R2,hR2⟩:∃R:Int,(if chkB b=0 then 0 else 16)=R:=⟨_,rfl⟩
 have hRR:(if chkB b=0 then Value.tuple #[tx (printP b),.int .i64 0] else Value.tuple #[tx [],.int .i64 16]) = .tuple #[tx R1,.int .i64 R2]:=by
  rw [<- hR1,<- hR2];split <;> rfl
 rw [hRR] at HPR HRR;unfold bdC at *;simp only at *;obtain ⟨W0,hW0⟩:∃W,w.alloc (.cells ([Value.string b.name,.slice A1 b.regions.length c1,.slice A2 b.outl.length c2,.slice A3 b.types.length c3,.slice A4 b.locals.length c4,.int .i64 b.args,.slice A5 b.blocks.length c5]).toArray 28)=W:=⟨_,rfl⟩;have hb0:Below w.heap.size w W0:=by rw [<- hW0];exact (aX _ _).alloc (aY _) _
 have HB0:=aF hb0;have hcx:=cX w [Value.string b.name,.slice A1 b.regions.length c1,.slice A2 b.outl.length c2,.slice A3 b.types.length c3,.slice A4 b.locals.length c4,.int .i64 b.args,.slice A5 b.blocks.length c5] 28;rw [hW0] at hcx;have HX:=aF (fun (W:World) (hb:Below W0.heap.size W0 W) i v h=>cN hb (hcx i v h));have hX:=hcx;obtain ⟨y0,y1,y2,y3,y4,y5,y6⟩:=aS hX;clear hX hcx hb0 hR1 hR2 hRR hT hpow hsp H hz hf;go_enter Tryz.func3,Tryz.ntmps3
 go_wp2_with fail
 go_at_call 8
 refine (HSK.out W0 HB0.out).mono ?_;rintro e' w1 ⟨⟨q,rfl,hq⟩,hw1⟩;have hX:=HX.out w1 hw1;obtain ⟨v0,v1,v2,v3,v4,v5,v6⟩:=aS hX;have HB1:=aF (HB0.out.trans (hw1.mono HB0.out.size));clear hX y0 y1 y2 y3 y4 y5 y6;by_cases hq0:0<q
 ·clear hq;go_wp2_with (go_at_call 9;refine (HAL.out _ HB1.out).mono ?_;rintro e' w2 ⟨rfl,hw2⟩)
  go_ret;exact ⟨rfl,HB1.out.trans (hw2.mono HB1.out.size)⟩
 ·have HN:=aF (hq (by omega));clear hq
  go_wp2_with (first
   | (go_at_call 10;refine (HPR.out _ HB1.out HN.out).mono ?_;rintro e' w2 ⟨rfl,hw2⟩;have hX:=HX.out w2 (hw1.trans (hw2.mono hw1.size));obtain ⟨y0,y1,y2,y3,y4,y5,y6⟩:=aS hX;clear hX;have HB2:=aF (HB1.out.trans (hw2.mono HB1.out.size)))
   | (go_at_call 11;refine (HRR.out _ HB2.out HN.out).mono ?_;rintro e' w3 ⟨rfl,hw3⟩;have HB3:=aF (HB2.out.trans (hw3.mono HB2.out.size)))
   | (go_at_call 9;refine (HAL.out _ HB3.out).mono ?_;rintro e' w4 ⟨rfl,hw4⟩))
  all_goals (go_ret;exact ⟨by simp_all,HB3.out.trans (hw4.mono HB3.out.size)⟩)
end
section
open Go Go.ChangeShapes Go.WideShapes Go.ChangeAt Go.RowKit
theorem fH (os:Os) (started:os.Started) (H:Type) (enc:TypeId × Value->H):
 ReturnsInHanded {} Tryz.checked os 3 .any (fun w args=>(Rows.printerMatchesReferenceSpec.pre enc Tryz.prog Tryz.f3 [] false w args/\laidMetH Tryz.prog Rows.printerMatchesReferenceRow.laid w)/\sizedMet enc Tryz.prog Tryz.f3 (OpenSpec.ofChange Rows.printerMatchesReferenceSpec) false w args)
  (Rows.printerMatchesReferenceSpec.post enc Tryz.prog Tryz.f3 false true false false):=by
 refine returnsInHanded_of_change_and (C:=Tryz.checked) (X:=fun w _=>laidMetH Tryz.prog Rows.printerMatchesReferenceRow.laid w) (fun _ _ _ hh h=>h.of_heap hh) Tryz.own started (by kernel_rfl) Tryz.func3
  (ChangeSpec.witness_shaped (enc:=enc) (C:=Tryz.checked) (os:=os) (X:=fun w _=>laidMetH Tryz.prog Rows.printerMatchesReferenceRow.laid w) false (World.laidAll Tryz.prog os Rows.printerMatchesReferenceRow.laid) #[.agg #[.string ⟨#[]⟩,.slice none 0 0,.slice none 0 0,.slice none 0 0,.slice none 0 0,.int .i64 0,.slice none 0 0]] 8 (World.laidAll_os _ _ _) (World.shaped_of_ZipB (by kernel_rfl) (by kernel_rfl)) (by kernel_rfl) (by kernel_rfl) (by kernel_rfl)
    (by rw [MakeChecks.laidMetH_plain _ _ _ (by kernel_rfl)];exact laidMet_laidAll _ (by kernel_rfl) (by kernel_rfl))) ?_
 intro W base args ds gs before hval0 hW _ hwt hL _;have hval:∀(j:Nat) t v,Tryz.f3.params[j]?=some t->args[j]?=some v->Value.okWide Tryz.prog W .any base t v:=hval0;have hW':=hW;obtain ⟨p,q,hA0,hV,rfl,hfz,hnd⟩:=hW;have hA:DataW.TrodAll enc Tryz.prog W 0 (fun _=>true) true Tryz.f3.params.toList args.toList ds p:=hA0;rw [Tryz.params3] at hA hval;obtain ⟨v0,d0,rfl,rfl,h0⟩:=trodAll_one hA;obtain ⟨rfl,rfl⟩:=trodVars_none hV;obtain ⟨bb,bh,rfl,hbd,hnm,hfb⟩:=xE (hval 0 _ v0 rfl rfl) h0;obtain ⟨hTT,hPP,hSS⟩:=xFQ hL;clear hA0 hval0;refine (xN bb bh W hTT hPP hSS hbd hnm hfb).mono fun e W' ⟨he,hb⟩=>?_
 exact ⟨_,he,xBG Tryz.laidOut rfl (by kernel_rfl) Tryz.underlying4 rfl (by rw [Tryz.params3];intro t ht;simp at ht;subst ht;exact ⟨by kernel_rfl,of_decide_eq_true (by kernel_rfl)⟩) hW' hb⟩
theorem fP:Rows.PrinterMatchesReferenceSaid:=
 OpenClaim.holds_of_wide 3 Tryz.f3 rfl rfl rfl rfl rfl rfl rfl ⟨rfl,rfl,rfl,rfl,rfl⟩ rfl rfl rfl rfl rfl (by kernel_rfl) Tryz.func3 fI
  (of_decide_eq_true (by kernel_rfl)) (by unfold Func.isWrapper;first | (rw [bA (by decide +kernel)];kernel_rfl) | (rw [aZ (by decide +kernel)];exact ⟨rfl,rfl⟩))
  (fun os started H enc _=>fH os started H enc)
theorem PrinterMatchesReference_holds:Rows.PrinterMatchesReferenceCardSaid:=
 Claim7.holds_tied_plain_at .later [] [.data, .data, .data, .data, .listed, .data, .widerDeep, .widerDeep, .pinned] true (true, "2565a398a9c3f64ed2b3d35e70614e8afda13dca12037df6a6fb8dd6ed235492") false
  fP (fun _ h=>by cases h) (by kernel_rfl) (fun _ h=>by cases h) printerMatchesReference_row_tie rfl ⟨rfl,rfl⟩ (by kernel_rfl) rfl
  (fun f fn hf hfn=>by
    obtain rfl:f=3:=Option.some.inj ((show Tryz.prog.funcNamed Rows.printerMatchesReferenceRow.func=some 3 by kernel_rfl).symm.trans hf) |>.symm;obtain rfl:fn=Tryz.f3:=(Option.some.inj (Tryz.func3.symm.trans hfn)).symm
    exact ⟨by kernel_rfl,fun j t ht=>by
     rw [Tryz.params3] at ht;have hm:t∈[28]:=(by simpa using Array.mem_of_getElem? ht);have hall:([28].all fun u=> !Tryz.prog.wantsStandIn u)=true:=by kernel_rfl
     exact (show Tryz.prog.wantsStandIn t=false by simpa using List.all_eq_true.1 hall t hm)⟩)
  (by kernel_rfl)
end
end Go.Proofs.YtmknfbfppmkcfaaGreatDoor
