/-
  LivenessUses: for every body and every point the law answers true, and the arguments read as they did; the card of the row. Condition: the four listed variables hold at the start what the text of the program lays (the given tie; one is a table of the library, pinned by its name).
-/
import Derived.Test.YtcfchohkmkilpaaGreatDoorLP0
import Derived.Test.YtcfchohkmkilpaaGreatDoorLP20
import Derived.Test.YtcfchohkmkilpaaGreatDoorLP25
import Derived.Test.YtcfchohkmkilpaaGreatDoorLP26
import Derived.Test.YtcfchohkmkilpaaGreatDoorTie
import Derived.Test.YtcfchohkmkilpaaGreatDoorCards
import Derived.SevenTiedAt
import Derived.SizedLaws
import Derived.Lay
namespace Go.Proofs.YtcfchohkmkilpaaGreatDoor
set_option maxRecDepth 100000
set_option maxHeartbeats 16000000
section
open Go Go.RowKit
attribute [local irreducible] Calls
theorem Ok12.sml {b:Bdy} (h:Ok12 b) {p z:Int} (hz:z∈usP b.blocks p):0<=z/\z<((1000000:Nat):Int):=by
 have:=xEG h.chk hz;have h2:=h.loc;unfold LocIn at this;omega
theorem wS (b:Bdy) (bh:BH) (p:Int) (w:World) (hT:TabsOk w) (H:BdAt w b bh) (hz:NmOk b) (hp : -9223372036854775808<=p/\p<=9223372036854775807):
 Calls Tryz.prog 3 #[.agg (bdC b bh).toArray,.int .i64 p] w fun e' w'=>e' = .returned (.bool true)/\Below w.heap.size w w':=by
 have HAL:=aF (fun (W:World) (hb:Below w.heap.size w W)=>qQ W (hT.keep hb));have HSK:=aF (fun (W:World) (hb:Below w.heap.size w W)=>oO b bh W (H.keep hb) hz);have HDE:=aF (fun (W:World) (hb:Below w.heap.size w W) (ho:Ok12 b)=>xM b bh p W (H.keep hb) (by have:=ho.cnt;omega) hp (fun z hz=>ho.sml hz));have HRD:=aF (fun (W:World) (hb:Below w.heap.size w W) (ho:Ok12 b)=>zT b bh p W (H.keep hb) (by have:=ho.cnt;omega) hp);have HUS:=aF (fun (W:World) (hb:Below w.heap.size w W) (ho:Ok12 b)=>uQ b bh p W (H.keep hb) (by have:=ho.cnt;omega) hp (fun z hz=>ho.sml hz));have HRU:=aF (fun (W:World) (hb:Below w.heap.size w W) (ho:Ok12 b)=>zL b bh p W (H.keep hb) (by have:=ho.cnt;omega) hp (fun z hz=>ho.sml hz));have HE:=aF (fun (A B:Option Addr) (c d:Nat) (xs ys:List Int) (W:World) (h1:Slc 1 RInt W A c xs) (h2:Slc 1 RInt W B d ys)=>kL A B c d xs ys W h1 h2);have HIN:=aF (rW srt_nil (usP b.blocks p));obtain ⟨A1,c1,A2,c2,A3,c3,A4,c4,A5,c5⟩:=bh
 obtain ⟨dd,hd,hdv⟩:∃(dd:Int) (hd:Bool),dfV (dfP b.blocks p) = .tuple #[.int .i64 dd,.bool hd]:=by
  cases dfP b.blocks p with
  | none=>exact ⟨_,_,rfl⟩
  | some x=>exact ⟨_,_,rfl⟩
 rw [hdv] at HDE HRD;unfold bdC at *;simp only at *;obtain ⟨W0,hW0⟩:∃W,w.alloc (.cells ([Value.string b.name,.slice A1 b.regions.length c1,.slice A2 b.outl.length c2,.slice A3 b.types.length c3,.slice A4 b.locals.length c4,.int .i64 b.args,.slice A5 b.blocks.length c5]).toArray 28)=W:=⟨_,rfl⟩;have hb0:Below w.heap.size w W0:=by rw [<- hW0];exact (aX _ _).alloc (aY _) _
 have HB0:=aF hb0;have hcx:=cQ w [Value.string b.name,.slice A1 b.regions.length c1,.slice A2 b.outl.length c2,.slice A3 b.types.length c3,.slice A4 b.locals.length c4,.int .i64 b.args,.slice A5 b.blocks.length c5] 28;rw [hW0] at hcx;have HX:=aF (fun (W:World) (hb:Below W0.heap.size W0 W) i v h=>cO hb (hcx i v h));have hX:=hcx;obtain ⟨y0,y1,y2,y3,y4,y5,y6⟩:=aS hX;clear hX hcx hb0 hT H hz hdv hp;go_enter Tryz.func3,Tryz.ntmps3
 go_wp2_with fail
 go_at_call 9
 refine (HSK.out W0 HB0.out).mono ?_;rintro e' w1 ⟨⟨q,rfl,hq⟩,hw1⟩;clear y0 y1 y2 y3 y4 y5 y6;have hX:=HX.out w1 hw1;obtain ⟨y0,y1,y2,y3,y4,y5,y6⟩:=aS hX;clear hX;have HW1:=aF hw1;have HB1:=aF (HB0.out.trans (hw1.mono HB0.out.size));clear hw1;by_cases hq0:0<q
 ·clear hq;go_wp2_with (go_at_call 10;refine (HAL.out _ HB1.out).mono ?_;rintro e' w2 ⟨rfl,hw2⟩)
  go_ret;exact ⟨rfl,HB1.out.trans (hw2.mono HB1.out.size)⟩
 ·have HOK:=aF (hq (by omega));clear hq
  go_wp2_with (first
   | (go_at_call 12;refine (HRD.out _ HB2.out HOK.out).mono ?_;rintro e' w3 ⟨rfl,hw3⟩;have HB3:=aF (HB2.out.trans (hw3.mono HB2.out.size));have HW3:=aF (HW2.out.trans (hw3.mono HW2.out.size));clear y0 y1 y2 y3 y4 y5 y6 hw3)
   | (go_at_call 11;refine (HDE.out _ HB1.out HOK.out).mono ?_;rintro e' w2 ⟨rfl,hw2⟩;have HB2:=aF (HB1.out.trans (hw2.mono HB1.out.size));have HW2:=aF (HW1.out.trans (hw2.mono HW1.out.size));clear y0 y1 y2 y3 y4 y5 y6 hw2;have hX:=HX.out w2 HW2.out;obtain ⟨y0,y1,y2,y3,y4,y5,y6⟩:=aS hX;clear hX))
  have hS:Below W0.heap.size W0 w3.drew:=HW3.out.drew;have HD3:=aF HB3.out.drew;refine cT (S:=fun X=>Below W0.heap.size W0 X) [0,1,2,3,5,6,4,7,8,9,10,11,12,13,14,15,16,17,18,19,20] (by kernel_rfl) ?_;(refine cY (fun K1 hK1=>?_);simp only [aM];rw [bA (by rfl)];go_simp);refine (HAL.out _ HD3.out).mono ?_;rintro e' w5 ⟨rfl,hw5⟩;have HB5:=aF (HD3.out.trans (hw5.mono HD3.out.size));have hS5:=hS.trans (hw5.mono hS.size);refine hK1.out _ _ (fun _=>hS5) ?_;clear hS hw5;have hS:=hS5;(iterate 5 (refine cR (v:=?_) ?_ hS ?_;rotate_left;(next=>(rintro X hx;have hX:=HX.out X hx;obtain ⟨y0,y1,y2,y3,y4,y5,y6⟩:=aS hX;(try simp only [aI]);go_simp;rfl));simp only [aM]));(refine cY (fun K1 hK1=>?_);simp only [aM];rw [bA (by rfl)];go_simp);refine (HUS.out _ HB5.out HOK.out).mono ?_;rintro e' w6 ⟨A6,c6,s6,rfl,hs6,h6,hw6⟩;have HB6:=aF (HB5.out.trans (hw6.mono HB5.out.size));have hS6:=hS.trans (hw6.mono hS.size);refine hK1.out _ _ (fun _=>hS6) ?_;(refine cY (fun K1 hK1=>?_);simp only [aM];rw [bA (by rfl)];go_simp);refine (HRU.out _ HB6.out HOK.out).mono ?_;rintro e' w7 ⟨A7,c7,rfl,h7,hw7⟩;have HB7:=aF (HB6.out.trans (hw7.mono HB6.out.size));have hS7:=hS6.trans (hw7.mono hS6.size);have h6':=h6.keep RInt.keeps hw7;refine hK1.out _ _ (fun _=>hS7) ?_;(refine cY (fun K1 hK1=>?_);simp only [aM];rw [bA (by rfl)];go_simp);refine (HE.out A6 A7 c6 c7 s6 _ _ h6' h7).mono ?_;rintro e' w8 ⟨rfl,q8,hq8⟩;rw [show decide (s6=insL [] (usP b.blocks p))=true from decide_eq_true (hs6.uniq (HIN.out.iff fun z=>by simp))];have HB8:=aF (by rw [hq8];exact aG HB7.out _:Below w.heap.size w w8);have hS8:Below W0.heap.size W0 w8:=by rw [hq8];exact aG hS7 _
  refine hK1.out _ _ (fun _=>hS8) ?_;clear hS;have hS:=hS8;(iterate 12 (refine cR (v:=?_) ?_ hS ?_;rotate_left;(next=>(rintro X -;(try simp only [aI]);go_simp;rfl));simp only [aM]));refine cZ ?_;go_wp2_with fail
  go_ret;exact ⟨rfl,HB8.out⟩
end
section
open Go Go.ChangeShapes Go.WideShapes Go.ChangeAt Go.RowKit
theorem jR (os:Os) (started:os.Started) (H:Type) (enc:TypeId × Value->H):
 ReturnsInHanded {} Tryz.checked os 3 .any (fun w args=>(Rows.livenessUsesSpec.pre enc Tryz.prog Tryz.f3 [] false w args/\laidMetH Tryz.prog Rows.livenessUsesRow.laid w)/\sizedMet enc Tryz.prog Tryz.f3 (OpenSpec.ofChange Rows.livenessUsesSpec) false w args)
  (Rows.livenessUsesSpec.post enc Tryz.prog Tryz.f3 false true false false):=by
 refine returnsInHanded_of_change_and (C:=Tryz.checked) (X:=fun w _=>laidMetH Tryz.prog Rows.livenessUsesRow.laid w) (fun _ _ _ hh h=>h.of_heap hh) Tryz.own started (by kernel_rfl) Tryz.func3
  (ChangeSpec.witness_shaped (enc:=enc) (C:=Tryz.checked) (os:=os) (X:=fun w _=>laidMetH Tryz.prog Rows.livenessUsesRow.laid w) false (World.laidAll Tryz.prog os Rows.livenessUsesRow.laid) #[.agg #[.string ⟨#[]⟩,.slice none 0 0,.slice none 0 0,.slice none 0 0,.slice none 0 0,.int .i64 0,.slice none 0 0],.int .i64 0] 8 (World.laidAll_os _ _ _) (World.shaped_of_ZipB (by kernel_rfl) (by kernel_rfl)) (by kernel_rfl) (by kernel_rfl) (by kernel_rfl)
    (by rw [MakeChecks.laidMetH_plain _ _ _ (by kernel_rfl)];exact laidMet_laidAll _ (by kernel_rfl) (by kernel_rfl))) ?_
 intro W base args ds gs before hval0 hW _ hwt hL _;have hval:∀(j:Nat) t v,Tryz.f3.params[j]?=some t->args[j]?=some v->Value.okWide Tryz.prog W .any base t v:=hval0;have hW':=hW;obtain ⟨p,q,hA0,hV,rfl,hfz,hnd⟩:=hW;have hA:DataW.TrodAll enc Tryz.prog W 0 (fun _=>true) true Tryz.f3.params.toList args.toList ds p:=hA0;rw [Tryz.params3] at hA hval;obtain ⟨v0,v1,d0,d1,p0,p1,rfl,rfl,rfl,h0,h1⟩:=trodAll_two hA;obtain ⟨rfl,rfl⟩:=trodVars_none hV;obtain ⟨bb,bh,rfl,hbd,hnm⟩:=wI (hval 0 _ v0 rfl rfl) h0;have hTT:=xEF hL;obtain ⟨x1,rfl,hx1⟩:=xAC (hval 1 _ v1 rfl rfl) h1;clear hA0 hval0;refine (wS bb bh x1 W hTT hbd hnm hx1).mono fun e W' ⟨he,hb⟩=>?_
 exact ⟨_,he,xAN Tryz.laidOut rfl (by kernel_rfl) Tryz.underlying4 rfl (by rw [Tryz.params3];intro t ht;simp at ht;rcases ht with rfl | rfl <;> exact ⟨by kernel_rfl,of_decide_eq_true (by kernel_rfl)⟩) hW' hb⟩
theorem mD:Rows.LivenessUsesSaid:=
 OpenClaim.holds_of_wide 3 Tryz.f3 rfl rfl rfl rfl rfl rfl rfl ⟨rfl,rfl,rfl,rfl,rfl⟩ rfl rfl rfl rfl rfl (by kernel_rfl) Tryz.func3 jS
  (of_decide_eq_true (by kernel_rfl)) (by unfold Func.isWrapper;first | (rw [bA (by decide +kernel)];kernel_rfl) | (rw [aZ (by decide +kernel)];exact ⟨rfl,rfl⟩))
  (fun os started H enc _=>jR os started H enc)
theorem LivenessUses_holds:Rows.LivenessUsesCardSaid:=
 Claim7.holds_tied_plain_at .later [] [.data, .widerDeep, .widerDeep, .pinned] true (true, "c508f7b79725eb36423e68c36a915c820725776de7feaa7e39e53a602ed9389b") false
  mD (fun _ h=>by cases h) (by kernel_rfl) (fun _ h=>by cases h) livenessUses_row_tie rfl ⟨rfl,rfl⟩ (by kernel_rfl) rfl
  (fun f fn hf hfn=>by
    obtain rfl:f=3:=Option.some.inj ((show Tryz.prog.funcNamed Rows.livenessUsesRow.func=some 3 by kernel_rfl).symm.trans hf) |>.symm;obtain rfl:fn=Tryz.f3:=(Option.some.inj (Tryz.func3.symm.trans hfn)).symm
    exact ⟨by kernel_rfl,fun j t ht=>by
     rw [Tryz.params3] at ht;have hm:t∈[28,3]:=(by simpa using Array.mem_of_getElem? ht);have hall:([28,3].all fun u=> !Tryz.prog.wantsStandIn u)=true:=by kernel_rfl
     exact (show Tryz.prog.wantsStandIn t=false by simpa using List.all_eq_true.1 hall t hm)⟩)
  (by kernel_rfl)
end
end Go.Proofs.YtcfchohkmkilpaaGreatDoor
