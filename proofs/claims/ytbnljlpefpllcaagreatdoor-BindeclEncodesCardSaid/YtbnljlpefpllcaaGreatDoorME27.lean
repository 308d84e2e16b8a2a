/-
  BindeclEncodes: for every body and all names the law answers true, and the arguments read as they did; the card of the row. Condition: the four listed variables hold at the start what the text of the program lays (the given tie; one is a table of the library, pinned by its name).
-/
import Derived.Test.YtbnljlpefpllcaaGreatDoorME0
import Derived.Test.YtbnljlpefpllcaaGreatDoorME25
import Derived.Test.YtbnljlpefpllcaaGreatDoorME26
import Derived.Test.YtbnljlpefpllcaaGreatDoorTie
import Derived.Test.YtbnljlpefpllcaaGreatDoorCards
import Derived.SevenTiedAt
import Derived.SizedLaws
import Derived.Lay
namespace Go.Proofs.YtbnljlpefpllcaaGreatDoor
set_option maxRecDepth 100000
set_option maxHeartbeats 16000000
section
open Go Go.RowKit
theorem xDC (b:Bdy) (bh:BH) (xs:List ByteArray) (B:Option Addr) (d:Nat) (w:World) (hT:TabsOk w) (H:BdAt w b bh) (hz:NmOk b) (hx:Slc 1 RN w B d xs):
 Calls Tryz.prog 3 #[.agg (bdC b bh).toArray,.slice B xs.length d] w (fun e' w'=>e' = .returned (.bool true)∧Below w.heap.size w w'):=by
 obtain ⟨A1,c1,A2,c2,A3,c3,A4,c4,A5,c5⟩:=bh
 obtain ⟨W,hW⟩:∃W,w.alloc (.cells #[Value.string b.name,.slice A1 b.regions.length c1,.slice A2 b.outl.length c2,.slice A3 b.types.length c3,.slice A4 b.locals.length c4,.int .i64 b.args,.slice A5 b.blocks.length c5] 28)=W:=⟨_,rfl⟩
 have hbw:Below w.heap.size w W:=by rw [← hW];exact alF _ _
 have HCC:Hid (aA (bdM b A1 c1 A2 c2 A3 c3 A4 c4 A5 c5 []) W w.heap.size):=aF (by rw [← hW];exact cW w [Value.string b.name,.slice A1 b.regions.length c1,.slice A2 b.outl.length c2,.slice A3 b.types.length c3,.slice A4 b.locals.length c4,.int .i64 b.args,.slice A5 b.blocks.length c5] 28)
 have HB:=aF hbw
 have HT:=aF (fun W' hb=>hT.keep (w':=W') hb)
 have HX:=aF (hx.keep RN.keeps hbw)
 have HZ:=aF hz
 have HH:=aF H
 have HL:=aF (fun W' hb=>xAS W' (hT.keep hb))
 have HS:Hid (∀W',Below w.heap.size w W'→Calls Tryz.prog 9 #[.agg #[Value.string b.name,.slice A1 b.regions.length c1,.slice A2 b.outl.length c2,.slice A3 b.types.length c3,.slice A4 b.locals.length c4,.int .i64 b.args,.slice A5 b.blocks.length c5]] W' fun e' w'=>(∃q:Int,e' = .returned (.int .i64 q)∧(q≤0→NotSkip b))∧Below W'.heap.size W' w'):=aF (fun W' hb=>xBV b ⟨A1,c1,A2,c2,A3,c3,A4,c4,A5,c5⟩ W' (H.keep hb) hz)
 clear hT H hz hx hbw
 unfold bdC
 simp only
 change Calls _ _ #[.agg #[Value.string b.name,.slice A1 b.regions.length c1,.slice A2 b.outl.length c2,.slice A3 b.types.length c3,.slice A4 b.locals.length c4,.int .i64 b.args,.slice A5 b.blocks.length c5],_] _ _
 go_enter Tryz.func3,Tryz.ntmps3
 go_wp2_with fail
 go_at_call 8
 refine (uY xs B d W HX.out).mono ?_
 rintro e' w1 ⟨hb1,h1⟩
 replace HCC:=aF (cells_kept HCC.out hb1)
 replace HB:=aF (keep0 hb1 HB.out)
 clear hb1 HX
 obtain ⟨y0,y1,y2,y3,y4,y5,y6⟩:=aQ HCC.out
 rcases h1 with ⟨rfl,_⟩ | ⟨_,hxl,t,B1,d1,T,d2,rfl,ht,hT,_⟩
 ·go_wp2_with fail
  go_at_call 10
  refine (HL.out w1 HB.out).mono ?_
  rintro e' w2 ⟨rfl,hb2⟩
  have HB2:=aF (keep0 hb2 HB.out)
  clear hb2
  go_wp2_with fail
  go_ret
  exact ⟨rfl,HB2.out⟩
 have htl:=xGQ hxl
 have hsrt:=kP xs
 generalize tabB [] xs=tbl at *
 have HTT:=aF ht
 have HTR:=aF hT
 have HSRT:=aF hsrt
 clear ht hT hsrt hxl
 go_wp2_with fail
 go_at_call 9
 refine (HS.out w1 HB.out).mono ?_
 rintro e' w2 ⟨⟨q,rfl,hq⟩,hb2⟩
 replace HCC:=aF (cells_kept HCC.out hb2)
 replace HB:=aF (keep0 hb2 HB.out)
 replace HTT:=aF (HTT.out.keep hb2)
 replace HTR:=aF (HTR.out.keep RN.keeps hb2)
 clear hb2 HS
 clear y0 y1 y2 y3 y4 y5 y6
 by_cases hq0:0<q
 ·clear hq
  go_wp2_with fail
  go_at_call 10
  refine (HL.out w2 HB.out).mono ?_
  rintro e' w3 ⟨rfl,hb3⟩
  have HB3:=aF (keep0 hb3 HB.out)
  clear hb3
  go_wp2_with fail
  go_ret
  exact ⟨rfl,HB3.out⟩
 have hns:=hq (by omega)
 have hlen:chkB b=0→(declX tbl b).length≤1000000:=fun h=>xAH (hns.nm (rA h))
 have hlen2:chkB b=0→(declW tbl b).length≤1000000:=fun h=>xDL (hns.nm (rA h))
 have HP:Hid (Calls Tryz.prog 11 #[.agg #[Value.string b.name,.slice A1 b.regions.length c1,.slice A2 b.outl.length c2,.slice A3 b.types.length c3,.slice A4 b.locals.length c4,.int .i64 b.args,.slice A5 b.blocks.length c5],.pointer (some ⟨t,0,none⟩)] w2 (uQ (encR tbl b) w2)):=aF ((lB b ⟨A1,c1,A2,c2,A3,c3,A4,c4,A5,c5⟩ t B1 d1 tbl w2 (HH.out.keep HB.out) (HT.out _ HB.out) HTT.out HSRT.out (by omega) hlen).mono (fun _ _=>EncPost.res))
 have HR:Hid (∀W',Below w2.heap.size w2 W'→Calls Tryz.prog 12 #[.agg #[Value.string b.name,.slice A1 b.regions.length c1,.slice A2 b.outl.length c2,.slice A3 b.types.length c3,.slice A4 b.locals.length c4,.int .i64 b.args,.slice A5 b.blocks.length c5],.slice T tbl.length d2] W' (uQ (encR tbl b) W')):=aF (fun W' hb=>(rT b ⟨A1,c1,A2,c2,A3,c3,A4,c4,A5,c5⟩ T d2 tbl W' (HH.out.keep (keep0 hb HB.out)) HZ.out (HTR.out.keep RN.keeps hb) (by omega) hlen2).mono (fun _ _=>EncPost.res))
 generalize encR tbl b=z at HP HR
 obtain ⟨er,out⟩:=z
 clear hq hns hlen hlen2 HTT HTR
 obtain ⟨y0,y1,y2,y3,y4,y5,y6⟩:=aQ HCC.out
 go_wp2_with fail
 go_at_call 11
 refine HP.out.mono ?_
 rintro e' w3 ⟨P,p,rfl,hs3,hb3⟩
 replace HCC:=aF (cells_kept HCC.out hb3)
 have HB3:=aF (keep0 hb3 HB.out)
 have HR3:=aF (HR.out w3 hb3)
 have HS3:=aF hs3
 clear hb3 hs3 HP HR
 clear y0 y1 y2 y3 y4 y5 y6
 obtain ⟨y0,y1,y2,y3,y4,y5,y6⟩:=aQ HCC.out
 simp only at HS3 HR3 ⊢
 go_wp2_with fail
 go_at_call 12
 refine HR3.out.mono ?_
 rintro e' w4 ⟨P4,p4,rfl,hs4,hb4⟩
 have HB4:=aF (keep0 hb4 HB3.out)
 have HS34:=aF (HS3.out.keep RB.keeps hb4)
 have HS4:=aF hs4
 clear hb4 hs4 HR3 HS3 HCC
 clear y0 y1 y2 y3 y4 y5 y6
 go_wp2_with fail
 go_at_call 10
 refine (HL.out w4 HB4.out).mono ?_
 rintro e' w5 ⟨rfl,hb5⟩
 have HB5:=aF (keep0 hb5 HB4.out)
 have HQ:=aF (lU (HS34.out.keep RB.keeps hb5) (HS4.out.keep RB.keeps hb5) _ _ rfl rfl)
 rw [show decide (out=out)=true by simp] at HQ
 clear hb5 HS34 HS4
 go_wp2_with fail
 go_at_call 13
 refine HQ.out.mono ?_
 rintro e' w6 ⟨rfl,hw⟩
 obtain rfl:=hw.symm
 go_wp2_with fail
 go_ret
 exact ⟨by simp,HB5.out⟩
end
section
open Go Go.ChangeShapes Go.WideShapes Go.ChangeAt Go.RowKit
theorem jS (os:Os) (started:os.Started) (H:Type) (enc:TypeId × Value→H):
 ReturnsInHanded {} Tryz.checked os 3 .any (fun w args=>(Rows.bindeclEncodesSpec.pre enc Tryz.prog Tryz.f3 [] false w args∧laidMetH Tryz.prog Rows.bindeclEncodesRow.laid w)∧sizedMet enc Tryz.prog Tryz.f3 (OpenSpec.ofChange Rows.bindeclEncodesSpec) false w args)
  (Rows.bindeclEncodesSpec.post enc Tryz.prog Tryz.f3 false true false false):=by
 refine returnsInHanded_of_change_and (C:=Tryz.checked) (X:=fun w _=>laidMetH Tryz.prog Rows.bindeclEncodesRow.laid w) (fun _ _ _ hh h=>h.of_heap hh) Tryz.own started (by kernel_rfl) Tryz.func3
  (ChangeSpec.witness_shaped (enc:=enc) (C:=Tryz.checked) (os:=os) (X:=fun w _=>laidMetH Tryz.prog Rows.bindeclEncodesRow.laid w) false (World.laidAll Tryz.prog os Rows.bindeclEncodesRow.laid) #[.agg #[.string ⟨#[]⟩,.slice none 0 0,.slice none 0 0,.slice none 0 0,.slice none 0 0,.int .i64 0,.slice none 0 0],.slice none 0 0] 8 (World.laidAll_os _ _ _) (World.shaped_of_ZipB (by kernel_rfl) (by kernel_rfl)) (by kernel_rfl) (by kernel_rfl) (by kernel_rfl)
    (by rw [MakeChecks.laidMetH_plain _ _ _ (by kernel_rfl)];exact laidMet_laidAll _ (by kernel_rfl) (by kernel_rfl))) ?_
 intro W base args ds gs before hval0 hW _ hwt hL _
 have hval:∀(j:Nat) t v,Tryz.f3.params[j]?=some t→args[j]?=some v→Value.okWide Tryz.prog W .any base t v:=hval0
 have hW':=hW
 obtain ⟨p,q,hA0,hV,rfl,hfz,hnd⟩:=hW
 have hA:DataW.TrodAll enc Tryz.prog W 0 (fun _=>true) true Tryz.f3.params.toList args.toList ds p:=hA0
 rw [Tryz.params3] at hA hval
 obtain ⟨v0,v1,d0,d1,p0,p1,rfl,rfl,rfl,h0,h1⟩:=trodAll_two hA
 obtain ⟨rfl,rfl⟩:=trodVars_none hV
 obtain ⟨bb,bh,rfl,hbd,hnm⟩:=yV (hval 0 _ v0 rfl rfl) h0
 obtain ⟨A1,c1,xs1,rfl,hs1⟩:=wC (hval 1 _ v1 rfl rfl) h1
 clear hA0 hval0
 refine (xDC bb bh xs1 A1 c1 W (xEY hL) hbd hnm hs1).mono fun e W' ⟨he,hb⟩=>?_
 exact ⟨_,he,xDB Tryz.laidOut rfl (by kernel_rfl) Tryz.underlying4 rfl (by rw [Tryz.params3];intro t ht;simp at ht;rcases ht with rfl | rfl <;> exact ⟨by kernel_rfl,of_decide_eq_true (by kernel_rfl)⟩) hW' hb⟩
theorem kU:Rows.BindeclEncodesSaid:=
 OpenClaim.holds_of_wide 3 Tryz.f3 rfl rfl rfl rfl rfl rfl rfl ⟨rfl,rfl,rfl,rfl,rfl⟩ rfl rfl rfl rfl rfl (by kernel_rfl) Tryz.func3 jT
  (of_decide_eq_true (by kernel_rfl)) (by unfold Func.isWrapper;first | (rw [aY (by decide +kernel)];kernel_rfl) | (rw [aX (by decide +kernel)];exact ⟨rfl,rfl⟩))
  (fun os started H enc _=>jS os started H enc)
theorem BindeclEncodes_holds:Rows.BindeclEncodesCardSaid:=
 Claim7.holds_tied_plain_at .later [] [.data, .widerDeep, .widerDeep, .pinned] true (true, "df92e3dffe42141494600ee8b20469a2441dd03061facf2bfbf3bc0513c4d676") false
  kU (fun _ h=>by cases h) (by kernel_rfl) (fun _ h=>by cases h) bindeclEncodes_row_tie rfl ⟨rfl,rfl⟩ (by kernel_rfl) rfl
  (fun f fn hf hfn=>by
    obtain rfl:f=3:=Option.some.inj ((show Tryz.prog.funcNamed Rows.bindeclEncodesRow.func=some 3 by kernel_rfl).symm.trans hf) |>.symm
    obtain rfl:fn=Tryz.f3:=(Option.some.inj (Tryz.func3.symm.trans hfn)).symm
    exact ⟨by kernel_rfl,fun j t ht=>by
     rw [Tryz.params3] at ht
     have hm:t∈[28,22]:=by simpa using Array.mem_of_getElem? ht
     have hall:([28,22].all fun u=> !Tryz.prog.wantsStandIn u)=true:=by kernel_rfl
     exact (show Tryz.prog.wantsStandIn t=false by simpa using List.all_eq_true.1 hall t hm)⟩)
  (by kernel_rfl)
end
end Go.Proofs.YtbnljlpefpllcaaGreatDoor
