/-
  PrinterPlaces: for every body and every place the law answers true, and the arguments read as they did; the card of the row. Condition: the nine listed variables hold at the start what the text of the program lays (the given tie; one is a table of the library, pinned by its name).
-/
import Derived.Test.YtmknfbfppmkcfaaGreatDoorPP0
import Derived.Test.YtmknfbfppmkcfaaGreatDoorPP10
import Derived.Test.YtmknfbfppmkcfaaGreatDoorPP14
import Derived.Test.YtmknfbfppmkcfaaGreatDoorPP1
import Derived.Test.YtmknfbfppmkcfaaGreatDoorPP18
import Derived.Test.YtmknfbfppmkcfaaGreatDoorPP15
import Derived.Test.YtmknfbfppmkcfaaGreatDoorPP11
import Derived.Test.YtmknfbfppmkcfaaGreatDoorPP12
import Derived.Test.YtmknfbfppmkcfaaGreatDoorPP2
import Derived.Test.YtmknfbfppmkcfaaGreatDoorPP13
import Derived.Test.YtmknfbfppmkcfaaGreatDoorPP7
import Derived.Test.YtmknfbfppmkcfaaGreatDoorPP5
import Derived.Test.YtmknfbfppmkcfaaGreatDoorPP8
import Derived.Test.YtmknfbfppmkcfaaGreatDoorPP9
import Derived.Test.YtmknfbfppmkcfaaGreatDoorPP4
import Derived.Test.YtmknfbfppmkcfaaGreatDoorPP19
import Derived.Test.YtmknfbfppmkcfaaGreatDoorPP21
import Derived.Test.YtmknfbfppmkcfaaGreatDoorTie
import Derived.Test.YtmknfbfppmkcfaaGreatDoorCards
import Derived.Deep.CutBlock
import Derived.JoinedOf
import Derived.SevenTiedAt
import Derived.SizedLaws
import Derived.Lay
namespace Go.Proofs.YtmknfbfppmkcfaaGreatDoor
set_option maxRecDepth 100000
set_option maxHeartbeats 16000000
section
open Go Go.RowKit
attribute [local irreducible] Calls
theorem sD (b:Bdy) (bh:BH) (p:Plc) (A:Option Addr) (c:Nat) (w:World) (hT:TabsOk w) (hpow:PowTab w) (hsp:SpTab w) (H:BdAt w b bh) (hp:Slc 2 RPj w A c p.proj) (hf:∀x∈p.proj,fitJ x):
 Calls Tryz.prog 5 #[.agg (bdC b bh).toArray,.agg #[.int .i64 p.loc,.slice A p.proj.length c]] w fun e' w'=>e' = .returned (.bool true)/\Below w.heap.size w w':=by
 have HAL:=aF (fun (W:World) (hb:Below w.heap.size w W)=>nJ W (hT.keep hb) (hpow.keep hb) (hsp.keep hb));have HPR:=aF (fun (W:World) (hb:Below w.heap.size w W) (hs:chk p.loc p.proj=0->Sm (placeP b.locals p))=>gY b bh p A c W (H.keep hb) (hpow.keep hb) (hp.keep RPj.keeps hb) hf hs);have HRR:=aF (fun (W:World) (hb:Below w.heap.size w W) (hs:chk p.loc p.proj=0->Sm (placeP b.locals p))=>mH b bh p A c W (H.keep hb) (hp.keep RPj.keeps hb) hf hs)
 have HSM:Hid ((∀l∈b.locals,l.name.size<=1000)->chk p.loc p.proj=0->Sm (placeP b.locals p)):=aF (fun hn hc=>by
  have h1:=xS hf;have h2:=(jW hc).2
  have h3:(nmP b.locals p.loc).length<=1000:=by
   unfold nmP;cases e:b.locals[p.loc.toNat]? with
   | none=>simp
   | some x=>exact hn x (List.mem_of_getElem? e)
  show (placeP b.locals p).length<=_;unfold placeP;rw [bK,bB]
  omega)
 have HLC:=aF H.loc;have l4:=H.loc.le;have m4:=H.loc.big;have pl:=hp.le;have pm:=hp.big;obtain ⟨A1,c1,A2,c2,A3,c3,A4,c4,A5,c5⟩:=bh;generalize plR b p=R at *;obtain ⟨R1,R2⟩:=R;obtain ⟨xl,xj⟩:=p;unfold bdC at *;simp only at *;obtain ⟨Wa,hWa⟩:∃W,w.alloc (.cells ([Value.string b.name,.slice A1 b.regions.length c1,.slice A2 b.outl.length c2,.slice A3 b.types.length c3,.slice A4 b.locals.length c4,.int .i64 b.args,.slice A5 b.blocks.length c5]).toArray 28)=W:=⟨_,rfl⟩;obtain ⟨W0,hW0⟩:∃W,Wa.alloc (.cells [Value.int .i64 xl,.slice A xj.length c].toArray 46)=W:=⟨_,rfl⟩;have hba:Below w.heap.size w Wa:=by rw [<- hWa];exact (aX _ _).alloc (aY _) _
 have hbb:Below Wa.heap.size Wa W0:=by rw [<- hW0];exact (aX _ _).alloc (aY _) _
 have hsa:Wa.heap.size=w.heap.size+1:=by rw [<- hWa];simp
 have HB0:=aF (hba.trans (hbb.mono hba.size));have hcx:=cP w [Value.string b.name,.slice A1 b.regions.length c1,.slice A2 b.outl.length c2,.slice A3 b.types.length c3,.slice A4 b.locals.length c4,.int .i64 b.args,.slice A5 b.blocks.length c5] 28;rw [hWa] at hcx;have hcf:=cP Wa [Value.int .i64 xl,.slice A xj.length c] 46;rw [hW0,hsa] at hcf;have HX:=aF (fun (W:World) (hb:Below W0.heap.size W0 W) i v h=>cJ hb (cJ hbb (hcx i v h)));have HZ:=aF (fun (W:World) (hb:Below W0.heap.size W0 W) i v h=>cJ hb (hcf i v h));have y4:=HX.out W0 (aX _ _) 4 _ rfl;have z1:=HZ.out W0 (aX _ _) 1 _ rfl;clear hcx hcf hba hbb hT hpow hsp H hp hf;go_enter Tryz.func5,Tryz.ntmps5
 by_cases h1:(1000:Int)<xj.length
 case pos=>
  go_wp2_with (go_at_call 9;refine (HAL.out _ HB0.out).mono ?_;rintro e' w2 ⟨rfl,hw2⟩)
  go_ret;exact ⟨rfl,HB0.out.trans (hw2.mono HB0.out.size)⟩
 case neg=>
 by_cases h2:(1000:Int)<b.locals.length
 case pos=>
  go_wp2_with (go_at_call 9;refine (HAL.out _ HB0.out).mono ?_;rintro e' w2 ⟨rfl,hw2⟩)
  go_ret;exact ⟨rfl,HB0.out.trans (hw2.mono HB0.out.size)⟩
 case neg=>
 go_upto_block 0 with fail
 go_cut [] (fun wx=>Below W0.heap.size W0 wx/\∀l∈b.locals,l.name.size<=1000)
 case first=>
  go_wp2_with fail
  go_loopw [25] (fun i wr=>∃k:Nat,k<=b.locals.length/\i = .int .i64 k/\Hid (Below W0.heap.size W0 wr)/\Hid (∀l∈b.locals.take k,l.name.size<=1000)) (fun i _=>b.locals.length - (intOf i).toNat)
  case atStart=>exact ⟨0,by omega,rfl,aF (aX _ _),aF (by simp)⟩
  case round=>
   obtain ⟨k,hk,rfl,HB,HN⟩:=hrel;have HBw:=aF (HB0.out.trans (HB.out.mono HB0.out.size));have hsz:=HB.out.size;by_cases hlt:k<b.locals.length
   case neg=>
    have HA:Hid (∀l∈b.locals,l.name.size<=1000):=aF (by have h:=HN.out;rwa [List.take_of_length_le (by omega)] at h);go_wp2_with fail
    go_meet;exact ⟨HB.out,HA.out⟩
   case pos=>
   obtain ⟨bb,oo,rfl,hbb,hx⟩:=(HLC.out.keep RLc.keeps HBw.out).sl.at_ hlt
   have HN2:Hid (b.locals[k].name.size<=1000->∀l∈b.locals.take (k+1),l.name.size<=1000):=aF (fun h l hl=>by
    rw [bF hlt] at hl;rcases List.mem_append.1 hl with hl | hl
    ·exact HN.out l hl
    ·rw [List.mem_singleton.1 hl];exact h)
   generalize b.locals[k]=x at *;obtain ⟨xn,xt⟩:=x;obtain ⟨g0,g1⟩:=hx;simp only at g0 g1 HN2;by_cases hn:(1000:Int)<xn.size
   case pos=>
    have HBa:=aF (fun (o:Obj)=>HBw.out.alloc HBw.out.size o);go_wp2_with (go_at_call 9;refine (HAL.out _ (HBa.out _)).mono ?_;rintro e' w2 ⟨rfl,hw2⟩)
    go_ret;exact ⟨rfl,(HBa.out _).trans (hw2.mono (HBa.out _).size)⟩
   case neg=>
    have HN3:=aF (HN2.out (by omega));go_wp2_with fail
    go_roundw
    case rel=>exact ⟨k+1,by omega,by go_num,aF (HB.out.alloc hsz _),HN3⟩
    case measure=>simp [intOf];omega
 case rest=>
 obtain ⟨hbc,hn⟩:=hcut;have HSS:=aF (HSM.out hn);have HBc:=aF (HB0.out.trans (hbc.mono HB0.out.size));have hX:=HX.out wc hbc;have hZ:=HZ.out wc hbc;obtain ⟨v0,v1,v2,v3,v4,v5,v6⟩:=aS hX;obtain ⟨u0,u1⟩:=aN hZ;clear hX hZ y4 z1 hn HSM
 go_wp2_with (first
  | (go_at_call 15;refine (HPR.out _ HBc.out HSS.out).mono ?_;rintro e' w3 ⟨rfl,hw3⟩;have hX:=HX.out w3 (hbc.trans (hw3.mono hbc.size));have hZ:=HZ.out w3 (hbc.trans (hw3.mono hbc.size));obtain ⟨y0,y1,y2,y3,y4,y5,y6⟩:=aS hX;obtain ⟨z0,z1⟩:=aN hZ;clear hX hZ;have HB3:=aF (HBc.out.trans (hw3.mono HBc.out.size)))
  | (go_at_call 16;refine (HRR.out _ HB3.out HSS.out).mono ?_;rintro e' w4 ⟨rfl,hw4⟩;have HB4:=aF (HB3.out.trans (hw4.mono HB3.out.size)))
  | (go_at_call 9;refine (HAL.out _ HB4.out).mono ?_;rintro e' w5 ⟨rfl,hw5⟩))
 all_goals (go_ret;exact ⟨by simp_all,HB4.out.trans (hw5.mono HB4.out.size)⟩)
end
section
open Go Go.RowKit
theorem cN {a b:Bool} (ha:a=true) (hb:b=true):(a && b)=true:=by rw [ha,hb];rfl
theorem mR:(Rows.printerPlacesRow.wf (OpenSpec.ofChange Rows.printerPlacesSpec))=true:=by kernel_rfl
theorem mQ:(laidOutB Tryz.prog)=true:=by kernel_rfl
theorem mP:(mapsRowed Tryz.prog)=true:=by kernel_rfl
theorem mO:(Tryz.f5.params.all (Tryz.prog.readableRec ·))=true:=by kernel_rfl
theorem mN:(namedTie Tryz.prog Rows.printerPlacesRow.named Rows.printerPlacesSpec.vars)=true:=by kernel_rfl
theorem mM:((Rows.printerPlacesRow.stops == []))=true:=by kernel_rfl
theorem mL:((Tryz.prog.stops == []))=true:=by kernel_rfl
theorem mK:((Rows.printerPlacesRow.knobs == []))=true:=by kernel_rfl
theorem mJ:((Tryz.prog.stopKnobs == []))=true:=by kernel_rfl
theorem mI:((Rows.printerPlacesRow.inPlace == Tryz.prog.inPlace 5))=true:=by kernel_rfl
theorem lH:((Rows.printerPlacesRow.unfollowed == Tryz.prog.unfollowed 5))=true:=by kernel_rfl
theorem lG:((Rows.printerPlacesRow.recurses == Tryz.prog.recurses 5))=true:=by kernel_rfl
theorem lF:((Rows.printerPlacesRow.named == Tryz.prog.varsNamed 5))=true:=by kernel_rfl
theorem lE:((Rows.printerPlacesRow.maps == (Tryz.f5.params.toList ++ Rows.printerPlacesSpec.plain.varTypes Tryz.prog).any (Tryz.prog.mapsRec ·)))=true:=by kernel_rfl
theorem lD:((Rows.printerPlacesRow.ifaces == (Tryz.f5.params.toList ++ Rows.printerPlacesSpec.plain.varTypes Tryz.prog).any (Tryz.prog.ifacesRec ·)))=true:=by kernel_rfl
theorem lC:((Rows.printerPlacesRow.mapsOut == Tryz.prog.mapsAmong Tryz.f5.resultTypes.toList))=true:=by kernel_rfl
theorem lB:((Rows.printerPlacesRow.loops == (Tryz.f5.params.toList ++ Rows.printerPlacesSpec.plain.varTypes Tryz.prog).any (Tryz.prog.loopsFrom ·)))=true:=by kernel_rfl
theorem lA:((Rows.printerPlacesRow.wideKeys == (Tryz.f5.params.toList ++ Rows.printerPlacesSpec.plain.varTypes Tryz.prog ++ Tryz.f5.resultTypes.toList).any (Tryz.prog.wideKeysFrom ·)))=true:=by kernel_rfl
theorem kZ:(Rows.printerPlacesSpec.vars.all (Tryz.prog.varReadable ·))=true:=by kernel_rfl
theorem kY:(Tryz.f5.resultTypes.all (fun t=>Tryz.prog.readableRec t && decide (t<Tryz.prog.types.size)))=true:=by kernel_rfl
theorem kX:((Rows.printerPlacesRow.ifacesOut == Tryz.f5.resultTypes.toList.any (Tryz.prog.ifacesRec ·)))=true:=by kernel_rfl
theorem kW:((Rows.printerPlacesRow.loopsOut == Tryz.f5.resultTypes.toList.any (Tryz.prog.loopsFrom ·)))=true:=by kernel_rfl
theorem kV:((Rows.printerPlacesRow.plainKeys == Tryz.prog.plainKeys))=true:=by kernel_rfl
theorem kU:(Rows.printerPlacesRow.shortTexts.isNone)=true:=by kernel_rfl
theorem kT:(Tryz.prog.stopsHeard)=true:=by kernel_rfl
theorem kS:(Tryz.prog.mayEnter)=true:=by kernel_rfl
theorem kR:((Rows.printerPlacesRow.lifted == Tryz.prog.liftsFinal))=true:=by kernel_rfl
theorem kQ:((Tryz.prog.make == some Rows.printerPlacesRow.make))=true:=by kernel_rfl
theorem kP:((Rows.printerPlacesRow.kinds == (if Rows.printerPlacesRow.domain.isEmpty then [] else Tryz.f5.params.toList.map fun t=>match Tryz.prog.underlying t with | some (.int k)=>some k | _=>none)))=true:=by kernel_rfl
theorem kO:((Rows.printerPlacesRow.pinned == Rows.printerPlacesRow.pinnedBy))=true:=by kernel_rfl
theorem kN:((Rows.printerPlacesRow.veiled == (Tryz.f5.params.toList ++ Rows.printerPlacesSpec.plain.varTypes Tryz.prog ++ Tryz.f5.resultTypes.toList).any (Tryz.prog.veiledRec ·)))=true:=by kernel_rfl
theorem kM:(Rows.printerPlacesRow.veiledFits Tryz.prog Tryz.f5.params.toList (Tryz.f5.params.toList ++ Rows.printerPlacesSpec.plain.varTypes Tryz.prog ++ Tryz.f5.resultTypes.toList))=true:=by kernel_rfl
theorem gN:joinedFacts Tryz.prog 5 Tryz.f5 Rows.printerPlacesSpec Rows.printerPlacesRow=true:=(cN (cN (cN (cN (cN (cN (cN (cN (cN (cN (cN (cN (cN (cN (cN (cN (cN (cN (cN (cN (cN (cN (cN (cN (cN (cN (cN (cN (cN (cN (cN mR mQ) mP) mO) mN) mM) mL) mK) mJ) mI) lH) lG) lF) lE) lD) lC) lB) lA) kZ) kY) kX) kW) kV) kU) kT) kS) kR) kQ) kP) kO) kN) kM)
end
section
open Go Go.ChangeShapes Go.WideShapes Go.ChangeAt Go.RowKit
theorem gM (os:Os) (started:os.Started) (H:Type) (enc:TypeId × Value->H):
 ReturnsInHanded {} Tryz.checked os 5 .any (fun w args=>(Rows.printerPlacesSpec.pre enc Tryz.prog Tryz.f5 [] false w args/\laidMetH Tryz.prog Rows.printerPlacesRow.laid w)/\sizedMet enc Tryz.prog Tryz.f5 (OpenSpec.ofChange Rows.printerPlacesSpec) false w args)
  (Rows.printerPlacesSpec.post enc Tryz.prog Tryz.f5 false true false false):=by
 refine returnsInHanded_of_change_and (C:=Tryz.checked) (X:=fun w _=>laidMetH Tryz.prog Rows.printerPlacesRow.laid w) (fun _ _ _ hh h=>h.of_heap hh) Tryz.own started (by kernel_rfl) Tryz.func5
  (ChangeSpec.witness_shaped (enc:=enc) (C:=Tryz.checked) (os:=os) (X:=fun w _=>laidMetH Tryz.prog Rows.printerPlacesRow.laid w) false (World.laidAll Tryz.prog os Rows.printerPlacesRow.laid) #[.agg #[.string ⟨#[]⟩,.slice none 0 0,.slice none 0 0,.slice none 0 0,.slice none 0 0,.int .i64 0,.slice none 0 0],.agg #[.int .i64 0,.slice none 0 0]] 8 (World.laidAll_os _ _ _) (World.shaped_of_ZipB (by kernel_rfl) (by kernel_rfl)) (by kernel_rfl) (by kernel_rfl) (by kernel_rfl)
    (by rw [MakeChecks.laidMetH_plain _ _ _ (by kernel_rfl)];exact laidMet_laidAll _ (by kernel_rfl) (by kernel_rfl))) ?_
 intro W base args ds gs before hval0 hW _ hwt hL _;have hval:∀(j:Nat) t v,Tryz.f5.params[j]?=some t->args[j]?=some v->Value.okWide Tryz.prog W .any base t v:=hval0;have hW':=hW;obtain ⟨p,q,hA0,hV,rfl,hfz,hnd⟩:=hW;have hA:DataW.TrodAll enc Tryz.prog W 0 (fun _=>true) true Tryz.f5.params.toList args.toList ds p:=hA0;rw [Tryz.params5] at hA hval;obtain ⟨v0,v1,d0,d1,p0,p1,rfl,rfl,rfl,h0,h1⟩:=trodAll_two hA;obtain ⟨rfl,rfl⟩:=trodVars_none hV;obtain ⟨bb,bh,rfl,hbd,hnm,hfb⟩:=rV (hval 0 _ v0 rfl rfl) h0;obtain ⟨hTT,hPP,hSS⟩:=yY hL;obtain ⟨qq,qA,qc,rfl,hqs,hqf⟩:=pQ (hval 1 _ v1 rfl rfl) h1;clear hA0 hval0;refine (sD bb bh qq qA qc W hTT hPP hSS hbd hqs hqf).mono fun e W' ⟨he,hb⟩=>?_
 exact ⟨_,he,vJ Tryz.laidOut rfl (by kernel_rfl) Tryz.underlying4 rfl (by rw [Tryz.params5];intro t ht;simp at ht;rcases ht with rfl | rfl <;> exact ⟨by kernel_rfl,of_decide_eq_true (by kernel_rfl)⟩) hW' hb⟩
theorem iO:Rows.PrinterPlacesSaid:=
 OpenClaim.holds_of_wide 5 Tryz.f5 rfl rfl rfl rfl rfl rfl rfl ⟨rfl,rfl,rfl,rfl,rfl⟩ rfl rfl rfl rfl rfl (by kernel_rfl) Tryz.func5 gN
  (of_decide_eq_true (by kernel_rfl)) (by unfold Func.isWrapper;first | (rw [bA (by decide +kernel)];kernel_rfl) | (rw [aZ (by decide +kernel)];exact ⟨rfl,rfl⟩))
  (fun os started H enc _=>gM os started H enc)
theorem PrinterPlaces_holds:Rows.PrinterPlacesCardSaid:=
 Claim7.holds_tied_plain_at .later [] [.data, .data, .data, .data, .listed, .data, .widerDeep, .widerDeep, .pinned] true (true, "2565a398a9c3f64ed2b3d35e70614e8afda13dca12037df6a6fb8dd6ed235492") false
  iO (fun _ h=>by cases h) (by kernel_rfl) (fun _ h=>by cases h) printerPlaces_row_tie rfl ⟨rfl,rfl⟩ (by kernel_rfl) rfl
  (fun f fn hf hfn=>by
    obtain rfl:f=5:=Option.some.inj ((show Tryz.prog.funcNamed Rows.printerPlacesRow.func=some 5 by kernel_rfl).symm.trans hf) |>.symm;obtain rfl:fn=Tryz.f5:=(Option.some.inj (Tryz.func5.symm.trans hfn)).symm
    exact ⟨by kernel_rfl,fun j t ht=>by
     rw [Tryz.params5] at ht;have hm:t∈[28,46]:=(by simpa using Array.mem_of_getElem? ht);have hall:([28,46].all fun u=> !Tryz.prog.wantsStandIn u)=true:=by kernel_rfl
     exact (show Tryz.prog.wantsStandIn t=false by simpa using List.all_eq_true.1 hall t hm)⟩)
  (by kernel_rfl)
end
end Go.Proofs.YtmknfbfppmkcfaaGreatDoor
