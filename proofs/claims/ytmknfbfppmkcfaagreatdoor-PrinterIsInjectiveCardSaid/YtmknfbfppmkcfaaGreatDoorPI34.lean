/-
  Parts of the proof: Y64 JI.
-/
import Derived.Test.YtmknfbfppmkcfaaGreatDoorPI0
import Derived.Test.YtmknfbfppmkcfaaGreatDoorPI10
import Derived.Test.YtmknfbfppmkcfaaGreatDoorPI19
import Derived.Lib.LaidTab
import Derived.JoinedOf
namespace Go.Proofs.YtmknfbfppmkcfaaGreatDoor
set_option maxRecDepth 100000
set_option maxHeartbeats 16000000
section
open Go Go.RowKit
theorem gPowT:(Tryz.prog.globals[5]?).map (·.type)=some 283:=by kernel_rfl
theorem gSpT:(Tryz.prog.globals[2]?).map (·.type)=some 229:=by kernel_rfl
theorem xGT:Tryz.prog.cellsOf 225=1:=by kernel_rfl
theorem xIO:Tryz.prog.cellsOf 5=1:=by kernel_rfl
theorem xIN:Tryz.prog.cellsOf 283=20:=by kernel_rfl
theorem xIM:Tryz.prog.cellsOf 229=256:=by kernel_rfl
theorem xGY {w:World} (h:laidMetH Tryz.prog Rows.printerMatchesReferenceRow.laid w):TabsOk w/\PowTab w/\SpTab w:=by
 rw [MakeChecks.laidMetH_plain _ _ _ (by kernel_rfl)] at h;have h6:=h.tail.tail.tail.tail.tail.tail
 exact ⟨⟨nG gUn gUnT Tryz.underlying214 rfl (by omega) (by omega) (l:=hO) h6,
  nG gBi gBiT Tryz.underlying215 rfl (by omega) (by omega) (l:=fY) h6.tail⟩,
  Lib.tabIs_of_head gPow gPowT Tryz.underlying283 Tryz.underlying225 xGT xIN h.tail.tail,
  Lib.tabIs_of_head gSp gSpT Tryz.underlying229 Tryz.underlying5 xIO xIM h.tail.tail.tail.tail.tail⟩
theorem cQ {a b:Bool} (ha:a=true) (hb:b=true):(a && b)=true:=by rw [ha,hb];rfl
theorem kP:(Rows.printerIsInjectiveRow.wf (OpenSpec.ofChange Rows.printerIsInjectiveSpec))=true:=by kernel_rfl
theorem kO:(laidOutB Tryz.prog)=true:=by kernel_rfl
theorem kN:(mapsRowed Tryz.prog)=true:=by kernel_rfl
theorem kM:(Tryz.f6.params.all (Tryz.prog.readableRec ·))=true:=by kernel_rfl
theorem kL:(namedTie Tryz.prog Rows.printerIsInjectiveRow.named Rows.printerIsInjectiveSpec.vars)=true:=by kernel_rfl
theorem kK:((Rows.printerIsInjectiveRow.stops == []))=true:=by kernel_rfl
theorem kJ:((Tryz.prog.stops == []))=true:=by kernel_rfl
theorem kI:((Rows.printerIsInjectiveRow.knobs == []))=true:=by kernel_rfl
theorem kH:((Tryz.prog.stopKnobs == []))=true:=by kernel_rfl
theorem kG:((Rows.printerIsInjectiveRow.inPlace == Tryz.prog.inPlace 6))=true:=by kernel_rfl
theorem jT:((Rows.printerIsInjectiveRow.unfollowed == Tryz.prog.unfollowed 6))=true:=by kernel_rfl
theorem jS:((Rows.printerIsInjectiveRow.recurses == Tryz.prog.recurses 6))=true:=by kernel_rfl
theorem jR:((Rows.printerIsInjectiveRow.named == Tryz.prog.varsNamed 6))=true:=by kernel_rfl
theorem jQ:((Rows.printerIsInjectiveRow.maps == (Tryz.f6.params.toList ++ Rows.printerIsInjectiveSpec.plain.varTypes Tryz.prog).any (Tryz.prog.mapsRec ·)))=true:=by kernel_rfl
theorem jP:((Rows.printerIsInjectiveRow.ifaces == (Tryz.f6.params.toList ++ Rows.printerIsInjectiveSpec.plain.varTypes Tryz.prog).any (Tryz.prog.ifacesRec ·)))=true:=by kernel_rfl
theorem jO:((Rows.printerIsInjectiveRow.mapsOut == Tryz.prog.mapsAmong Tryz.f6.resultTypes.toList))=true:=by kernel_rfl
theorem jN:((Rows.printerIsInjectiveRow.loops == (Tryz.f6.params.toList ++ Rows.printerIsInjectiveSpec.plain.varTypes Tryz.prog).any (Tryz.prog.loopsFrom ·)))=true:=by kernel_rfl
theorem jM:((Rows.printerIsInjectiveRow.wideKeys == (Tryz.f6.params.toList ++ Rows.printerIsInjectiveSpec.plain.varTypes Tryz.prog ++ Tryz.f6.resultTypes.toList).any (Tryz.prog.wideKeysFrom ·)))=true:=by kernel_rfl
theorem jL:(Rows.printerIsInjectiveSpec.vars.all (Tryz.prog.varReadable ·))=true:=by kernel_rfl
theorem jK:(Tryz.f6.resultTypes.all (fun t=>Tryz.prog.readableRec t && decide (t<Tryz.prog.types.size)))=true:=by kernel_rfl
theorem jJ:((Rows.printerIsInjectiveRow.ifacesOut == Tryz.f6.resultTypes.toList.any (Tryz.prog.ifacesRec ·)))=true:=by kernel_rfl
theorem jI:((Rows.printerIsInjectiveRow.loopsOut == Tryz.f6.resultTypes.toList.any (Tryz.prog.loopsFrom ·)))=true:=by kernel_rfl
theorem jH:((Rows.printerIsInjectiveRow.plainKeys == Tryz.prog.plainKeys))=true:=by kernel_rfl
theorem jG:(Rows.printerIsInjectiveRow.shortTexts.isNone)=true:=by kernel_rfl
theorem jF:(Tryz.prog.stopsHeard)=true:=by kernel_rfl
theorem jE:(Tryz.prog.mayEnter)=true:=by kernel_rfl
theorem jD:((Rows.printerIsInjectiveRow.lifted == Tryz.prog.liftsFinal))=true:=by kernel_rfl
theorem jC:((Tryz.prog.make == some Rows.printerIsInjectiveRow.make))=true:=by kernel_rfl
theorem jB:((Rows.printerIsInjectiveRow.kinds == (if Rows.printerIsInjectiveRow.domain.isEmpty then [] else Tryz.f6.params.toList.map fun t=>match Tryz.prog.underlying t with | some (.int k)=>some k | _=>none)))=true:=by kernel_rfl
theorem jA:((Rows.printerIsInjectiveRow.pinned == Rows.printerIsInjectiveRow.pinnedBy))=true:=by kernel_rfl
theorem iZ:((Rows.printerIsInjectiveRow.veiled == (Tryz.f6.params.toList ++ Rows.printerIsInjectiveSpec.plain.varTypes Tryz.prog ++ Tryz.f6.resultTypes.toList).any (Tryz.prog.veiledRec ·)))=true:=by kernel_rfl
theorem iY:(Rows.printerIsInjectiveRow.veiledFits Tryz.prog Tryz.f6.params.toList (Tryz.f6.params.toList ++ Rows.printerIsInjectiveSpec.plain.varTypes Tryz.prog ++ Tryz.f6.resultTypes.toList))=true:=by kernel_rfl
theorem gF:joinedFacts Tryz.prog 6 Tryz.f6 Rows.printerIsInjectiveSpec Rows.printerIsInjectiveRow=true:=(cQ (cQ (cQ (cQ (cQ (cQ (cQ (cQ (cQ (cQ (cQ (cQ (cQ (cQ (cQ (cQ (cQ (cQ (cQ (cQ (cQ (cQ (cQ (cQ (cQ (cQ (cQ (cQ (cQ (cQ (cQ kP kO) kN) kM) kL) kK) kJ) kI) kH) kG) jT) jS) jR) jQ) jP) jO) jN) jM) jL) jK) jJ) jI) jH) jG) jF) jE) jD) jC) jB) jA) iZ) iY)
end
end Go.Proofs.YtmknfbfppmkcfaaGreatDoor
