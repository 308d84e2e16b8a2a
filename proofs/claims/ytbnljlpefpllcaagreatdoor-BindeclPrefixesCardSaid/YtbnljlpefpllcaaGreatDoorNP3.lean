/-
  BindeclPrefixes: a statement of Bindecl (part 3)
-/
import Derived.Test.YtbnljlpefpllcaaGreatDoorNP2
import Derived.Lib.Hide
import Derived.Below
import Derived.WalkSmall
import Derived.Laws.World
import Derived.Test.YtbnljlpefpllcaaGreatDoorProg
import Derived.WalkKit
import Derived.WalkSpells
import Derived.WalkLawsBesides
import Derived.Deep.RegionHeld3
import Derived.Deep.DeepFit
import Derived.Deep.QuietTactic
import Derived.BigQuiet
import Derived.OwnWalk
import Derived.Maps.AppendAt
import Derived.Deep.DeepCutAuto
import Derived.StillTailTactics
import Derived.RangeFuncNested
import Derived.RangeFuncBound
import Derived.RangeFuncCalls
import Derived.RangeFuncLeaves
import Derived.OwnWalkIn
import Derived.TacticsInMore
import Derived.LoopNIn
import Derived.LoopIn
import Derived.Laws.Bits64b
import Derived.Shelf.Abstract
import Derived.OrdersHeld
import Derived.Deep.RegionHeld
import Derived.Lib.SliceRun
import Derived.Test.YtbnljlpefpllcaaGreatDoorSg
import Derived.Deep.AppendSrc
import Derived.Maps.OwnSet
import Derived.Maps.OwnOps
import Derived.StringKeys
import Derived.Laws.MathBits
import Derived.Test.YtbnljlpefpllcaaGreatDoorSh
import Derived.Deep.LoopGhost
import Derived.Deep.MidRow
import Derived.Lib.SlicesCompact
import Derived.WideKeyPair
import Derived.WideKeyArr
import Derived.Sort.Walk0
import Derived.Sort.OwnSorted
import Derived.Test.YtbnljlpefpllcaaGreatDoorRows
import Derived.ProofKit
import Derived.Deep.Slices
import Derived.Deep.Fields
import Derived.Lib.SmallJoins
import Derived.OpenShut
import Derived.LaidMore
import Derived.Stop.Joined
import Derived.Stop.LaidErr
import Derived.Lay
import Derived.SevenTiedAt
import Derived.ChangeKeysEq
import Derived.JoinedOf
import Derived.Test.YtbnljlpefpllcaaGreatDoorTie
import Derived.Test.YtbnljlpefpllcaaGreatDoorCards
import Derived.SizedLaws
namespace Go.Proofs.YtbnljlpefpllcaaGreatDoor
set_option maxRecDepth 100000
set_option maxHeartbeats 16000000
section
open Go Go.RowKit
theorem cL {a b:Bool} (ha:a=true) (hb:b=true):(a && b)=true:=by rw [ha,hb];rfl
theorem xJM:(Rows.bindeclPrefixesRow.wf (OpenSpec.ofChange Rows.bindeclPrefixesSpec))=true:=by kernel_rfl
theorem xJL:(laidOutB Tryz.prog)=true:=by kernel_rfl
theorem xJK:(mapsRowed Tryz.prog)=true:=by kernel_rfl
theorem xJJ:(Tryz.f7.params.all (Tryz.prog.readableRec ·))=true:=by kernel_rfl
theorem xJI:(namedTie Tryz.prog Rows.bindeclPrefixesRow.named Rows.bindeclPrefixesSpec.vars)=true:=by kernel_rfl
theorem xJH:((Rows.bindeclPrefixesRow.stops == []))=true:=by kernel_rfl
theorem xJG:((Tryz.prog.stops == []))=true:=by kernel_rfl
theorem xJF:((Rows.bindeclPrefixesRow.knobs == []))=true:=by kernel_rfl
theorem xJE:((Tryz.prog.stopKnobs == []))=true:=by kernel_rfl
theorem xJD:((Rows.bindeclPrefixesRow.inPlace == Tryz.prog.inPlace 7))=true:=by kernel_rfl
theorem xJA:((Rows.bindeclPrefixesRow.unfollowed == Tryz.prog.unfollowed 7))=true:=by kernel_rfl
theorem xIZ:((Rows.bindeclPrefixesRow.recurses == Tryz.prog.recurses 7))=true:=by kernel_rfl
theorem xIY:((Rows.bindeclPrefixesRow.named == Tryz.prog.varsNamed 7))=true:=by kernel_rfl
theorem xIX:((Rows.bindeclPrefixesRow.maps == (Tryz.f7.params.toList ++ Rows.bindeclPrefixesSpec.plain.varTypes Tryz.prog).any (Tryz.prog.mapsRec ·)))=true:=by kernel_rfl
theorem xIW:((Rows.bindeclPrefixesRow.ifaces == (Tryz.f7.params.toList ++ Rows.bindeclPrefixesSpec.plain.varTypes Tryz.prog).any (Tryz.prog.ifacesRec ·)))=true:=by kernel_rfl
theorem xIV:((Rows.bindeclPrefixesRow.mapsOut == Tryz.prog.mapsAmong Tryz.f7.resultTypes.toList))=true:=by kernel_rfl
theorem xIU:((Rows.bindeclPrefixesRow.loops == (Tryz.f7.params.toList ++ Rows.bindeclPrefixesSpec.plain.varTypes Tryz.prog).any (Tryz.prog.loopsFrom ·)))=true:=by kernel_rfl
theorem xIT:((Rows.bindeclPrefixesRow.wideKeys == (Tryz.f7.params.toList ++ Rows.bindeclPrefixesSpec.plain.varTypes Tryz.prog ++ Tryz.f7.resultTypes.toList).any (Tryz.prog.wideKeysFrom ·)))=true:=by kernel_rfl
theorem xIS:(Rows.bindeclPrefixesSpec.vars.all (Tryz.prog.varReadable ·))=true:=by kernel_rfl
theorem xIR:(Tryz.f7.resultTypes.all (fun t=>Tryz.prog.readableRec t && decide (t<Tryz.prog.types.size)))=true:=by kernel_rfl
theorem xIQ:((Rows.bindeclPrefixesRow.ifacesOut == Tryz.f7.resultTypes.toList.any (Tryz.prog.ifacesRec ·)))=true:=by kernel_rfl
theorem xIP:((Rows.bindeclPrefixesRow.loopsOut == Tryz.f7.resultTypes.toList.any (Tryz.prog.loopsFrom ·)))=true:=by kernel_rfl
theorem xIO:((Rows.bindeclPrefixesRow.plainKeys == Tryz.prog.plainKeys))=true:=by kernel_rfl
theorem xIN:(Rows.bindeclPrefixesRow.shortTexts.isNone)=true:=by kernel_rfl
theorem xIM:(Tryz.prog.stopsHeard)=true:=by kernel_rfl
theorem xIL:(Tryz.prog.mayEnter)=true:=by kernel_rfl
theorem xIK:((Rows.bindeclPrefixesRow.lifted == Tryz.prog.liftsFinal))=true:=by kernel_rfl
theorem xIJ:((Tryz.prog.make == some Rows.bindeclPrefixesRow.make))=true:=by kernel_rfl
theorem xII:((Rows.bindeclPrefixesRow.kinds == (if Rows.bindeclPrefixesRow.domain.isEmpty then [] else Tryz.f7.params.toList.map fun t=>match Tryz.prog.underlying t with | some (.int k)=>some k | _=>none)))=true:=by kernel_rfl
theorem xIH:((Rows.bindeclPrefixesRow.pinned == Rows.bindeclPrefixesRow.pinnedBy))=true:=by kernel_rfl
theorem xIG:((Rows.bindeclPrefixesRow.veiled == (Tryz.f7.params.toList ++ Rows.bindeclPrefixesSpec.plain.varTypes Tryz.prog ++ Tryz.f7.resultTypes.toList).any (Tryz.prog.veiledRec ·)))=true:=by kernel_rfl
theorem xIF:(Rows.bindeclPrefixesRow.veiledFits Tryz.prog Tryz.f7.params.toList (Tryz.f7.params.toList ++ Rows.bindeclPrefixesSpec.plain.varTypes Tryz.prog ++ Tryz.f7.resultTypes.toList))=true:=by kernel_rfl
theorem xHW:joinedFacts Tryz.prog 7 Tryz.f7 Rows.bindeclPrefixesSpec Rows.bindeclPrefixesRow=true:=(cL (cL (cL (cL (cL (cL (cL (cL (cL (cL (cL (cL (cL (cL (cL (cL (cL (cL (cL (cL (cL (cL (cL (cL (cL (cL (cL (cL (cL (cL (cL xJM xJL) xJK) xJJ) xJI) xJH) xJG) xJF) xJE) xJD) xJA) xIZ) xIY) xIX) xIW) xIV) xIU) xIT) xIS) xIR) xIQ) xIP) xIO) xIN) xIM) xIL) xIK) xIJ) xII) xIH) xIG) xIF)
end
section
open Go Go.ChangeShapes Go.WideShapes Go.ChangeAt Go.RowKit
theorem xHV (os:Os) (started:os.Started) (H:Type) (enc:TypeId × Value→H):
 ReturnsInHanded {} Tryz.checked os 7 .any (fun w args=>(Rows.bindeclPrefixesSpec.pre enc Tryz.prog Tryz.f7 [] false w args∧laidMetH Tryz.prog Rows.bindeclPrefixesRow.laid w)∧sizedMet enc Tryz.prog Tryz.f7 (OpenSpec.ofChange Rows.bindeclPrefixesSpec) false w args)
  (Rows.bindeclPrefixesSpec.post enc Tryz.prog Tryz.f7 false true false false):=by
 refine returnsInHanded_of_change_and (C:=Tryz.checked) (X:=fun w _=>laidMetH Tryz.prog Rows.bindeclPrefixesRow.laid w) (fun _ _ _ hh h=>h.of_heap hh) Tryz.own started (by kernel_rfl) Tryz.func7
  (ChangeSpec.witness_shaped (enc:=enc) (C:=Tryz.checked) (os:=os) (X:=fun w _=>laidMetH Tryz.prog Rows.bindeclPrefixesRow.laid w) false (World.laidAll Tryz.prog os Rows.bindeclPrefixesRow.laid) #[.agg #[.string ⟨#[]⟩,.slice none 0 0,.slice none 0 0,.slice none 0 0,.slice none 0 0,.int .i64 0,.slice none 0 0],.int .u8 0] 8 (World.laidAll_os _ _ _) (World.shaped_of_ZipB (by kernel_rfl) (by kernel_rfl)) (by kernel_rfl) (by kernel_rfl) (by kernel_rfl)
    (by rw [MakeChecks.laidMetH_plain _ _ _ (by kernel_rfl)];exact laidMet_laidAll _ (by kernel_rfl) (by kernel_rfl))) ?_
 intro W base args ds gs before hval0 hW _ hwt hL _
 have hval:∀(j:Nat) t v,Tryz.f7.params[j]?=some t→args[j]?=some v→Value.okWide Tryz.prog W .any base t v:=hval0
 have hW':=hW
 obtain ⟨p,q,hA0,hV,rfl,hfz,hnd⟩:=hW
 have hA:DataW.TrodAll enc Tryz.prog W 0 (fun _=>true) true Tryz.f7.params.toList args.toList ds p:=hA0
 rw [Tryz.params7] at hA hval
 obtain ⟨v0,v1,d0,d1,p0,p1,rfl,rfl,rfl,h0,h1⟩:=trodAll_two hA
 obtain ⟨rfl,rfl⟩:=trodVars_none hV
 obtain ⟨bb,bh,rfl,hbd,hnm⟩:=yV (hval 0 _ v0 rfl rfl) h0
 obtain ⟨cc,rfl⟩:=xKS (hval 1 _ v1 rfl rfl) h1
 clear hA0 hval0
 refine (xKO bb bh cc W (xEY hL) hbd hnm).mono fun e W' ⟨he,hb⟩=>?_
 exact ⟨_,he,xDB Tryz.laidOut rfl (by kernel_rfl) Tryz.underlying4 rfl (by rw [Tryz.params7];intro t ht;simp at ht;rcases ht with rfl | rfl <;> exact ⟨by kernel_rfl,of_decide_eq_true (by kernel_rfl)⟩) hW' hb⟩
theorem xHZ:Rows.BindeclPrefixesSaid:=
 OpenClaim.holds_of_wide 7 Tryz.f7 rfl rfl rfl rfl rfl rfl rfl ⟨rfl,rfl,rfl,rfl,rfl⟩ rfl rfl rfl rfl rfl (by kernel_rfl) Tryz.func7 xHW
  (of_decide_eq_true (by kernel_rfl)) (by unfold Func.isWrapper;first | (rw [aY (by decide +kernel)];kernel_rfl) | (rw [aX (by decide +kernel)];exact ⟨rfl,rfl⟩))
  (fun os started H enc _=>xHV os started H enc)
theorem BindeclPrefixes_holds:Rows.BindeclPrefixesCardSaid:=
 Claim7.holds_tied_plain_at .later [] [.data, .widerDeep, .widerDeep, .pinned] true (true, "df92e3dffe42141494600ee8b20469a2441dd03061facf2bfbf3bc0513c4d676") false
  xHZ (fun _ h=>by cases h) (by kernel_rfl) (fun _ h=>by cases h) bindeclPrefixes_row_tie rfl ⟨rfl,rfl⟩ (by kernel_rfl) rfl
  (fun f fn hf hfn=>by
    obtain rfl:f=7:=Option.some.inj ((show Tryz.prog.funcNamed Rows.bindeclPrefixesRow.func=some 7 by kernel_rfl).symm.trans hf) |>.symm
    obtain rfl:fn=Tryz.f7:=(Option.some.inj (Tryz.func7.symm.trans hfn)).symm
    exact ⟨by kernel_rfl,fun j t ht=>by
     rw [Tryz.params7] at ht
     have hm:t∈[28,5]:=by simpa using Array.mem_of_getElem? ht
     have hall:([28,5].all fun u=> !Tryz.prog.wantsStandIn u)=true:=by kernel_rfl
     exact (show Tryz.prog.wantsStandIn t=false by simpa using List.all_eq_true.1 hall t hm)⟩)
  (by kernel_rfl)
end
end Go.Proofs.YtbnljlpefpllcaaGreatDoor
