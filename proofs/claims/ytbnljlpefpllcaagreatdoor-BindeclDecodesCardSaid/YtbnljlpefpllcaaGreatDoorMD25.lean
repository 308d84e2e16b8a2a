/-
  BindeclDecodes: for all bytes and names the law answers true, and the arguments read as they did; the card of the row. Condition: the four listed variables hold at the start what the text of the program lays (the given tie; one is a table of the library, pinned by its name).
-/
import Derived.Test.YtbnljlpefpllcaaGreatDoorMD22
import Derived.Test.YtbnljlpefpllcaaGreatDoorMD11
import Derived.Test.YtbnljlpefpllcaaGreatDoorMD23
import Derived.Test.YtbnljlpefpllcaaGreatDoorMD24
import Derived.Test.YtbnljlpefpllcaaGreatDoorMD21
import Derived.Test.YtbnljlpefpllcaaGreatDoorTie
import Derived.Test.YtbnljlpefpllcaaGreatDoorCards
import Derived.SevenTiedAt
import Derived.SizedLaws
import Derived.Lay
namespace Go.Proofs.YtbnljlpefpllcaaGreatDoor
open Go Go.RowKit
theorem decS_blocks (tbl : List ByteArray) (data : List UInt8) : (decS tbl data).1.blocks = [] := by
  unfold decS
  split
  · unfold bodyS
    rfl
  · rfl
/-- The readers' answer, cell by cell. -/
def Lit (b : Bdy) (er : Int) (w : World) (e' : Ending) (w' : World) : Prop :=
  ∃ A1 a1 A2 a2 A3 a3 A4 a4 A5 a5, e' = .returned (.tuple #[.agg #[.string b.name, .slice A1 b.regions.length a1, .slice A2 b.outl.length a2, .slice A3 b.types.length a3, .slice A4 b.locals.length a4, .int .i64 b.args, .slice A5 b.blocks.length a5], .int .i64 er]) ∧ BdAt w' b ⟨A1, a1, A2, a2, A3, a3, A4, a4, A5, a5⟩ ∧ Below w.heap.size w w'
theorem Lit.of {b : Bdy} {er : Int} {w : World} (e' : Ending) (w' : World) (h : ∃ bh, e' = .returned (.tuple #[.agg (bdC b bh).toArray, .int .i64 er]) ∧ BdAt w' b bh ∧ Below w.heap.size w w') : Lit b er w e' w' := by
  obtain ⟨⟨A1, a1, A2, a2, A3, a3, A4, a4, A5, a5⟩, h1, h2, h3⟩ := h
  exact ⟨A1, a1, A2, a2, A3, a3, A4, a4, A5, a5, h1, h2, h3⟩
set_option maxRecDepth 100000 in
set_option maxHeartbeats 8000000 in
theorem law4_any (data : List UInt8) (A : Option Addr) (c : Nat) (xs : List ByteArray) (B : Option Addr) (d : Nat) (w : World) (hT : TabsOk w) (hs : Slc 1 RB w A c data) (hx : Slc 1 RN w B d xs) :
    Calls Tryz.prog 4 #[.slice A data.length c, .slice B xs.length d] w (fun e' w' => e' = .returned (.bool true) ∧ Below w.heap.size w w') := by
  have hle := hs.le
  have hbg := hs.big
  have HS := Lib.hid hs
  have HX := Lib.hid hx
  have HT := Lib.hid hT
  clear hs hx hT
  go_enter Tryz.func4, Tryz.ntmps4
  go_wp2_with fail
  go_at_call 8
  refine (table_any xs B d w HX.out).mono ?_
  rintro e' w1 ⟨hb1, h1⟩
  have HB1 := Lib.hid hb1
  have HT1 := Lib.hid (HT.out.keep hb1)
  have HS1 := Lib.hid (HS.out.keep RB.keeps hb1)
  clear hb1 HT HS HX
  rcases h1 with rfl | ⟨_, _, t, B1, d1, T, d2, rfl, ht, hT, hTl⟩
  · go_wp2_with fail
    go_at_call 10
    refine (alive_any w1 HT1.out).mono ?_
    rintro e' w2 ⟨rfl, hb2⟩
    have HB2 := Lib.hid (HB1.out.trans (hb2.mono HB1.out.size))
    clear hb2
    go_wp2_with fail
    go_ret
    exact ⟨rfl, HB2.out⟩
  · by_cases hlen : data.length ≤ 3000
    case neg =>
      clear ht hT hTl
      go_wp2_with fail
      go_at_call 10
      refine (alive_any w1 HT1.out).mono ?_
      rintro e' w2 ⟨rfl, hb2⟩
      have HB2 := Lib.hid (HB1.out.trans (hb2.mono HB1.out.size))
      clear hb2
      go_wp2_with fail
      go_ret
      exact ⟨rfl, HB2.out⟩
    case pos =>
      have HD := Lib.hid ((pdecode_any data A c t B1 d1 (tabB [] xs) w1 HS1.out (by omega) ht).mono Lit.of)
      have HR := Lib.hid (fun w2 (hb : Below w1.heap.size w1 w2) => (rdecode_any data A c T d2 (tabB [] xs) w2 (HS1.out.keep RB.keeps hb) (by omega) (hT.keep RN.keeps hb) (fun a ha => Nat.lt_of_lt_of_le (hTl a ha) hb.size)).mono Lit.of)
      have hblk := decS_blocks (tabB [] xs) data
      generalize tabB [] xs = tbl at *
      generalize decS tbl data = z at *
      obtain ⟨b, er⟩ := z
      have HBL : Hid (b.blocks = []) := Lib.hid hblk
      clear hblk hTl hT ht
      go_wp2_with fail
      go_at_call 14
      refine HD.out.mono ?_
      rintro e' w2 ⟨A1, a1, A2, a2, A3, a3, A4, a4, A5, a5, rfl, hbd, hb2⟩
      obtain ⟨W2, hW2⟩ : ∃ W2, w2.alloc (.cells #[.string b.name, .slice A1 b.regions.length a1, .slice A2 b.outl.length a2, .slice A3 b.types.length a3, .slice A4 b.locals.length a4, .int .i64 b.args, .slice A5 b.blocks.length a5] 28) = W2 := ⟨_, rfl⟩
      have hk2 : W2.heap[w2.heap.size]? = some (.cells #[.string b.name, .slice A1 b.regions.length a1, .slice A2 b.outl.length a2, .slice A3 b.types.length a3, .slice A4 b.locals.length a4, .int .i64 b.args, .slice A5 b.blocks.length a5] 28 (0, 0)) := by rw [← hW2]; exact heap_alloc_new _ _
      have hb22 : Below w2.heap.size w2 W2 := by rw [← hW2]; exact al_keep _ _
      have HK2 := Lib.hid hk2
      have HBD2 := Lib.hid (hbd.keep hb22)
      have HB2 := Lib.hid (keep0 hb22 hb2)
      clear hb2 hb22 hk2 hbd HD
      go_wp2_with fail
      go_at_call 15
      refine (HR.out W2 HB2.out).mono ?_
      rintro e' w3 ⟨C1, c1, C2, c2, C3, c3, C4, c4, C5, c5, rfl, hbd, hb3⟩
      obtain ⟨W3, hW3⟩ : ∃ W3, w3.alloc (.cells #[.string b.name, .slice C1 b.regions.length c1, .slice C2 b.outl.length c2, .slice C3 b.types.length c3, .slice C4 b.locals.length c4, .int .i64 b.args, .slice C5 b.blocks.length c5] 28) = W3 := ⟨_, rfl⟩
      have hk3 : W3.heap[w3.heap.size]? = some (.cells #[.string b.name, .slice C1 b.regions.length c1, .slice C2 b.outl.length c2, .slice C3 b.types.length c3, .slice C4 b.locals.length c4, .int .i64 b.args, .slice C5 b.blocks.length c5] 28 (0, 0)) := by rw [← hW3]; exact heap_alloc_new _ _
      have hb33 : Below w3.heap.size w3 W3 := by rw [← hW3]; exact al_keep _ _
      have HK3 := Lib.hid hk3
      have HBD3 := Lib.hid (hbd.keep hb33)
      have hbk := keep0 hb33 hb3
      have HBD23 := Lib.hid (HBD2.out.keep hbk)
      have HK23 := Lib.hid ((hbk.block _ (Array.getElem?_eq_some_iff.1 HK2.out).1).trans HK2.out)
      have HB3 := Lib.hid (keep0 hbk HB2.out)
      clear hb3 hb33 hk3 hbd hbk HR HBD2 HK2
      go_wp2_with fail
      go_at_call 10
      refine (alive_any W3 (HT1.out.keep HB3.out)).mono ?_
      rintro e' w4 ⟨rfl, hb4⟩
      have hk4 := (hb4.block _ (Array.getElem?_eq_some_iff.1 HK3.out).1).trans HK3.out
      have hk24 := (hb4.block _ (Array.getElem?_eq_some_iff.1 HK23.out).1).trans HK23.out
      obtain ⟨u0, u1, u2, u3, u4, u5, u6, _⟩ := blk7 hk4
      obtain ⟨v0, v1, v2, v3, v4, v5, v6, _⟩ := blk7 hk24
      have HE := Lib.hid (show Calls Tryz.prog 16 #[.agg #[.string b.name, .slice A1 b.regions.length a1, .slice A2 b.outl.length a2, .slice A3 b.types.length a3, .slice A4 b.locals.length a4, .int .i64 b.args, .slice A5 b.blocks.length a5], .agg #[.string b.name, .slice C1 b.regions.length c1, .slice C2 b.outl.length c2, .slice C3 b.types.length c3, .slice C4 b.locals.length c4, .int .i64 b.args, .slice C5 b.blocks.length c5]] w4 (fun e' w' => e' = .returned (.bool true) ∧ Below w4.heap.size w4 w') from same_body b ⟨A1, a1, A2, a2, A3, a3, A4, a4, A5, a5⟩ ⟨C1, c1, C2, c2, C3, c3, C4, c4, C5, c5⟩ w4 HBL.out (HBD23.out.keep hb4) (HBD3.out.keep hb4))
      have HB4 := Lib.hid (keep0 hb4 HB3.out)
      clear hb4 hk4 hk24 HBD3 HBD23
      go_wp2_with fail
      go_at_call 16
      refine HE.out.mono ?_
      rintro e' w5 ⟨rfl, hb5⟩
      have HB5 := Lib.hid (HB1.out.trans ((keep0 hb5 HB4.out).mono HB1.out.size))
      clear hb5
      go_wp2_with fail
      go_ret
      exact ⟨rfl, HB5.out⟩
end Go.Proofs.YtbnljlpefpllcaaGreatDoor
namespace Go.Proofs.YtbnljlpefpllcaaGreatDoor
open Go Go.ChangeShapes Go.WideShapes Go.ChangeAt Go.RowKit
set_option maxRecDepth 100000 in
theorem rowdecodes_lifted (os : Os) (started : os.Started) (H : Type) (enc : TypeId × Value → H) :
    ReturnsInHanded {} Tryz.checked os 4 .any (fun w args => (Rows.bindeclDecodesSpec.pre enc Tryz.prog Tryz.f4 [] false w args ∧ laidMetH Tryz.prog Rows.bindeclDecodesRow.laid w) ∧ sizedMet enc Tryz.prog Tryz.f4 (OpenSpec.ofChange Rows.bindeclDecodesSpec) false w args)
      (Rows.bindeclDecodesSpec.post enc Tryz.prog Tryz.f4 false true false false) := by
  refine returnsInHanded_of_change_and (C := Tryz.checked) (X := fun w _ => laidMetH Tryz.prog Rows.bindeclDecodesRow.laid w) (fun _ _ _ hh h => h.of_heap hh) Tryz.own started (by kernel_rfl) Tryz.func4
    (ChangeSpec.witness_shaped (enc := enc) (C := Tryz.checked) (os := os) (X := fun w _ => laidMetH Tryz.prog Rows.bindeclDecodesRow.laid w) false (World.laidAll Tryz.prog os Rows.bindeclDecodesRow.laid) #[.slice none 0 0, .slice none 0 0] 8 (World.laidAll_os _ _ _) (World.shaped_of_ZipB (by kernel_rfl) (by kernel_rfl)) (by kernel_rfl) (by kernel_rfl) (by kernel_rfl)
      (by rw [MakeChecks.laidMetH_plain _ _ _ (by kernel_rfl)]; exact laidMet_laidAll _ (by kernel_rfl) (by kernel_rfl))) ?_
  intro W base args ds gs before hval0 hW _ hwt hL _
  have hval : ∀ (j : Nat) t v, Tryz.f4.params[j]? = some t → args[j]? = some v → Value.okWide Tryz.prog W .any base t v := hval0
  have hW' := hW
  obtain ⟨p, q, hA0, hV, rfl, hfz, hnd⟩ := hW
  have hA : DataW.TrodAll enc Tryz.prog W 0 (fun _ => true) true Tryz.f4.params.toList args.toList ds p := hA0
  rw [Tryz.params4] at hA hval
  obtain ⟨v0, v1, d0, d1, p0, p1, rfl, rfl, rfl, h0, h1⟩ := trodAll_two hA
  obtain ⟨rfl, rfl⟩ := trodVars_none hV
  obtain ⟨A0, c0, xs0, rfl, hs0⟩ := open_u8s (hval 0 _ v0 rfl rfl) h0
  obtain ⟨A1, c1, xs1, rfl, hs1⟩ := open_names (hval 1 _ v1 rfl rfl) h1
  clear hA0 hval0
  refine (law4_any xs0 A0 c0 xs1 A1 c1 W (tabs_of hL) hs0 hs1).mono fun e W' ⟨he, hb⟩ => ?_
  exact ⟨_, he, law_post Tryz.laidOut rfl (by kernel_rfl) Tryz.underlying4 rfl (by rw [Tryz.params4]; intro t ht; simp at ht; rcases ht with rfl | rfl <;> exact ⟨by kernel_rfl, of_decide_eq_true (by kernel_rfl)⟩) hW' hb⟩
theorem rowdecodes_said : Rows.BindeclDecodesSaid :=
  OpenClaim.holds_of_wide 4 Tryz.f4 rfl rfl rfl rfl rfl rfl rfl ⟨rfl, rfl, rfl, rfl, rfl⟩ rfl rfl rfl rfl rfl (by kernel_rfl) Tryz.func4 (by kernel_rfl)
    (of_decide_eq_true (by kernel_rfl)) (by unfold Func.isWrapper; first | (rw [if_pos (by decide +kernel)]; kernel_rfl) | (rw [if_neg (by decide +kernel)]; exact ⟨rfl, rfl⟩))
    (fun os started H enc _ => rowdecodes_lifted os started H enc)
theorem BindeclDecodes_holds : Rows.BindeclDecodesCardSaid :=
  Claim7.holds_tied_plain_at .later [] [.data, .widerDeep, .widerDeep, .pinned] true (true, "df92e3dffe42141494600ee8b20469a2441dd03061facf2bfbf3bc0513c4d676") false
    rowdecodes_said (fun _ h => by cases h) (by kernel_rfl) (fun _ h => by cases h) bindeclDecodes_row_tie rfl ⟨rfl, rfl⟩ (by kernel_rfl) rfl
    (fun f fn hf hfn => by
      obtain rfl : f = 4 := Option.some.inj ((show Tryz.prog.funcNamed Rows.bindeclDecodesRow.func = some 4 by kernel_rfl).symm.trans hf) |>.symm
      obtain rfl : fn = Tryz.f4 := (Option.some.inj (Tryz.func4.symm.trans hfn)).symm
      exact ⟨by kernel_rfl, fun j t ht => by
        rw [Tryz.params4] at ht
        have hm : t ∈ [34, 22] := by simpa using Array.mem_of_getElem? ht
        have hall : ([34, 22].all fun u => !Tryz.prog.wantsStandIn u) = true := by kernel_rfl
        exact (show Tryz.prog.wantsStandIn t = false by simpa using List.all_eq_true.1 hall t hm)⟩)
    (by kernel_rfl)
end Go.Proofs.YtbnljlpefpllcaaGreatDoor
