/-
  Walks: alive, the examples of the chapter.
-/
import Derived.Test.YtmfdppgfbgjmcaaW21
import Derived.Deep.DeepCutAuto
namespace Go.Proofs.Ytmfdppgfbgjmcaa
open Go.RowKit Go.Shelf

set_option maxRecDepth 100000 in
set_option maxHeartbeats 1000000 in
theorem alive_any (w : World) : Calls Try.prog 9 #[] w fun e' w' => e' = .returned (.bool true) ∧ Below w.heap.size w w' := by
  have hcut0 : ∀ W : World, W = (((((w.alloc (.cells #[.int .i64 1, .int .i64 0] 3)).alloc (.cells #[.int .i64 2, .bool false, .int .i64 0, .int .i64 0, .slice none 0 0, .int .i64 3, .bool true, .int .i64 1, .int .i64 0, .slice none 0 0, .int .i64 4, .bool false, .int .i64 0, .int .i64 0, .slice (some ⟨w.heap.size, 0, none⟩) 2 2] 48)).alloc (.cells #[.string ⟨#[120]⟩, .int .i64 2] 50)).alloc (.cells #[.int .i64 1, .int .i64 0, .int .i64 0, .int .i64 0] 46)).alloc (.cells #[.int .i64 0, .slice (some ⟨w.heap.size + 1 + 1 + 1, 0, none⟩) 2 2] 24)) → ExW w.heap.size ⟨#[120]⟩ W ∧ Below w.heap.size w W := by
    rintro W rfl
    have hall := fun i hi => (allocs_get [.cells #[.int .i64 1, .int .i64 0] 3, .cells #[.int .i64 2, .bool false, .int .i64 0, .int .i64 0, .slice none 0 0, .int .i64 3, .bool true, .int .i64 1, .int .i64 0, .slice none 0 0, .int .i64 4, .bool false, .int .i64 0, .int .i64 0, .slice (some ⟨w.heap.size, 0, none⟩) 2 2] 48, .cells #[.string ⟨#[120]⟩, .int .i64 2] 50, .cells #[.int .i64 1, .int .i64 0, .int .i64 0, .int .i64 0] 46, .cells #[.int .i64 0, .slice (some ⟨w.heap.size + 1 + 1 + 1, 0, none⟩) 2 2] 24] w i hi)
    exact ⟨⟨exT_at (hall 0 (by simp)) (hall 1 (by simp)), exL_at (hall 2 (by simp)), exP_at (hall 3 (by simp)), cellAt (hall 4 (by simp)) 0, cellAt (hall 4 (by simp)) 1⟩, by (repeat (first | exact Below.refl _ _ | assumption | refine Below.alloc ?_ (by first | omega | (simp; done) | (simp; omega)) _ | refine below_drewN ?_ _ | refine Below.drew ?_ | refine Below.setCell ?_ (by first | omega | (simp; done) | (simp; omega)) _))⟩
  go_enter Try.func9, Try.ntmps9
  go_upto_region 4 with fail
  obtain ⟨hX, hb0⟩ := hcut0 _ rfl
  have HX0 := Lib.hid hX
  have HB0 := Lib.hid hb0
  have c0_0 := hX.c0
  have c1_0 := hX.c1
  clear hX hb0 hcut0
  go_cut [4, 5] (fun s4 s5 wx => s4 = .int .i64 0 ∧ s5 = .int .i64 0 ∧ ExW w.heap.size ⟨#[120]⟩ wx ∧ Below w.heap.size w wx)
  case first =>

    go_wp2_with (go_at_call 13; refine (exType _ _ _ _ _ _ _ _ HX0.out.t HX0.out.l HX0.out.p).mono ?_; rintro e' w1 ⟨rfl, hb1⟩; have HX1 := Lib.hid (HX0.out.keep hb1); have HB1 := Lib.hid (HB0.out.trans (hb1.mono HB0.out.size)); have c0_1 := HX1.out.c0; have c1_1 := HX1.out.c1; clear hb1 HX0 HB0 c0_0 c1_0)
    go_meet
    exact ⟨rfl, rfl, HX1.out, HB1.out⟩
  case rest =>
  obtain ⟨rfl, rfl, hX, hb0⟩ := hcut
  have HX1 := Lib.hid hX
  have HB1 := Lib.hid hb0
  have c0_1 := hX.c0
  have c1_1 := hX.c1
  clear hX hb0
  clear HX0 HB0 c0_0 c1_0
  go_upto_region 5 with fail
  go_cut [6, 7] (fun s6 s7 wx => s7 = .int .i64 3 ∧ ExW w.heap.size ⟨#[120]⟩ wx ∧ Below w.heap.size w wx)
  case first =>
    go_wp2_with (go_at_call 13; refine (exType2 _ _ _ _ _ _ _ _ (HX1.out.keep ((Below.refl _ _).alloc (Nat.le_refl _) _)).t (HX1.out.keep ((Below.refl _ _).alloc (Nat.le_refl _) _)).l (exQ_at (heap_alloc_new _ _))).mono ?_; rintro e' w2 ⟨rfl, hb2⟩; have HX2 := Lib.hid ((HX1.out.keep ((Below.refl _ _).alloc (Nat.le_refl _) _)).keep hb2); have HB2 := Lib.hid (HB1.out.trans ((((Below.refl _ _).alloc (Nat.le_refl _) _).trans (hb2.mono (by simp))).mono HB1.out.size)); have c0_2 := HX2.out.c0; have c1_2 := HX2.out.c1; clear hb2 HX1 HB1 c0_1 c1_1)
    go_meet
    exact ⟨rfl, HX2.out, HB2.out⟩
  case rest =>
  obtain ⟨rfl, hX, hb0⟩ := hcut
  have HX2 := Lib.hid hX
  have HB2 := Lib.hid hb0
  have c0_2 := hX.c0
  have c1_2 := hX.c1
  clear hX hb0 HX1 HB1 c0_1 c1_1
  go_upto_region 6 with fail
  go_cut [8, 9] (fun s8 s9 wx => s9 = .int .i64 22 ∧ ExW w.heap.size ⟨#[120]⟩ wx ∧ Below w.heap.size w wx)
  case first =>
    go_wp2_with (go_at_call 13; refine (exType3 _ _ _ _ _ _ _ _ (HX2.out.keep ((Below.refl _ _).alloc (Nat.le_refl _) _)).t (HX2.out.keep ((Below.refl _ _).alloc (Nat.le_refl _) _)).l (exQ_at (heap_alloc_new _ _))).mono ?_; rintro e' w3 ⟨⟨q3, rfl⟩, hb3⟩; have HX3 := Lib.hid ((HX2.out.keep ((Below.refl _ _).alloc (Nat.le_refl _) _)).keep hb3); have HB3 := Lib.hid (HB2.out.trans ((((Below.refl _ _).alloc (Nat.le_refl _) _).trans (hb3.mono (by simp))).mono HB2.out.size)); have c0_3 := HX3.out.c0; have c1_3 := HX3.out.c1; clear hb3 HX2 HB2 c0_2 c1_2)
    go_meet
    exact ⟨rfl, HX3.out, HB3.out⟩
  case rest =>
    obtain ⟨rfl, hX, hb0⟩ := hcut
    have HX3 := Lib.hid hX
    have HB3 := Lib.hid hb0
    have c0_3 := hX.c0
    have c1_3 := hX.c1
    clear hX hb0 HX2 HB2 c0_2 c1_2
    go_wp2_with (go_at_call 15; refine (exMut _ _ _ _ _ _ _ _ HX3.out.t HX3.out.l HX3.out.p).mono ?_; rintro e' w4 ⟨rfl, hb4⟩; have HX4 := Lib.hid (HX3.out.keep hb4); have HB4 := Lib.hid (HB3.out.trans (hb4.mono HB3.out.size)); have c0_4 := HX4.out.c0; have c1_4 := HX4.out.c1; clear hb4 HX3 HB3 c0_3 c1_3)
    go_wp2_with (go_at_call 18; refine (exReg _ _ _ _ _ _ _ _ HX4.out.t HX4.out.l HX4.out.p).mono ?_; rintro e' w5 ⟨A5, c5, rfl, hs5, hb5⟩; have HS5 := Lib.hid hs5; clear hs5; have HX5 := Lib.hid (HX4.out.keep hb5); have HB5 := Lib.hid (HB4.out.trans (hb5.mono HB4.out.size)); have c0_5 := HX5.out.c0; have c1_5 := HX5.out.c1; clear hb5 HX4 HB4 c0_4 c1_4)
    go_wp2_with (go_at_call 17; refine (exEqInt _ _ _ _ _ (HS5.out.keep RInt.keeps ((Below.refl _ _).alloc (Nat.le_refl _) _)) (exI_at (heap_alloc_new w5 _))).mono ?_; rintro e' w6 ⟨rfl, hw6⟩; have hb6 := below_of_drewN hw6; clear hw6 HS5; have HX6 := Lib.hid ((HX5.out.keep ((Below.refl _ _).alloc (Nat.le_refl _) _)).keep hb6); have HB6 := Lib.hid (HB5.out.trans ((((Below.refl _ _).alloc (Nat.le_refl _) _).trans (hb6.mono (by simp))).mono HB5.out.size)); have c0_6 := HX6.out.c0; have c1_6 := HX6.out.c1; clear hb6 HX5 HB5 c0_5 c1_5)
    go_wp2_with (go_at_call 10; refine (exCheck _ _ _ HX6.out.p).mono ?_; rintro e' w7 ⟨rfl, hb7⟩; have HX7 := Lib.hid (HX6.out.keep hb7); have HB7 := Lib.hid (HB6.out.trans (hb7.mono HB6.out.size)); have c0_7 := HX7.out.c0; have c1_7 := HX7.out.c1; clear hb7 HX6 HB6 c0_6 c1_6)
    go_wp2_with (go_at_call 20; refine (exEqual _ _ _ HX7.out.p).mono ?_; rintro e' w8 ⟨rfl, hb8⟩; have HX8 := Lib.hid (HX7.out.keep hb8); have HB8 := Lib.hid (HB7.out.trans (hb8.mono HB7.out.size)); have c0_8 := HX8.out.c0; have c1_8 := HX8.out.c1; clear hb8 HX7 HB7 c0_7 c1_7)
    go_wp2_with (go_at_call 22; refine (exPre _ _ _ HX8.out.p).mono ?_; rintro e' w9 ⟨rfl, hb9⟩; have HX9 := Lib.hid (HX8.out.keep hb9); have HB9 := Lib.hid (HB8.out.trans (hb9.mono HB8.out.size)); have c0_9 := HX9.out.c0; have c1_9 := HX9.out.c1; clear hb9 HX8 HB8 c0_8 c1_8)
    go_wp2_with (go_at_call 24; refine (exDer1 _ _ _ HX9.out.p).mono ?_; rintro e' w10 ⟨rfl, hb10⟩; have HX10 := Lib.hid (HX9.out.keep hb10); have HB10 := Lib.hid (HB9.out.trans (hb10.mono HB9.out.size)); have c0_10 := HX10.out.c0; have c1_10 := HX10.out.c1; clear hb10 HX9 HB9 c0_9 c1_9)
    go_wp2_with (go_at_call 24; refine (exDer2 _ _ _ HX10.out.p).mono ?_; rintro e' w11 ⟨rfl, hb11⟩; have HX11 := Lib.hid (HX10.out.keep hb11); have HB11 := Lib.hid (HB10.out.trans (hb11.mono HB10.out.size)); have c0_11 := HX11.out.c0; have c1_11 := HX11.out.c1; clear hb11 HX10 HB10 c0_10 c1_10)
    go_ret
    exact ⟨rfl, HB11.out⟩
end Go.Proofs.Ytmfdppgfbgjmcaa
