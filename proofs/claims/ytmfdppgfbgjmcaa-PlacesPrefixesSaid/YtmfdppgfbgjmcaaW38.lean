/-
  Walk: the law PlacesPrefixes.
-/
import Derived.Test.YtmfdppgfbgjmcaaW30
import Derived.Test.YtmfdppgfbgjmcaaW22
import Derived.Test.YtmfdppgfbgjmcaaW32
namespace Go.Proofs.Ytmfdppgfbgjmcaa
open Go.RowKit Go.Shelf

theorem pre_take (l : Int) (ps : List Pj) (k : Nat) : isPre ⟨l, ps.take k⟩ ⟨l, ps⟩ = true := by
  simp only [isPre, decide_eq_true_eq, true_and]
  refine ⟨by rw [List.length_take]; omega, ?_⟩
  rw [List.length_take, List.take_eq_take_iff]
  omega

set_option maxRecDepth 100000 in
set_option maxHeartbeats 8000000 in
theorem pprefixes_any (ts : List Ty) (ls : List Lc) (l : Int) (ps : List Pj) (A B C : Option Addr) (c d e : Nat) (w : World) (hts : Slc 5 RTy w A c ts) (hls : Slc 2 RLc w B d ls) (hps : Slc 2 RPj w C e ps) :
    Calls Try.prog 7 #[.slice A ts.length c, .slice B ls.length d, .agg #[.int .i64 l, .slice C ps.length e]] w fun e' w' => e' = .returned (.bool true) ∧ Below w.heap.size w w' := by
  have hple := hps.le
  have hpbig := hps.big
  have hle := hts.le
  have hbig := hts.big
  have hle2 := hls.le
  have hbig2 := hls.big
  have HTS := Lib.hid hts
  have HLS := Lib.hid hls
  have HPS := Lib.hid hps
  clear hts hls hps
  obtain ⟨k0, e0, hty⟩ : ∃ k0 e0, tyOf ts ls l ps = (k0, e0) := ⟨_, _, rfl⟩
  obtain ⟨rs, hrs⟩ : ∃ rs : List Int, (refsOf ts ls l ps).1.map (·.reg) = rs := ⟨_, rfl⟩
  have hrl : (refsOf ts ls l ps).1.length = rs.length := by rw [← hrs, List.length_map]
  have HT2 : Hid (∀ W : World, Below w.heap.size w W → Okay ts ls → Calls Try.prog 14 #[.slice A ts.length c, .slice B ls.length d, .agg #[.int .i64 l, .slice C ps.length e]] W fun e' w' => e' = .returned (.tuple #[.int .i64 k0, .int .i64 e0]) ∧ Below W.heap.size W w') := Lib.hid (fun W hW hok => by
    have h := rty_any ts ls l ps.length ps rfl A B C c d e W (HTS.out.keep RTy.keeps hW) (HLS.out.keep RLc.keeps hW) (HPS.out.keep RPj.keeps hW) hok
    rw [hty] at h
    exact h)
  have HR : Hid (∀ W : World, Below w.heap.size w W → Okay ts ls → Calls Try.prog 18 #[.slice A ts.length c, .slice B ls.length d, .agg #[.int .i64 l, .slice C ps.length e]] W fun e' w' => ∃ A' c', e' = .returned (.slice A' rs.length c') ∧ Slc 1 RInt w' A' c' rs ∧ Below W.heap.size W w') := Lib.hid (fun W hW hok => by
    have h := regions_any ts ls l ps A B C c d e W (HTS.out.keep RTy.keeps hW) (HLS.out.keep RLc.keeps hW) (HPS.out.keep RPj.keeps hW) hok
    rw [hrs, hrl] at h
    exact h)
  have HTY := Lib.hid hty
  have HRS := Lib.hid hrs
  have HK : Hid (rs.length ≤ 33) := Lib.hid (by rw [← hrl]; exact refsOf_len ts ls l ps)
  clear hty hrs hrl
  have hB0 : Below w.heap.size w (w.alloc (.cells #[.int .i64 l, .slice C ps.length e] 24)) := (Below.refl _ _).alloc (Nat.le_refl _) _
  have hsk := Lib.hid (skip_any ts ls A B c d _ (HTS.out.keep RTy.keeps hB0) (HLS.out.keep RLc.keeps hB0))
  have HB0 := Lib.hid hB0
  clear hB0
  go_enter Try.func7, Try.ntmps7
  go_wp2_with fail
  go_at_call 12
  refine hsk.out.mono ?_
  rintro e' w1 ⟨⟨q, rfl, hq⟩, hb1⟩
  have y1 : w1.cell? ⟨w.heap.size, 0, none⟩ = some (.int .i64 l) := cell_keep hb1 (by go_simp)
  have y2 : w1.cell? ⟨w.heap.size, 1, none⟩ = some (.slice C ps.length e) := cell_keep hb1 (by go_simp)
  have HB1 := Lib.hid (HB0.out.trans (hb1.mono HB0.out.size))
  clear hb1 hsk HB0
  cases q
  case true =>
    clear hq
    go_wp2_with (go_at_call 9; refine (alive_any _).mono ?_; rintro e' w2 ⟨rfl, hb2⟩)
    go_ret
    exact ⟨rfl, HB1.out.trans (hb2.mono HB1.out.size)⟩
  case false =>
  have HOK := Lib.hid (hq rfl)
  clear hq
  by_cases hp : 100 < ps.length
  · go_wp2_with (go_at_call 9; refine (alive_any _).mono ?_; rintro e' w2 ⟨rfl, hb2⟩)
    go_ret
    exact ⟨rfl, HB1.out.trans (hb2.mono HB1.out.size)⟩
  go_wp2_with fail
  go_at_call 14
  refine (HT2.out _ HB1.out HOK.out).mono ?_
  rintro e' w3 ⟨rfl, hb3⟩
  have HB3 := Lib.hid (HB1.out.trans (hb3.mono HB1.out.size))
  replace y1 := cell_keep hb3 y1
  replace y2 := cell_keep hb3 y2
  clear hb3 HT2 HB1
  by_cases he : e0 = 0
  case neg =>
    have he2 : (e0 == 0) = false := by simp [he]
    have he3 : (e0 != 0) = true := by simp [he]
    go_wp2_with (go_at_call 9; refine (alive_any _).mono ?_; rintro e' w2 ⟨rfl, hb2⟩)
    go_ret
    exact ⟨rfl, HB3.out.trans (hb2.mono HB3.out.size)⟩
  case pos =>
  subst he
  have HT0 : Hid ((tyOf ts ls l ps).2 = 0) := Lib.hid (by rw [HTY.out])
  clear HTY
  go_wp2_with fail
  go_at_call 18
  refine (HR.out _ HB3.out HOK.out).mono ?_
  rintro e' w4 ⟨A9, c9, rfl, hr9, hb4⟩
  have HB4 := Lib.hid (HB3.out.trans (hb4.mono HB3.out.size))
  replace y1 := cell_keep hb4 y1
  replace y2 := cell_keep hb4 y2
  have HR9 := Lib.hid hr9
  have hrle := hr9.le
  have hrbig := hr9.big
  clear hb4 HR HB3 hr9
  go_wp2_with fail
  go_loopw [10, 45] (fun la u wr => ∃ (k : Nat) (b : Bool), k ≤ ps.length + 1 ∧ u = .int .i64 k ∧ la = .bool b ∧ Hid (b = lastAt ts ls l ps k) ∧ wr.cell? ⟨w.heap.size, 0, none⟩ = some (.int .i64 l) ∧ wr.cell? ⟨w.heap.size, 1, none⟩ = some (.slice C ps.length e) ∧ Hid (Below w.heap.size w wr) ∧ Hid (Slc 1 RInt wr A9 c9 rs)) (fun _ u _ => ps.length + 1 - (intOf u).toNat)
  case atStart => exact ⟨0, true, by omega, rfl, rfl, Lib.hid rfl, y1, y2, HB4, HR9⟩
  case round =>
    clear y1 y2 HB4 HR9
    obtain ⟨k, b0, hk, rfl, rfl, hla, y1, y2, HB, HR9⟩ := hrel
    by_cases hlt : k < ps.length + 1
    · have hkl : (ps.take k).length = k := by rw [List.length_take]; omega
      obtain ⟨kk, hkk⟩ : ∃ kk, tyOf ts ls l (ps.take k) = (kk, 0) := ⟨_, Prod.ext rfl (tyOf_take HT0.out k)⟩
      obtain ⟨xs, hxs⟩ : ∃ xs, regAt ts ls l ps k = xs := ⟨_, rfl⟩
      obtain ⟨b1, hm⟩ : ∃ b1, mutAt ts ls l ps k = b1 := ⟨_, rfl⟩
      have hxl := (reg_take HT0.out k).1
      have hxt := (reg_take HT0.out k).2
      rw [HRS.out, hxs] at hxl hxt
      have hxn : (refsOf ts ls l (ps.take k)).1.length = xs.length := by rw [← hxs, regAt, List.length_map]
      have hmono := last_mono HT0.out k
      rw [hm, ← hla.out] at hmono
      have HM0 := Lib.hid hmono
      have HNX : Hid (b1 = lastAt ts ls l ps (k + 1)) := Lib.hid hm.symm
      have HTk : Hid (∀ W : World, Below w.heap.size w W → Okay ts ls → Calls Try.prog 13 #[.slice A ts.length c, .slice B ls.length d, .agg #[.int .i64 l, .slice C k e]] W fun e' w' => e' = .returned (.tuple #[.int .i64 kk, .int .i64 0]) ∧ Below W.heap.size W w') := Lib.hid (fun W hW hok => by
        have h := typeOf_any ts ls l (ps.take k) A B C c d e W (HTS.out.keep RTy.keeps hW) (HLS.out.keep RLc.keeps hW) ((HPS.out.takeN k).keep RPj.keeps hW) hok
        rw [hkk, hkl] at h
        exact h)
      have HRk : Hid (∀ W : World, Below w.heap.size w W → Okay ts ls → Calls Try.prog 18 #[.slice A ts.length c, .slice B ls.length d, .agg #[.int .i64 l, .slice C k e]] W fun e' w' => ∃ A' c', e' = .returned (.slice A' xs.length c') ∧ Slc 1 RInt w' A' c' xs ∧ Below W.heap.size W w') := Lib.hid (fun W hW hok => by
        have h := regions_any ts ls l (ps.take k) A B C c d e W (HTS.out.keep RTy.keeps hW) (HLS.out.keep RLc.keeps hW) ((HPS.out.takeN k).keep RPj.keeps hW) hok
        rw [hkl, hxn, show (refsOf ts ls l (ps.take k)).1.map (·.reg) = xs from hxs] at h
        exact h)
      have HMk : Hid (∀ W : World, Below w.heap.size w W → Okay ts ls → Calls Try.prog 15 #[.slice A ts.length c, .slice B ls.length d, .agg #[.int .i64 l, .slice C k e]] W fun e' w' => e' = .returned (.bool b1) ∧ Below W.heap.size W w') := Lib.hid (fun W hW hok => by
        have h := mutable_any ts ls l (ps.take k) A B C c d e W (HTS.out.keep RTy.keeps hW) (HLS.out.keep RLc.keeps hW) ((HPS.out.takeN k).keep RPj.keeps hW) hok
        rw [hkl, mut_take HT0.out k, hm] at h
        exact h)
      have HPk : Hid (∀ W : World, Below w.heap.size w W → Calls Try.prog 22 #[.agg #[.int .i64 l, .slice C k e], .agg #[.int .i64 l, .slice C ps.length e]] W fun e' w' => e' = .returned (.bool true) ∧ Below W.heap.size W w') := Lib.hid (fun W hW => by
        have h := isPre_any ⟨l, ps.take k⟩ ⟨l, ps⟩ C C e e W ((HPS.out.takeN k).keep RPj.keeps hW) (HPS.out.keep RPj.keeps hW)
        rw [pre_take l ps k, show (⟨l, ps.take k⟩ : Plc).proj.length = k from hkl] at h
        exact h)
      have HEq : Hid (∀ (W : World) (A5 : Option Addr) (c5 : Nat), Slc 1 RInt W A5 c5 xs → Slc 1 RInt W A9 c9 rs → Calls Try.prog 17 #[.slice A5 xs.length c5, .slice A9 xs.length c9] W fun e' w' => e' = .returned (.bool true) ∧ ∃ q, w' = W.drewN q) := Lib.hid (fun W A5 c5 h1 h2 => by
        have h := eqInt_any A5 A9 c5 c9 xs (rs.take xs.length) W h1 (h2.takeN _)
        rw [hxt] at h
        simpa using h)
      have hwk : IntKind.i64.wrap (k : Int) = (k : Int) := by rw [IntKind.wrap_i64]; omega
      have hkp : k ≤ ps.length := by omega
      have hxc : xs.length ≤ c9 := by omega
      have hxb := HK.out
      clear hkk hm hxs hxn hmono hxt hla hkl
      go_wp2_with fail
      have HB1 := Lib.hid HB.out.drew
      refine wp_region_m (S := fun X => X.cell? ⟨w.heap.size, 0, none⟩ = some (.int .i64 l) ∧ X.cell? ⟨w.heap.size, 1, none⟩ = some (.slice C ps.length e)) (t := 9) (by kernel_rfl) ?_
      have hS : wr.drew.cell? ⟨w.heap.size, 0, none⟩ = some (.int .i64 l) ∧ wr.drew.cell? ⟨w.heap.size, 1, none⟩ = some (.slice C ps.length e) := ⟨y1, y2⟩
      refine wpAnyM_take (i := 0) (v := ?tv0) rfl (by kernel_rfl) (by kernel_rfl) (by kernel_rfl) (by kernel_rfl) (fun _ _ _ h => h) (Or.inl ⟨by rfl, ?ty0⟩) hS ?tr0
      case ty0 =>
        rintro X ⟨s1, s2⟩
        simp only [List.getElem_toArray, List.getElem_cons_zero, List.getElem_cons_succ]
        go_simp
        rfl
      simp only [List.getElem_toArray, List.getElem_cons_zero, List.getElem_cons_succ, Act.put, List.setIfInBounds_toArray, List.set_cons_zero, List.set_cons_succ]
      refine wpAnyM_take (i := 1) (v := ?tv1) rfl (by kernel_rfl) (by kernel_rfl) (by kernel_rfl) (by kernel_rfl) (fun _ _ _ h => h) (Or.inl ⟨by rfl, ?ty1⟩) hS ?tr1
      case ty1 =>
        rintro X ⟨s1, s2⟩
        simp only [List.getElem_toArray, List.getElem_cons_zero, List.getElem_cons_succ]
        go_simp
        rfl
      simp only [List.getElem_toArray, List.getElem_cons_zero, List.getElem_cons_succ, Act.put, List.setIfInBounds_toArray, List.set_cons_zero, List.set_cons_succ]
      refine wpAnyM_take (i := 2) (v := ?tv2) rfl (by kernel_rfl) (by kernel_rfl) (by kernel_rfl) (by kernel_rfl) (fun _ _ _ h => h) (Or.inl ⟨by rfl, ?ty2⟩) hS ?tr2
      case ty2 =>
        rintro X ⟨s1, s2⟩
        simp only [List.getElem_toArray, List.getElem_cons_zero, List.getElem_cons_succ]
        go_simp
        rfl
      simp only [List.getElem_toArray, List.getElem_cons_zero, List.getElem_cons_succ, Act.put, List.setIfInBounds_toArray, List.set_cons_zero, List.set_cons_succ]
      refine wpAnyM_take (i := 3) (v := ?tv3) rfl (by kernel_rfl) (by kernel_rfl) (by kernel_rfl) (by kernel_rfl) (fun _ _ _ h => h) (Or.inl ⟨by rfl, ?ty3⟩) hS ?tr3
      case ty3 =>
        rintro X ⟨s1, s2⟩
        simp only [List.getElem_toArray, List.getElem_cons_zero, List.getElem_cons_succ]
        go_simp
        rfl
      simp only [List.getElem_toArray, List.getElem_cons_zero, List.getElem_cons_succ, Act.put, List.setIfInBounds_toArray, List.set_cons_zero, List.set_cons_succ]
      refine wpAnyM_take (i := 4) (v := ?tv4) rfl (by kernel_rfl) (by kernel_rfl) (by kernel_rfl) (by kernel_rfl) (fun _ _ _ h => h) (Or.inl ⟨by rfl, ?ty4⟩) hS ?tr4
      case ty4 =>
        rintro X ⟨s1, s2⟩
        simp only [List.getElem_toArray, List.getElem_cons_zero, List.getElem_cons_succ]
        go_simp
        rfl
      simp only [List.getElem_toArray, List.getElem_cons_zero, List.getElem_cons_succ, Act.put, List.setIfInBounds_toArray, List.set_cons_zero, List.set_cons_succ]
      refine wpAnyM_take (i := 5) (v := .slice C k e) rfl (by kernel_rfl) (by kernel_rfl) (by kernel_rfl) (by kernel_rfl) (fun _ _ _ h => h) (Or.inl ⟨by rfl, ?ty5⟩) hS ?tr5
      case ty5 =>
        rintro X ⟨s1, s2⟩
        simp only [List.getElem_toArray, List.getElem_cons_zero, List.getElem_cons_succ]
        go_simp
        (try simp only [hwk]); first | rfl | (intro h; omega) | (rw [if_pos (by omega)]; simp) | (rw [if_pos (by omega)])
      simp only [List.getElem_toArray, List.getElem_cons_zero, List.getElem_cons_succ, Act.put, List.setIfInBounds_toArray, List.set_cons_zero, List.set_cons_succ]
      refine wpAnyM_take (i := 6) (v := ?tv6) rfl (by kernel_rfl) (by kernel_rfl) (by kernel_rfl) (by kernel_rfl) (fun _ _ _ h => h) (Or.inl ⟨by rfl, ?ty6⟩) hS ?tr6
      case ty6 =>
        rintro X ⟨s1, s2⟩
        simp only [List.getElem_toArray, List.getElem_cons_zero, List.getElem_cons_succ]
        go_simp
        rfl
      simp only [List.getElem_toArray, List.getElem_cons_zero, List.getElem_cons_succ, Act.put, List.setIfInBounds_toArray, List.set_cons_zero, List.set_cons_succ]
      refine wpAnyM_one (i := 7) (by kernel_rfl) rfl (fun K1 hK1 => ?_)
      simp only [List.getElem_toArray, List.getElem_cons_zero, List.getElem_cons_succ, Act.put, List.setIfInBounds_toArray, List.set_cons_zero, List.set_cons_succ]
      rw [if_pos (by rfl)]
      go_simp
      have hw0 := World.block_lt_of_cell? _ _ y1
      have hS2 : (wr.drew.alloc (.cells #[.int .i64 0, .slice none 0 0] 24)).cell? ⟨w.heap.size, 0, none⟩ = some (.int .i64 l) ∧ (wr.drew.alloc (.cells #[.int .i64 0, .slice none 0 0] 24)).cell? ⟨w.heap.size, 1, none⟩ = some (.slice C ps.length e) := ⟨cell_keep ((Below.refl _ _).alloc (Nat.le_refl _) _) hS.1, cell_keep ((Below.refl _ _).alloc (Nat.le_refl _) _) hS.2⟩
      refine hK1.out _ _ (fun _ => hS2) ?_
      refine wpAnyM_one (i := 8) (by kernel_rfl) rfl (fun K2 hK2 => ?_)
      simp only [List.getElem_toArray, List.getElem_cons_zero, List.getElem_cons_succ, Act.put, List.setIfInBounds_toArray, List.set_cons_zero, List.set_cons_succ]
      rw [if_pos (by rfl)]
      go_simp
      have hS3 : (wr.drew.alloc (.cells #[.int .i64 l, .slice C k e] 24)).cell? ⟨w.heap.size, 0, none⟩ = some (.int .i64 l) ∧ (wr.drew.alloc (.cells #[.int .i64 l, .slice C k e] 24)).cell? ⟨w.heap.size, 1, none⟩ = some (.slice C ps.length e) := ⟨cell_keep ((Below.refl _ _).alloc (Nat.le_refl _) _) hS.1, cell_keep ((Below.refl _ _).alloc (Nat.le_refl _) _) hS.2⟩
      refine hK2.out _ _ (fun _ => hS3) ?_
      refine wpAnyM_done (by kernel_rfl) ?_ _
      have hq : ∃ W g, W = (wr.alloc (.cells #[.int .i64 l, .slice C k e] 24)).drew ∧ g = wr.heap.size ∧ W.cell? ⟨g, 0, none⟩ = some (.int .i64 l) ∧ W.cell? ⟨g, 1, none⟩ = some (.slice C k e) ∧ W.cell? ⟨w.heap.size, 0, none⟩ = some (.int .i64 l) ∧ W.cell? ⟨w.heap.size, 1, none⟩ = some (.slice C ps.length e) ∧ Below w.heap.size w W ∧ Slc 1 RInt W A9 c9 rs :=
        ⟨_, _, rfl, rfl, by go_simp, by go_simp, hS3.1, hS3.2, (HB.out.alloc HB.out.size _).drew, (HR9.out.keep RInt.keeps ((Below.refl _ _).alloc (Nat.le_refl _) _).drew)⟩
      obtain ⟨W5, g5, hW5, hg5, z1, z2, z3, z4, hb5, hr5⟩ := hq
      rw [← hW5, ← hg5]
      have HB5 := Lib.hid hb5
      have HR5 := Lib.hid hr5
      clear hW5 hg5 hb5 hr5 hS hS2 hS3 hK1 hK2 y1 y2 HB HB1 HR9
      go_upto_region 15 with (first
        | (go_at_call 13; refine (HTk.out _ HB5.out HOK.out).mono ?_; rintro e' w6 ⟨rfl, hb6⟩; have HB6 := Lib.hid (HB5.out.trans (hb6.mono HB5.out.size)); have HR6 := Lib.hid (HR5.out.keep RInt.keeps hb6); replace z1 := cell_keep hb6 z1; replace z2 := cell_keep hb6 z2; replace z3 := cell_keep hb6 z3; replace z4 := cell_keep hb6 z4; clear hb6 HB5 HR5)
        | (go_at_call 18; refine (HRk.out _ HB6.out HOK.out).mono ?_; rintro e' w7 ⟨A5, c5, rfl, hr7, hb7⟩; have HB7 := Lib.hid (HB6.out.trans (hb7.mono HB6.out.size)); have HR7 := Lib.hid (HR6.out.keep RInt.keeps hb7); have HX7 := Lib.hid hr7; replace z1 := cell_keep hb7 z1; replace z2 := cell_keep hb7 z2; replace z3 := cell_keep hb7 z3; replace z4 := cell_keep hb7 z4; clear hb7 HB6 HR6 hr7)
        | (go_at_call 15; refine (HMk.out _ HB7.out HOK.out).mono ?_; rintro e' w8 ⟨rfl, hb8⟩; have HB8 := Lib.hid (HB7.out.trans (hb8.mono HB7.out.size)); have HR8 := Lib.hid (HR7.out.keep RInt.keeps hb8); have HX8 := Lib.hid (HX7.out.keep RInt.keeps hb8); replace z1 := cell_keep hb8 z1; replace z2 := cell_keep hb8 z2; replace z3 := cell_keep hb8 z3; replace z4 := cell_keep hb8 z4; clear hb8 HB7 HR7 HX7))
      cases b1 <;> cases b0 <;> (first | (exfalso; have := HM0.out; simp at this; done) | skip)
      all_goals
        clear HM0
        go_wp2_with (first
          | (go_at_call 17; refine (HEq.out _ _ _ HX8.out HR8.out).mono ?_; rintro e' w9 ⟨rfl, hw9⟩; have hb9 := below_of_drewN hw9; have HB9 := Lib.hid (HB8.out.trans (hb9.mono HB8.out.size)); have HR9 := Lib.hid (HR8.out.keep RInt.keeps hb9); replace z1 := cell_keep hb9 z1; replace z2 := cell_keep hb9 z2; replace z3 := cell_keep hb9 z3; replace z4 := cell_keep hb9 z4; clear hb9 hw9 HB8 HR8 HX8)
          | (go_at_call 22; refine (HPk.out _ HB9.out).mono ?_; rintro e' w10 ⟨rfl, hb10⟩; have HB10 := Lib.hid (HB9.out.trans (hb10.mono HB9.out.size)); have HR10 := Lib.hid (HR9.out.keep RInt.keeps hb10); replace z3 := cell_keep hb10 z3; replace z4 := cell_keep hb10 z4; clear hb10 HB9 HR9 z1 z2))
        go_roundw
        case rel => exact ⟨k + 1, _, by omega, by go_num, rfl, HNX, z3, z4, HB10, HR10⟩
        case measure => simp [intOf]; omega
    · go_wp2_with (go_at_call 9; refine (alive_any _).mono ?_; rintro e' w2 ⟨rfl, hb2⟩)
      go_ret
      exact ⟨rfl, HB.out.trans (hb2.mono HB.out.size)⟩
end Go.Proofs.Ytmfdppgfbgjmcaa
