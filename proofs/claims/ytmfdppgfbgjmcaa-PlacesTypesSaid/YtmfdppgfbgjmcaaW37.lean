/-
  Walk: the law PlacesTypes.
-/
import Derived.Test.YtmfdppgfbgjmcaaW30
import Derived.Test.YtmfdppgfbgjmcaaW22
namespace Go.Proofs.Ytmfdppgfbgjmcaa
open Go.RowKit Go.Shelf

set_option maxRecDepth 100000 in
set_option maxHeartbeats 4000000 in
theorem ptypes_any (ts : List Ty) (ls : List Lc) (l : Int) (ps : List Pj) (A B C : Option Addr) (c d e : Nat) (w : World) (hts : Slc 5 RTy w A c ts) (hls : Slc 2 RLc w B d ls) (hps : Slc 2 RPj w C e ps) :
    Calls Try.prog 4 #[.slice A ts.length c, .slice B ls.length d, .agg #[.int .i64 l, .slice C ps.length e]] w fun e' w' => e' = .returned (.bool true) ∧ Below w.heap.size w w' := by
  have hple := hps.le
  have hpbig := hps.big
  have hle := hts.le
  have hbig := hts.big
  have hle2 := hls.le
  have hbig2 := hls.big
  have HTS := Lib.hid hts
  have HLS := Lib.hid hls
  have HPS := Lib.hid hps
  clear hts hls hps
  obtain ⟨k0, e0, hty⟩ : ∃ k0 e0, tyOf ts ls l ps = (k0, e0) := ⟨_, _, rfl⟩
  obtain ⟨b0, hmu⟩ : ∃ b : Bool, ((refsOf ts ls l ps).2 && !(refsOf ts ls l ps).1.any notMu) = b := ⟨_, rfl⟩
  obtain ⟨rs, hrs⟩ : ∃ rs : List Int, (refsOf ts ls l ps).1.map (·.reg) = rs := ⟨_, rfl⟩
  have hrl : (refsOf ts ls l ps).1.length = rs.length := by rw [← hrs, List.length_map]
  have HT : Hid (∀ W : World, Below w.heap.size w W → Okay ts ls → Calls Try.prog 13 #[.slice A ts.length c, .slice B ls.length d, .agg #[.int .i64 l, .slice C ps.length e]] W fun e' w' => e' = .returned (.tuple #[.int .i64 k0, .int .i64 e0]) ∧ Below W.heap.size W w') := Lib.hid (fun W hW hok => by
    have h := typeOf_any ts ls l ps A B C c d e W (HTS.out.keep RTy.keeps hW) (HLS.out.keep RLc.keeps hW) (HPS.out.keep RPj.keeps hW) hok
    rw [hty] at h
    exact h)
  have HT2 : Hid (∀ W : World, Below w.heap.size w W → Okay ts ls → Calls Try.prog 14 #[.slice A ts.length c, .slice B ls.length d, .agg #[.int .i64 l, .slice C ps.length e]] W fun e' w' => e' = .returned (.tuple #[.int .i64 k0, .int .i64 e0]) ∧ Below W.heap.size W w') := Lib.hid (fun W hW hok => by
    have h := rty_any ts ls l ps.length ps rfl A B C c d e W (HTS.out.keep RTy.keeps hW) (HLS.out.keep RLc.keeps hW) (HPS.out.keep RPj.keeps hW) hok
    rw [hty] at h
    exact h)
  have HM : Hid (∀ W : World, Below w.heap.size w W → Okay ts ls → Calls Try.prog 15 #[.slice A ts.length c, .slice B ls.length d, .agg #[.int .i64 l, .slice C ps.length e]] W fun e' w' => e' = .returned (.bool b0) ∧ Below W.heap.size W w') := Lib.hid (fun W hW hok => by
    have h := mutable_any ts ls l ps A B C c d e W (HTS.out.keep RTy.keeps hW) (HLS.out.keep RLc.keeps hW) (HPS.out.keep RPj.keeps hW) hok
    rw [hmu] at h
    exact h)
  have HM2 : Hid (∀ W : World, Below w.heap.size w W → Okay ts ls → Calls Try.prog 16 #[.slice A ts.length c, .slice B ls.length d, .agg #[.int .i64 l, .slice C ps.length e]] W fun e' w' => e' = .returned (.bool b0) ∧ Below W.heap.size W w') := Lib.hid (fun W hW hok => by
    have h := rmutable_any ts ls l ps A B C c d e W (HTS.out.keep RTy.keeps hW) (HLS.out.keep RLc.keeps hW) (HPS.out.keep RPj.keeps hW) hok
    rw [hmu] at h
    exact h)
  have HR : Hid (∀ W : World, Below w.heap.size w W → Okay ts ls → Calls Try.prog 18 #[.slice A ts.length c, .slice B ls.length d, .agg #[.int .i64 l, .slice C ps.length e]] W fun e' w' => ∃ A' c', e' = .returned (.slice A' rs.length c') ∧ Slc 1 RInt w' A' c' rs ∧ Below W.heap.size W w') := Lib.hid (fun W hW hok => by
    have h := regions_any ts ls l ps A B C c d e W (HTS.out.keep RTy.keeps hW) (HLS.out.keep RLc.keeps hW) (HPS.out.keep RPj.keeps hW) hok
    rw [hrs, hrl] at h
    exact h)
  have HR2 : Hid (∀ W : World, Below w.heap.size w W → Okay ts ls → Calls Try.prog 19 #[.slice A ts.length c, .slice B ls.length d, .agg #[.int .i64 l, .slice C ps.length e]] W fun e' w' => ∃ A' c', e' = .returned (.slice A' rs.length c') ∧ Slc 1 RInt w' A' c' rs ∧ Below W.heap.size W w') := Lib.hid (fun W hW hok => by
    have h := rregions_any ts ls l ps A B C c d e W (HTS.out.keep RTy.keeps hW) (HLS.out.keep RLc.keeps hW) (HPS.out.keep RPj.keeps hW) hok
    rw [hrs, hrl] at h
    exact h)
  clear hty hmu hrs hrl
  have hB0 : Below w.heap.size w (w.alloc (.cells #[.int .i64 l, .slice C ps.length e] 24)) := (Below.refl _ _).alloc (Nat.le_refl _) _
  have hsk := Lib.hid (skip_any ts ls A B c d _ (HTS.out.keep RTy.keeps hB0) (HLS.out.keep RLc.keeps hB0))
  have HB0 := Lib.hid hB0
  clear hB0
  go_enter Try.func4, Try.ntmps4
  go_wp2_with fail
  go_at_call 12
  refine hsk.out.mono ?_
  rintro e' w1 ⟨⟨q, rfl, hq⟩, hb1⟩
  have y1 : w1.cell? ⟨w.heap.size, 0, none⟩ = some (.int .i64 l) := cell_keep hb1 (by go_simp)
  have y2 : w1.cell? ⟨w.heap.size, 1, none⟩ = some (.slice C ps.length e) := cell_keep hb1 (by go_simp)
  have HB1 := Lib.hid (HB0.out.trans (hb1.mono HB0.out.size))
  clear hb1 hsk HB0
  cases q
  case true =>
    clear hq
    go_wp2_with (go_at_call 9; refine (alive_any _).mono ?_; rintro e' w2 ⟨rfl, hb2⟩)
    go_ret
    exact ⟨rfl, HB1.out.trans (hb2.mono HB1.out.size)⟩
  case false =>
    have HOK := Lib.hid (hq rfl)
    clear hq
    by_cases hp : 100 < ps.length
    · go_wp2_with (go_at_call 9; refine (alive_any _).mono ?_; rintro e' w2 ⟨rfl, hb2⟩)
      go_ret
      exact ⟨rfl, HB1.out.trans (hb2.mono HB1.out.size)⟩
    · go_wp2_with (first
        | (go_at_call 13; refine (HT.out _ HB1.out HOK.out).mono ?_; rintro e' w2 ⟨rfl, hb2⟩; have HB2 := Lib.hid (HB1.out.trans (hb2.mono HB1.out.size)); replace y1 := cell_keep hb2 y1; replace y2 := cell_keep hb2 y2; clear hb2)
        | (go_at_call 14; refine (HT2.out _ HB2.out HOK.out).mono ?_; rintro e' w3 ⟨rfl, hb3⟩; have HB3 := Lib.hid (HB2.out.trans (hb3.mono HB2.out.size)); replace y1 := cell_keep hb3 y1; replace y2 := cell_keep hb3 y2; clear hb3))
      refine wp_region_m (S := fun X => X.cell? ⟨w.heap.size, 0, none⟩ = some (.int .i64 l) ∧ X.cell? ⟨w.heap.size, 1, none⟩ = some (.slice C ps.length e)) (t := 34) (by kernel_rfl) ?_
      have hB0 : Below w.heap.size w w3.drew := HB3.out.drew
      have hS0 : w3.drew.cell? ⟨w.heap.size, 0, none⟩ = some (.int .i64 l) ∧ w3.drew.cell? ⟨w.heap.size, 1, none⟩ = some (.slice C ps.length e) := ⟨y1, y2⟩
      refine wpAnyM_one (i := 0) (by kernel_rfl) rfl (fun K1 hK1 => ?_)
      simp only [List.getElem_toArray, List.getElem_cons_zero, List.getElem_cons_succ, Act.put, List.setIfInBounds_toArray, List.set_cons_zero, List.set_cons_succ]
      rw [if_pos (by rfl)]
      go_simp
      refine (alive_any _).mono ?_
      rintro e' v1 ⟨rfl, hb1⟩
      have hB1 : Below w.heap.size w v1 := hB0.trans (hb1.mono hB0.size)
      have hS1 : v1.cell? ⟨w.heap.size, 0, none⟩ = some (.int .i64 l) ∧ v1.cell? ⟨w.heap.size, 1, none⟩ = some (.slice C ps.length e) := ⟨cell_keep hb1 hS0.1, cell_keep hb1 hS0.2⟩
      refine hK1.out _ _ (fun _ => hS1) ?_
      refine wpAnyM_take (i := 1) (v := ?tv1) rfl (by kernel_rfl) (by kernel_rfl) (by kernel_rfl) (by kernel_rfl) (fun _ _ _ h => h) (Or.inl ⟨by rfl, ?ty1⟩) hS1 ?tr1
      case ty1 =>
        rintro X ⟨s0, s1⟩
        simp only [List.getElem_toArray, List.getElem_cons_zero, List.getElem_cons_succ]
        go_simp
        rfl
      simp only [List.getElem_toArray, List.getElem_cons_zero, List.getElem_cons_succ, Act.put, List.setIfInBounds_toArray, List.set_cons_zero, List.set_cons_succ]
      refine wpAnyM_take (i := 2) (v := ?tv2) rfl (by kernel_rfl) (by kernel_rfl) (by kernel_rfl) (by kernel_rfl) (fun _ _ _ h => h) (Or.inl ⟨by rfl, ?ty2⟩) hS1 ?tr2
      case ty2 =>
        rintro X ⟨s0, s1⟩
        simp only [List.getElem_toArray, List.getElem_cons_zero, List.getElem_cons_succ]
        go_simp
        rfl
      simp only [List.getElem_toArray, List.getElem_cons_zero, List.getElem_cons_succ, Act.put, List.setIfInBounds_toArray, List.set_cons_zero, List.set_cons_succ]
      refine wpAnyM_take (i := 3) (v := ?tv3) rfl (by kernel_rfl) (by kernel_rfl) (by kernel_rfl) (by kernel_rfl) (fun _ _ _ h => h) (Or.inl ⟨by rfl, ?ty3⟩) hS1 ?tr3
      case ty3 =>
        rintro X ⟨s0, s1⟩
        simp only [List.getElem_toArray, List.getElem_cons_zero, List.getElem_cons_succ]
        go_simp
        rfl
      simp only [List.getElem_toArray, List.getElem_cons_zero, List.getElem_cons_succ, Act.put, List.setIfInBounds_toArray, List.set_cons_zero, List.set_cons_succ]
      refine wpAnyM_take (i := 4) (v := ?tv4) rfl (by kernel_rfl) (by kernel_rfl) (by kernel_rfl) (by kernel_rfl) (fun _ _ _ h => h) (Or.inl ⟨by rfl, ?ty4⟩) hS1 ?tr4
      case ty4 =>
        rintro X ⟨s0, s1⟩
        simp only [List.getElem_toArray, List.getElem_cons_zero, List.getElem_cons_succ]
        go_simp
        rfl
      simp only [List.getElem_toArray, List.getElem_cons_zero, List.getElem_cons_succ, Act.put, List.setIfInBounds_toArray, List.set_cons_zero, List.set_cons_succ]
      refine wpAnyM_take (i := 5) (v := ?tv5) rfl (by kernel_rfl) (by kernel_rfl) (by kernel_rfl) (by kernel_rfl) (fun _ _ _ h => h) (Or.inl ⟨by rfl, ?ty5⟩) hS1 ?tr5
      case ty5 =>
        rintro X ⟨s0, s1⟩
        simp only [List.getElem_toArray, List.getElem_cons_zero, List.getElem_cons_succ]
        go_simp
        rfl
      simp only [List.getElem_toArray, List.getElem_cons_zero, List.getElem_cons_succ, Act.put, List.setIfInBounds_toArray, List.set_cons_zero, List.set_cons_succ]
      refine wpAnyM_take (i := 6) (v := ?tv6) rfl (by kernel_rfl) (by kernel_rfl) (by kernel_rfl) (by kernel_rfl) (fun _ _ _ h => h) (Or.inl ⟨by rfl, ?ty6⟩) hS1 ?tr6
      case ty6 =>
        rintro X ⟨s0, s1⟩
        simp only [List.getElem_toArray, List.getElem_cons_zero, List.getElem_cons_succ]
        go_simp
        rfl
      simp only [List.getElem_toArray, List.getElem_cons_zero, List.getElem_cons_succ, Act.put, List.setIfInBounds_toArray, List.set_cons_zero, List.set_cons_succ]
      refine wpAnyM_take (i := 7) (v := ?tv7) rfl (by kernel_rfl) (by kernel_rfl) (by kernel_rfl) (by kernel_rfl) (fun _ _ _ h => h) (Or.inl ⟨by rfl, ?ty7⟩) hS1 ?tr7
      case ty7 =>
        rintro X ⟨s0, s1⟩
        simp only [List.getElem_toArray, List.getElem_cons_zero, List.getElem_cons_succ]
        go_simp
        rfl
      simp only [List.getElem_toArray, List.getElem_cons_zero, List.getElem_cons_succ, Act.put, List.setIfInBounds_toArray, List.set_cons_zero, List.set_cons_succ]
      refine wpAnyM_take (i := 8) (v := ?tv8) rfl (by kernel_rfl) (by kernel_rfl) (by kernel_rfl) (by kernel_rfl) (fun _ _ _ h => h) (Or.inl ⟨by rfl, ?ty8⟩) hS1 ?tr8
      case ty8 =>
        rintro X ⟨s0, s1⟩
        simp only [List.getElem_toArray, List.getElem_cons_zero, List.getElem_cons_succ]
        go_simp
        rfl
      simp only [List.getElem_toArray, List.getElem_cons_zero, List.getElem_cons_succ, Act.put, List.setIfInBounds_toArray, List.set_cons_zero, List.set_cons_succ]
      refine wpAnyM_take (i := 9) (v := ?tv9) rfl (by kernel_rfl) (by kernel_rfl) (by kernel_rfl) (by kernel_rfl) (fun _ _ _ h => h) (Or.inl ⟨by rfl, ?ty9⟩) hS1 ?tr9
      case ty9 =>
        rintro X ⟨s0, s1⟩
        simp only [List.getElem_toArray, List.getElem_cons_zero, List.getElem_cons_succ]
        go_simp
        rfl
      simp only [List.getElem_toArray, List.getElem_cons_zero, List.getElem_cons_succ, Act.put, List.setIfInBounds_toArray, List.set_cons_zero, List.set_cons_succ]
      refine wpAnyM_take (i := 10) (v := ?tv10) rfl (by kernel_rfl) (by kernel_rfl) (by kernel_rfl) (by kernel_rfl) (fun _ _ _ h => h) (Or.inl ⟨by rfl, ?ty10⟩) hS1 ?tr10
      case ty10 =>
        rintro X ⟨s0, s1⟩
        simp only [List.getElem_toArray, List.getElem_cons_zero, List.getElem_cons_succ]
        go_simp
        rfl
      simp only [List.getElem_toArray, List.getElem_cons_zero, List.getElem_cons_succ, Act.put, List.setIfInBounds_toArray, List.set_cons_zero, List.set_cons_succ]
      refine wpAnyM_take (i := 11) (v := ?tv11) rfl (by kernel_rfl) (by kernel_rfl) (by kernel_rfl) (by kernel_rfl) (fun _ _ _ h => h) (Or.inl ⟨by rfl, ?ty11⟩) hS1 ?tr11
      case ty11 =>
        rintro X ⟨s0, s1⟩
        simp only [List.getElem_toArray, List.getElem_cons_zero, List.getElem_cons_succ]
        go_simp
        rfl
      simp only [List.getElem_toArray, List.getElem_cons_zero, List.getElem_cons_succ, Act.put, List.setIfInBounds_toArray, List.set_cons_zero, List.set_cons_succ]
      refine wpAnyM_take (i := 12) (v := ?tv12) rfl (by kernel_rfl) (by kernel_rfl) (by kernel_rfl) (by kernel_rfl) (fun _ _ _ h => h) (Or.inl ⟨by rfl, ?ty12⟩) hS1 ?tr12
      case ty12 =>
        rintro X ⟨s0, s1⟩
        simp only [List.getElem_toArray, List.getElem_cons_zero, List.getElem_cons_succ]
        go_simp
        rfl
      simp only [List.getElem_toArray, List.getElem_cons_zero, List.getElem_cons_succ, Act.put, List.setIfInBounds_toArray, List.set_cons_zero, List.set_cons_succ]
      refine wpAnyM_take (i := 13) (v := ?tv13) rfl (by kernel_rfl) (by kernel_rfl) (by kernel_rfl) (by kernel_rfl) (fun _ _ _ h => h) (Or.inl ⟨by rfl, ?ty13⟩) hS1 ?tr13
      case ty13 =>
        rintro X ⟨s0, s1⟩
        simp only [List.getElem_toArray, List.getElem_cons_zero, List.getElem_cons_succ]
        go_simp
        rfl
      simp only [List.getElem_toArray, List.getElem_cons_zero, List.getElem_cons_succ, Act.put, List.setIfInBounds_toArray, List.set_cons_zero, List.set_cons_succ]
      refine wpAnyM_take (i := 14) (v := ?tv14) rfl (by kernel_rfl) (by kernel_rfl) (by kernel_rfl) (by kernel_rfl) (fun _ _ _ h => h) (Or.inl ⟨by rfl, ?ty14⟩) hS1 ?tr14
      case ty14 =>
        rintro X ⟨s0, s1⟩
        simp only [List.getElem_toArray, List.getElem_cons_zero, List.getElem_cons_succ]
        go_simp
        rfl
      simp only [List.getElem_toArray, List.getElem_cons_zero, List.getElem_cons_succ, Act.put, List.setIfInBounds_toArray, List.set_cons_zero, List.set_cons_succ]
      refine wpAnyM_take (i := 16) (v := ?tv16) rfl (by kernel_rfl) (by kernel_rfl) (by kernel_rfl) (by kernel_rfl) (fun _ _ _ h => h) (Or.inl ⟨by rfl, ?ty16⟩) hS1 ?tr16
      case ty16 =>
        rintro X ⟨s0, s1⟩
        simp only [List.getElem_toArray, List.getElem_cons_zero, List.getElem_cons_succ]
        go_simp
        rfl
      simp only [List.getElem_toArray, List.getElem_cons_zero, List.getElem_cons_succ, Act.put, List.setIfInBounds_toArray, List.set_cons_zero, List.set_cons_succ]
      refine wpAnyM_take (i := 17) (v := ?tv17) rfl (by kernel_rfl) (by kernel_rfl) (by kernel_rfl) (by kernel_rfl) (fun _ _ _ h => h) (Or.inl ⟨by rfl, ?ty17⟩) hS1 ?tr17
      case ty17 =>
        rintro X ⟨s0, s1⟩
        simp only [List.getElem_toArray, List.getElem_cons_zero, List.getElem_cons_succ]
        go_simp
        rfl
      simp only [List.getElem_toArray, List.getElem_cons_zero, List.getElem_cons_succ, Act.put, List.setIfInBounds_toArray, List.set_cons_zero, List.set_cons_succ]
      refine wpAnyM_take (i := 18) (v := ?tv18) rfl (by kernel_rfl) (by kernel_rfl) (by kernel_rfl) (by kernel_rfl) (fun _ _ _ h => h) (Or.inl ⟨by rfl, ?ty18⟩) hS1 ?tr18
      case ty18 =>
        rintro X ⟨s0, s1⟩
        simp only [List.getElem_toArray, List.getElem_cons_zero, List.getElem_cons_succ]
        go_simp
        rfl
      simp only [List.getElem_toArray, List.getElem_cons_zero, List.getElem_cons_succ, Act.put, List.setIfInBounds_toArray, List.set_cons_zero, List.set_cons_succ]
      refine wpAnyM_one (i := 15) (by kernel_rfl) rfl (fun K2 hK2 => ?_)
      simp only [List.getElem_toArray, List.getElem_cons_zero, List.getElem_cons_succ, Act.put, List.setIfInBounds_toArray, List.set_cons_zero, List.set_cons_succ]
      rw [if_pos (by rfl)]
      go_simp
      refine (HM.out _ hB1 HOK.out).mono ?_
      rintro e' v2 ⟨rfl, hb2⟩
      have hB2 : Below w.heap.size w v2 := hB1.trans (hb2.mono hB1.size)
      have hS2 : v2.cell? ⟨w.heap.size, 0, none⟩ = some (.int .i64 l) ∧ v2.cell? ⟨w.heap.size, 1, none⟩ = some (.slice C ps.length e) := ⟨cell_keep hb2 hS1.1, cell_keep hb2 hS1.2⟩
      refine hK2.out _ _ (fun _ => hS2) ?_
      refine wpAnyM_one (i := 19) (by kernel_rfl) rfl (fun K3 hK3 => ?_)
      simp only [List.getElem_toArray, List.getElem_cons_zero, List.getElem_cons_succ, Act.put, List.setIfInBounds_toArray, List.set_cons_zero, List.set_cons_succ]
      rw [if_pos (by rfl)]
      go_simp
      refine (HM2.out _ hB2 HOK.out).mono ?_
      rintro e' v3 ⟨rfl, hb3⟩
      have hB3 : Below w.heap.size w v3 := hB2.trans (hb3.mono hB2.size)
      have hS3 : v3.cell? ⟨w.heap.size, 0, none⟩ = some (.int .i64 l) ∧ v3.cell? ⟨w.heap.size, 1, none⟩ = some (.slice C ps.length e) := ⟨cell_keep hb3 hS2.1, cell_keep hb3 hS2.2⟩
      refine hK3.out _ _ (fun _ => hS3) ?_
      refine wpAnyM_take (i := 20) (v := ?tv20) rfl (by kernel_rfl) (by kernel_rfl) (by kernel_rfl) (by kernel_rfl) (fun _ _ _ h => h) (Or.inl ⟨by rfl, ?ty20⟩) hS3 ?tr20
      case ty20 =>
        rintro X ⟨s0, s1⟩
        simp only [List.getElem_toArray, List.getElem_cons_zero, List.getElem_cons_succ]
        go_simp
        rfl
      simp only [List.getElem_toArray, List.getElem_cons_zero, List.getElem_cons_succ, Act.put, List.setIfInBounds_toArray, List.set_cons_zero, List.set_cons_succ]
      refine wpAnyM_take (i := 21) (v := ?tv21) rfl (by kernel_rfl) (by kernel_rfl) (by kernel_rfl) (by kernel_rfl) (fun _ _ _ h => h) (Or.inl ⟨by rfl, ?ty21⟩) hS3 ?tr21
      case ty21 =>
        rintro X ⟨s0, s1⟩
        simp only [List.getElem_toArray, List.getElem_cons_zero, List.getElem_cons_succ]
        go_simp
        rfl
      simp only [List.getElem_toArray, List.getElem_cons_zero, List.getElem_cons_succ, Act.put, List.setIfInBounds_toArray, List.set_cons_zero, List.set_cons_succ]
      refine wpAnyM_take (i := 22) (v := ?tv22) rfl (by kernel_rfl) (by kernel_rfl) (by kernel_rfl) (by kernel_rfl) (fun _ _ _ h => h) (Or.inl ⟨by rfl, ?ty22⟩) hS3 ?tr22
      case ty22 =>
        rintro X ⟨s0, s1⟩
        simp only [List.getElem_toArray, List.getElem_cons_zero, List.getElem_cons_succ]
        go_simp
        rfl
      simp only [List.getElem_toArray, List.getElem_cons_zero, List.getElem_cons_succ, Act.put, List.setIfInBounds_toArray, List.set_cons_zero, List.set_cons_succ]
      refine wpAnyM_take (i := 23) (v := ?tv23) rfl (by kernel_rfl) (by kernel_rfl) (by kernel_rfl) (by kernel_rfl) (fun _ _ _ h => h) (Or.inl ⟨by rfl, ?ty23⟩) hS3 ?tr23
      case ty23 =>
        rintro X ⟨s0, s1⟩
        simp only [List.getElem_toArray, List.getElem_cons_zero, List.getElem_cons_succ]
        go_simp
        rfl
      simp only [List.getElem_toArray, List.getElem_cons_zero, List.getElem_cons_succ, Act.put, List.setIfInBounds_toArray, List.set_cons_zero, List.set_cons_succ]
      refine wpAnyM_take (i := 24) (v := ?tv24) rfl (by kernel_rfl) (by kernel_rfl) (by kernel_rfl) (by kernel_rfl) (fun _ _ _ h => h) (Or.inl ⟨by rfl, ?ty24⟩) hS3 ?tr24
      case ty24 =>
        rintro X ⟨s0, s1⟩
        simp only [List.getElem_toArray, List.getElem_cons_zero, List.getElem_cons_succ]
        go_simp
        rfl
      simp only [List.getElem_toArray, List.getElem_cons_zero, List.getElem_cons_succ, Act.put, List.setIfInBounds_toArray, List.set_cons_zero, List.set_cons_succ]
      refine wpAnyM_take (i := 25) (v := ?tv25) rfl (by kernel_rfl) (by kernel_rfl) (by kernel_rfl) (by kernel_rfl) (fun _ _ _ h => h) (Or.inl ⟨by rfl, ?ty25⟩) hS3 ?tr25
      case ty25 =>
        rintro X ⟨s0, s1⟩
        simp only [List.getElem_toArray, List.getElem_cons_zero, List.getElem_cons_succ]
        go_simp
        rfl
      simp only [List.getElem_toArray, List.getElem_cons_zero, List.getElem_cons_succ, Act.put, List.setIfInBounds_toArray, List.set_cons_zero, List.set_cons_succ]
      refine wpAnyM_take (i := 27) (v := ?tv27) rfl (by kernel_rfl) (by kernel_rfl) (by kernel_rfl) (by kernel_rfl) (fun _ _ _ h => h) (Or.inl ⟨by rfl, ?ty27⟩) hS3 ?tr27
      case ty27 =>
        rintro X ⟨s0, s1⟩
        simp only [List.getElem_toArray, List.getElem_cons_zero, List.getElem_cons_succ]
        go_simp
        rfl
      simp only [List.getElem_toArray, List.getElem_cons_zero, List.getElem_cons_succ, Act.put, List.setIfInBounds_toArray, List.set_cons_zero, List.set_cons_succ]
      refine wpAnyM_take (i := 28) (v := ?tv28) rfl (by kernel_rfl) (by kernel_rfl) (by kernel_rfl) (by kernel_rfl) (fun _ _ _ h => h) (Or.inl ⟨by rfl, ?ty28⟩) hS3 ?tr28
      case ty28 =>
        rintro X ⟨s0, s1⟩
        simp only [List.getElem_toArray, List.getElem_cons_zero, List.getElem_cons_succ]
        go_simp
        rfl
      simp only [List.getElem_toArray, List.getElem_cons_zero, List.getElem_cons_succ, Act.put, List.setIfInBounds_toArray, List.set_cons_zero, List.set_cons_succ]
      refine wpAnyM_take (i := 29) (v := ?tv29) rfl (by kernel_rfl) (by kernel_rfl) (by kernel_rfl) (by kernel_rfl) (fun _ _ _ h => h) (Or.inl ⟨by rfl, ?ty29⟩) hS3 ?tr29
      case ty29 =>
        rintro X ⟨s0, s1⟩
        simp only [List.getElem_toArray, List.getElem_cons_zero, List.getElem_cons_succ]
        go_simp
        rfl
      simp only [List.getElem_toArray, List.getElem_cons_zero, List.getElem_cons_succ, Act.put, List.setIfInBounds_toArray, List.set_cons_zero, List.set_cons_succ]
      refine wpAnyM_one (i := 26) (by kernel_rfl) rfl (fun K4 hK4 => ?_)
      simp only [List.getElem_toArray, List.getElem_cons_zero, List.getElem_cons_succ, Act.put, List.setIfInBounds_toArray, List.set_cons_zero, List.set_cons_succ]
      rw [if_pos (by rfl)]
      go_simp
      refine (HR.out _ hB3 HOK.out).mono ?_
      rintro e' v4 ⟨A4, c4, rfl, hr4, hb4⟩
      have hB4 : Below w.heap.size w v4 := hB3.trans (hb4.mono hB3.size)
      have hS4 : v4.cell? ⟨w.heap.size, 0, none⟩ = some (.int .i64 l) ∧ v4.cell? ⟨w.heap.size, 1, none⟩ = some (.slice C ps.length e) := ⟨cell_keep hb4 hS3.1, cell_keep hb4 hS3.2⟩
      refine hK4.out _ _ (fun _ => hS4) ?_
      refine wpAnyM_one (i := 30) (by kernel_rfl) rfl (fun K5 hK5 => ?_)
      simp only [List.getElem_toArray, List.getElem_cons_zero, List.getElem_cons_succ, Act.put, List.setIfInBounds_toArray, List.set_cons_zero, List.set_cons_succ]
      rw [if_pos (by rfl)]
      go_simp
      refine (HR2.out _ hB4 HOK.out).mono ?_
      rintro e' v5 ⟨A5, c5, rfl, hr5, hb5⟩
      have hB5 : Below w.heap.size w v5 := hB4.trans (hb5.mono hB4.size)
      have hr4' := hr4.keep RInt.keeps hb5
      have hS5 : v5.cell? ⟨w.heap.size, 0, none⟩ = some (.int .i64 l) ∧ v5.cell? ⟨w.heap.size, 1, none⟩ = some (.slice C ps.length e) := ⟨cell_keep hb5 hS4.1, cell_keep hb5 hS4.2⟩
      refine hK5.out _ _ (fun _ => hS5) ?_
      refine wpAnyM_one (i := 31) (by kernel_rfl) rfl (fun K6 hK6 => ?_)
      simp only [List.getElem_toArray, List.getElem_cons_zero, List.getElem_cons_succ, Act.put, List.setIfInBounds_toArray, List.set_cons_zero, List.set_cons_succ]
      rw [if_pos (by rfl)]
      go_simp
      refine (eqInt_any _ _ _ _ rs rs _ hr4' hr5).mono ?_
      rintro e' v6 ⟨rfl, hw6⟩
      have hb6 := below_of_drewN hw6
      have hB6 : Below w.heap.size w v6 := hB5.trans (hb6.mono hB5.size)
      rw [show decide (rs = rs) = true by simp]
      have hS6 : v6.cell? ⟨w.heap.size, 0, none⟩ = some (.int .i64 l) ∧ v6.cell? ⟨w.heap.size, 1, none⟩ = some (.slice C ps.length e) := ⟨cell_keep hb6 hS5.1, cell_keep hb6 hS5.2⟩
      refine hK6.out _ _ (fun _ => hS6) ?_
      refine wpAnyM_take (i := 32) (v := ?tv32) rfl (by kernel_rfl) (by kernel_rfl) (by kernel_rfl) (by kernel_rfl) (fun _ _ _ h => h) (Or.inl ⟨by rfl, ?ty32⟩) hS6 ?tr32
      case ty32 =>
        rintro X ⟨s0, s1⟩
        simp only [List.getElem_toArray, List.getElem_cons_zero, List.getElem_cons_succ]
        go_simp
        rfl
      simp only [List.getElem_toArray, List.getElem_cons_zero, List.getElem_cons_succ, Act.put, List.setIfInBounds_toArray, List.set_cons_zero, List.set_cons_succ]
      refine wpAnyM_take (i := 33) (v := ?tv33) rfl (by kernel_rfl) (by kernel_rfl) (by kernel_rfl) (by kernel_rfl) (fun _ _ _ h => h) (Or.inl ⟨by rfl, ?ty33⟩) hS6 ?tr33
      case ty33 =>
        rintro X ⟨s0, s1⟩
        simp only [List.getElem_toArray, List.getElem_cons_zero, List.getElem_cons_succ]
        go_simp
        rfl
      simp only [List.getElem_toArray, List.getElem_cons_zero, List.getElem_cons_succ, Act.put, List.setIfInBounds_toArray, List.set_cons_zero, List.set_cons_succ]
      refine wpAnyM_done (by kernel_rfl) ?_ _
      go_wp2
      go_ret
      exact ⟨rfl, hB6⟩
end Go.Proofs.Ytmfdppgfbgjmcaa
