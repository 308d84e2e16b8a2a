/-
  Walk: Format at the kinds that bear a number, and at the end of the text.
-/
import Derived.Test.YtmfdppgfbgjmcaaDoorL10
import Derived.Test.YtmfdppgfbgjmcaaDoorL24
import Derived.Test.YtmfdppgfbgjmcaaDoorSj
import Derived.Lib.AppendIntMem
import Derived.Lib.ItoaLen
namespace Go.Proofs.YtmfdppgfbgjmcaaDoor
open Go Go.RowKit Go.WideShapes

/-- The table of the powers of ten reads as it should. -/
def TabOk (w : World) : Prop := Lib.TabIs Tryd.prog w "internal/strconv.uint64pow10" .u64 Lib.pow10Tab
theorem gTab : Tryd.prog.globalNamed "internal/strconv.uint64pow10" = some 1 := by kernel_rfl
theorem TabOk.keep {w w' : World} (h : TabOk w) (hb : Below w.heap.size w w') : TabOk w' := by
  unfold TabOk Lib.TabIs World.var? at *
  rw [gTab, Option.bind_some] at h ⊢
  by_cases h1 : 1 < w.heap.size
  · rw [hb.block 1 h1]
    exact h
  · rw [Array.getElem?_eq_none (by omega)] at h
    cases h

set_option maxRecDepth 100000 in
set_option maxHeartbeats 4000000 in
theorem format_num (t : Tk) (w : World) (hk : t.kind = 2 ∨ t.kind = 6 ∨ t.kind = 7) (h0 : -9223372036854775808 ≤ t.num) (h1 : t.num ≤ 9223372036854775807) (ht : TabOk w) :
    Calls Tryd.prog 9 #[.agg #[.int .i64 t.kind, .string ⟨t.text.toArray⟩, .int .i64 t.num, .int .i64 t.pos]] w fun e' w' => e' = .returned (.string ⟨(signS t.kind ++ Lib.itoa t.num).toArray⟩) ∧ Below w.heap.size w w' := by
  obtain ⟨K, T, N, m⟩ := t
  simp only at hk h0 h1 ⊢
  have hil := Lib.itoa_length_le N h0 h1
  rcases hk with rfl | rfl | rfl
  · have hsl : (signS 2).length ≤ 1 := by decide
    go_enter Tryd.func9, Tryd.ntmps9
    go_wp2_with fail
    refine wp_region_m (S := fun X => X.cell? ⟨w.heap.size, 0, none⟩ = some (.int .i64 2) ∧ X.cell? ⟨w.heap.size, 2, none⟩ = some (.int .i64 N)) (t := 8) (by kernel_rfl) ?_
    have hB0 : Below w.heap.size w (w.alloc (.cells #[.int .i64 2, .string ⟨T.toArray⟩, .int .i64 N, .int .i64 m] 28)).drew := ((Below.refl _ _).alloc (Nat.le_refl _) _).drew
    have hS0 : (w.alloc (.cells #[.int .i64 2, .string ⟨T.toArray⟩, .int .i64 N, .int .i64 m] 28)).drew.cell? ⟨w.heap.size, 0, none⟩ = some (.int .i64 2) ∧ (w.alloc (.cells #[.int .i64 2, .string ⟨T.toArray⟩, .int .i64 N, .int .i64 m] 28)).drew.cell? ⟨w.heap.size, 2, none⟩ = some (.int .i64 N) := by go_simp
    refine wpAnyM_take (i := 0) (v := ?tvk2x0) rfl (by kernel_rfl) (by kernel_rfl) (by kernel_rfl) (by kernel_rfl) (fun _ _ _ h => h) (Or.inl ⟨by rfl, ?tyk2x0⟩) hS0 ?trk2x0
    case tyk2x0 =>
      rintro X ⟨s0, s1⟩
      simp only [List.getElem_toArray, List.getElem_cons_zero, List.getElem_cons_succ]
      go_simp
      rfl
    simp only [List.getElem_toArray, List.getElem_cons_zero, List.getElem_cons_succ, Act.put, List.setIfInBounds_toArray, List.set_cons_zero, List.set_cons_succ]
    refine wpAnyM_take (i := 3) (v := ?tvk2x3) rfl (by kernel_rfl) (by kernel_rfl) (by kernel_rfl) (by kernel_rfl) (fun _ _ _ h => h) (Or.inl ⟨by rfl, ?tyk2x3⟩) hS0 ?trk2x3
    case tyk2x3 =>
      rintro X ⟨s0, s1⟩
      simp only [List.getElem_toArray, List.getElem_cons_zero, List.getElem_cons_succ]
      go_simp
      rfl
    simp only [List.getElem_toArray, List.getElem_cons_zero, List.getElem_cons_succ, Act.put, List.setIfInBounds_toArray, List.set_cons_zero, List.set_cons_succ]
    refine wpAnyM_take (i := 1) (v := ?tvk2x1) rfl (by kernel_rfl) (by kernel_rfl) (by kernel_rfl) (by kernel_rfl) (fun _ _ _ h => h) (Or.inl ⟨by rfl, ?tyk2x1⟩) hS0 ?trk2x1
    case tyk2x1 =>
      rintro X ⟨s0, s1⟩
      simp only [List.getElem_toArray, List.getElem_cons_zero, List.getElem_cons_succ]
      go_simp
      rfl
    simp only [List.getElem_toArray, List.getElem_cons_zero, List.getElem_cons_succ, Act.put, List.setIfInBounds_toArray, List.set_cons_zero, List.set_cons_succ]
    refine wpAnyM_take (i := 4) (v := ?tvk2x4) rfl (by kernel_rfl) (by kernel_rfl) (by kernel_rfl) (by kernel_rfl) (fun _ _ _ h => h) (Or.inl ⟨by rfl, ?tyk2x4⟩) hS0 ?trk2x4
    case tyk2x4 =>
      rintro X ⟨s0, s1⟩
      simp only [List.getElem_toArray, List.getElem_cons_zero, List.getElem_cons_succ]
      go_simp
      rfl
    simp only [List.getElem_toArray, List.getElem_cons_zero, List.getElem_cons_succ, Act.put, List.setIfInBounds_toArray, List.set_cons_zero, List.set_cons_succ]
    refine wpAnyM_one (i := 2) (by kernel_rfl) rfl (fun K1 hK1 => ?_)
    simp only [List.getElem_toArray, List.getElem_cons_zero, List.getElem_cons_succ, Act.put, List.setIfInBounds_toArray, List.set_cons_zero, List.set_cons_succ]
    rw [if_pos (by rfl)]
    go_simp
    refine (signOf_any 2 _).mono ?_
    rintro e' v1 ⟨rfl, hb1⟩
    have hB1 : Below w.heap.size w v1 := hB0.trans (hb1.mono hB0.size)
    have hS1 : v1.cell? ⟨w.heap.size, 0, none⟩ = some (.int .i64 2) ∧ v1.cell? ⟨w.heap.size, 2, none⟩ = some (.int .i64 N) := ⟨cell_keep hb1 hS0.1, cell_keep hb1 hS0.2⟩
    refine hK1.out _ _ (fun _ => hS1) ?_
    refine wpAnyM_one (i := 5) (by kernel_rfl) rfl (fun K2 hK2 => ?_)
    simp only [List.getElem_toArray, List.getElem_cons_zero, List.getElem_cons_succ, Act.put, List.setIfInBounds_toArray, List.set_cons_zero, List.set_cons_succ]
    rw [if_pos (by rfl)]
    go_simp
    refine (Tryd.strconv_FormatInt_10 N h0 h1 _ (ht.keep hB1)).mono ?_
    rintro e' v2 ⟨rfl, k5, os5, hw5⟩
    have hb2 : Below v1.heap.size v1 v2 := hw5 ▸ Lib.below_grow _ _ (Nat.le_refl _) _ _
    clear hw5
    have hB2 : Below w.heap.size w v2 := hB1.trans (hb2.mono hB1.size)
    have hS2 : v2.cell? ⟨w.heap.size, 0, none⟩ = some (.int .i64 2) ∧ v2.cell? ⟨w.heap.size, 2, none⟩ = some (.int .i64 N) := ⟨cell_keep hb2 hS1.1, cell_keep hb2 hS1.2⟩
    refine hK2.out _ _ (fun _ => hS2) ?_
    refine wpAnyM_take (i := 6) (v := ?tvk2x6) rfl (by kernel_rfl) (by kernel_rfl) (by kernel_rfl) (by kernel_rfl) (fun _ _ _ h => h) (Or.inl ⟨by rfl, ?tyk2x6⟩) hS2 ?trk2x6
    case tyk2x6 =>
      rintro X ⟨s0, s1⟩
      simp only [List.getElem_toArray, List.getElem_cons_zero, List.getElem_cons_succ]
      go_simp
      rw [if_neg (by omega)]
    simp only [List.getElem_toArray, List.getElem_cons_zero, List.getElem_cons_succ, Act.put, List.setIfInBounds_toArray, List.set_cons_zero, List.set_cons_succ]
    refine wpAnyM_take (i := 7) (v := ?tvk2x7) rfl (by kernel_rfl) (by kernel_rfl) (by kernel_rfl) (by kernel_rfl) (fun _ _ _ h => h) (Or.inl ⟨by rfl, ?tyk2x7⟩) hS2 ?trk2x7
    case tyk2x7 =>
      rintro X ⟨s0, s1⟩
      simp only [List.getElem_toArray, List.getElem_cons_zero, List.getElem_cons_succ]
      go_simp
      rfl
    simp only [List.getElem_toArray, List.getElem_cons_zero, List.getElem_cons_succ, Act.put, List.setIfInBounds_toArray, List.set_cons_zero, List.set_cons_succ]
    refine wpAnyM_done (by kernel_rfl) ?_ _
    go_wp2_with fail
    go_ret
    exact ⟨by rw [← app_bytes]; rfl, hB2⟩
  · have hsl : (signS 6).length ≤ 1 := by decide
    go_enter Tryd.func9, Tryd.ntmps9
    go_wp2_with fail
    refine wp_region_m (S := fun X => X.cell? ⟨w.heap.size, 0, none⟩ = some (.int .i64 6) ∧ X.cell? ⟨w.heap.size, 2, none⟩ = some (.int .i64 N)) (t := 8) (by kernel_rfl) ?_
    have hB0 : Below w.heap.size w (w.alloc (.cells #[.int .i64 6, .string ⟨T.toArray⟩, .int .i64 N, .int .i64 m] 28)).drew := ((Below.refl _ _).alloc (Nat.le_refl _) _).drew
    have hS0 : (w.alloc (.cells #[.int .i64 6, .string ⟨T.toArray⟩, .int .i64 N, .int .i64 m] 28)).drew.cell? ⟨w.heap.size, 0, none⟩ = some (.int .i64 6) ∧ (w.alloc (.cells #[.int .i64 6, .string ⟨T.toArray⟩, .int .i64 N, .int .i64 m] 28)).drew.cell? ⟨w.heap.size, 2, none⟩ = some (.int .i64 N) := by go_simp
    refine wpAnyM_take (i := 0) (v := ?tvk6x0) rfl (by kernel_rfl) (by kernel_rfl) (by kernel_rfl) (by kernel_rfl) (fun _ _ _ h => h) (Or.inl ⟨by rfl, ?tyk6x0⟩) hS0 ?trk6x0
    case tyk6x0 =>
      rintro X ⟨s0, s1⟩
      simp only [List.getElem_toArray, List.getElem_cons_zero, List.getElem_cons_succ]
      go_simp
      rfl
    simp only [List.getElem_toArray, List.getElem_cons_zero, List.getElem_cons_succ, Act.put, List.setIfInBounds_toArray, List.set_cons_zero, List.set_cons_succ]
    refine wpAnyM_take (i := 3) (v := ?tvk6x3) rfl (by kernel_rfl) (by kernel_rfl) (by kernel_rfl) (by kernel_rfl) (fun _ _ _ h => h) (Or.inl ⟨by rfl, ?tyk6x3⟩) hS0 ?trk6x3
    case tyk6x3 =>
      rintro X ⟨s0, s1⟩
      simp only [List.getElem_toArray, List.getElem_cons_zero, List.getElem_cons_succ]
      go_simp
      rfl
    simp only [List.getElem_toArray, List.getElem_cons_zero, List.getElem_cons_succ, Act.put, List.setIfInBounds_toArray, List.set_cons_zero, List.set_cons_succ]
    refine wpAnyM_take (i := 1) (v := ?tvk6x1) rfl (by kernel_rfl) (by kernel_rfl) (by kernel_rfl) (by kernel_rfl) (fun _ _ _ h => h) (Or.inl ⟨by rfl, ?tyk6x1⟩) hS0 ?trk6x1
    case tyk6x1 =>
      rintro X ⟨s0, s1⟩
      simp only [List.getElem_toArray, List.getElem_cons_zero, List.getElem_cons_succ]
      go_simp
      rfl
    simp only [List.getElem_toArray, List.getElem_cons_zero, List.getElem_cons_succ, Act.put, List.setIfInBounds_toArray, List.set_cons_zero, List.set_cons_succ]
    refine wpAnyM_take (i := 4) (v := ?tvk6x4) rfl (by kernel_rfl) (by kernel_rfl) (by kernel_rfl) (by kernel_rfl) (fun _ _ _ h => h) (Or.inl ⟨by rfl, ?tyk6x4⟩) hS0 ?trk6x4
    case tyk6x4 =>
      rintro X ⟨s0, s1⟩
      simp only [List.getElem_toArray, List.getElem_cons_zero, List.getElem_cons_succ]
      go_simp
      rfl
    simp only [List.getElem_toArray, List.getElem_cons_zero, List.getElem_cons_succ, Act.put, List.setIfInBounds_toArray, List.set_cons_zero, List.set_cons_succ]
    refine wpAnyM_one (i := 2) (by kernel_rfl) rfl (fun K1 hK1 => ?_)
    simp only [List.getElem_toArray, List.getElem_cons_zero, List.getElem_cons_succ, Act.put, List.setIfInBounds_toArray, List.set_cons_zero, List.set_cons_succ]
    rw [if_pos (by rfl)]
    go_simp
    refine (signOf_any 6 _).mono ?_
    rintro e' v1 ⟨rfl, hb1⟩
    have hB1 : Below w.heap.size w v1 := hB0.trans (hb1.mono hB0.size)
    have hS1 : v1.cell? ⟨w.heap.size, 0, none⟩ = some (.int .i64 6) ∧ v1.cell? ⟨w.heap.size, 2, none⟩ = some (.int .i64 N) := ⟨cell_keep hb1 hS0.1, cell_keep hb1 hS0.2⟩
    refine hK1.out _ _ (fun _ => hS1) ?_
    refine wpAnyM_one (i := 5) (by kernel_rfl) rfl (fun K2 hK2 => ?_)
    simp only [List.getElem_toArray, List.getElem_cons_zero, List.getElem_cons_succ, Act.put, List.setIfInBounds_toArray, List.set_cons_zero, List.set_cons_succ]
    rw [if_pos (by rfl)]
    go_simp
    refine (Tryd.strconv_FormatInt_10 N h0 h1 _ (ht.keep hB1)).mono ?_
    rintro e' v2 ⟨rfl, k5, os5, hw5⟩
    have hb2 : Below v1.heap.size v1 v2 := hw5 ▸ Lib.below_grow _ _ (Nat.le_refl _) _ _
    clear hw5
    have hB2 : Below w.heap.size w v2 := hB1.trans (hb2.mono hB1.size)
    have hS2 : v2.cell? ⟨w.heap.size, 0, none⟩ = some (.int .i64 6) ∧ v2.cell? ⟨w.heap.size, 2, none⟩ = some (.int .i64 N) := ⟨cell_keep hb2 hS1.1, cell_keep hb2 hS1.2⟩
    refine hK2.out _ _ (fun _ => hS2) ?_
    refine wpAnyM_take (i := 6) (v := ?tvk6x6) rfl (by kernel_rfl) (by kernel_rfl) (by kernel_rfl) (by kernel_rfl) (fun _ _ _ h => h) (Or.inl ⟨by rfl, ?tyk6x6⟩) hS2 ?trk6x6
    case tyk6x6 =>
      rintro X ⟨s0, s1⟩
      simp only [List.getElem_toArray, List.getElem_cons_zero, List.getElem_cons_succ]
      go_simp
      rw [if_neg (by omega)]
    simp only [List.getElem_toArray, List.getElem_cons_zero, List.getElem_cons_succ, Act.put, List.setIfInBounds_toArray, List.set_cons_zero, List.set_cons_succ]
    refine wpAnyM_take (i := 7) (v := ?tvk6x7) rfl (by kernel_rfl) (by kernel_rfl) (by kernel_rfl) (by kernel_rfl) (fun _ _ _ h => h) (Or.inl ⟨by rfl, ?tyk6x7⟩) hS2 ?trk6x7
    case tyk6x7 =>
      rintro X ⟨s0, s1⟩
      simp only [List.getElem_toArray, List.getElem_cons_zero, List.getElem_cons_succ]
      go_simp
      rfl
    simp only [List.getElem_toArray, List.getElem_cons_zero, List.getElem_cons_succ, Act.put, List.setIfInBounds_toArray, List.set_cons_zero, List.set_cons_succ]
    refine wpAnyM_done (by kernel_rfl) ?_ _
    go_wp2_with fail
    go_ret
    exact ⟨by rw [← app_bytes]; rfl, hB2⟩
  · have hsl : (signS 7).length ≤ 1 := by decide
    go_enter Tryd.func9, Tryd.ntmps9
    go_wp2_with fail
    refine wp_region_m (S := fun X => X.cell? ⟨w.heap.size, 0, none⟩ = some (.int .i64 7) ∧ X.cell? ⟨w.heap.size, 2, none⟩ = some (.int .i64 N)) (t := 8) (by kernel_rfl) ?_
    have hB0 : Below w.heap.size w (w.alloc (.cells #[.int .i64 7, .string ⟨T.toArray⟩, .int .i64 N, .int .i64 m] 28)).drew := ((Below.refl _ _).alloc (Nat.le_refl _) _).drew
    have hS0 : (w.alloc (.cells #[.int .i64 7, .string ⟨T.toArray⟩, .int .i64 N, .int .i64 m] 28)).drew.cell? ⟨w.heap.size, 0, none⟩ = some (.int .i64 7) ∧ (w.alloc (.cells #[.int .i64 7, .string ⟨T.toArray⟩, .int .i64 N, .int .i64 m] 28)).drew.cell? ⟨w.heap.size, 2, none⟩ = some (.int .i64 N) := by go_simp
    refine wpAnyM_take (i := 0) (v := ?tvk7x0) rfl (by kernel_rfl) (by kernel_rfl) (by kernel_rfl) (by kernel_rfl) (fun _ _ _ h => h) (Or.inl ⟨by rfl, ?tyk7x0⟩) hS0 ?trk7x0
    case tyk7x0 =>
      rintro X ⟨s0, s1⟩
      simp only [List.getElem_toArray, List.getElem_cons_zero, List.getElem_cons_succ]
      go_simp
      rfl
    simp only [List.getElem_toArray, List.getElem_cons_zero, List.getElem_cons_succ, Act.put, List.setIfInBounds_toArray, List.set_cons_zero, List.set_cons_succ]
    refine wpAnyM_take (i := 3) (v := ?tvk7x3) rfl (by kernel_rfl) (by kernel_rfl) (by kernel_rfl) (by kernel_rfl) (fun _ _ _ h => h) (Or.inl ⟨by rfl, ?tyk7x3⟩) hS0 ?trk7x3
    case tyk7x3 =>
      rintro X ⟨s0, s1⟩
      simp only [List.getElem_toArray, List.getElem_cons_zero, List.getElem_cons_succ]
      go_simp
      rfl
    simp only [List.getElem_toArray, List.getElem_cons_zero, List.getElem_cons_succ, Act.put, List.setIfInBounds_toArray, List.set_cons_zero, List.set_cons_succ]
    refine wpAnyM_take (i := 1) (v := ?tvk7x1) rfl (by kernel_rfl) (by kernel_rfl) (by kernel_rfl) (by kernel_rfl) (fun _ _ _ h => h) (Or.inl ⟨by rfl, ?tyk7x1⟩) hS0 ?trk7x1
    case tyk7x1 =>
      rintro X ⟨s0, s1⟩
      simp only [List.getElem_toArray, List.getElem_cons_zero, List.getElem_cons_succ]
      go_simp
      rfl
    simp only [List.getElem_toArray, List.getElem_cons_zero, List.getElem_cons_succ, Act.put, List.setIfInBounds_toArray, List.set_cons_zero, List.set_cons_succ]
    refine wpAnyM_take (i := 4) (v := ?tvk7x4) rfl (by kernel_rfl) (by kernel_rfl) (by kernel_rfl) (by kernel_rfl) (fun _ _ _ h => h) (Or.inl ⟨by rfl, ?tyk7x4⟩) hS0 ?trk7x4
    case tyk7x4 =>
      rintro X ⟨s0, s1⟩
      simp only [List.getElem_toArray, List.getElem_cons_zero, List.getElem_cons_succ]
      go_simp
      rfl
    simp only [List.getElem_toArray, List.getElem_cons_zero, List.getElem_cons_succ, Act.put, List.setIfInBounds_toArray, List.set_cons_zero, List.set_cons_succ]
    refine wpAnyM_one (i := 2) (by kernel_rfl) rfl (fun K1 hK1 => ?_)
    simp only [List.getElem_toArray, List.getElem_cons_zero, List.getElem_cons_succ, Act.put, List.setIfInBounds_toArray, List.set_cons_zero, List.set_cons_succ]
    rw [if_pos (by rfl)]
    go_simp
    refine (signOf_any 7 _).mono ?_
    rintro e' v1 ⟨rfl, hb1⟩
    have hB1 : Below w.heap.size w v1 := hB0.trans (hb1.mono hB0.size)
    have hS1 : v1.cell? ⟨w.heap.size, 0, none⟩ = some (.int .i64 7) ∧ v1.cell? ⟨w.heap.size, 2, none⟩ = some (.int .i64 N) := ⟨cell_keep hb1 hS0.1, cell_keep hb1 hS0.2⟩
    refine hK1.out _ _ (fun _ => hS1) ?_
    refine wpAnyM_one (i := 5) (by kernel_rfl) rfl (fun K2 hK2 => ?_)
    simp only [List.getElem_toArray, List.getElem_cons_zero, List.getElem_cons_succ, Act.put, List.setIfInBounds_toArray, List.set_cons_zero, List.set_cons_succ]
    rw [if_pos (by rfl)]
    go_simp
    refine (Tryd.strconv_FormatInt_10 N h0 h1 _ (ht.keep hB1)).mono ?_
    rintro e' v2 ⟨rfl, k5, os5, hw5⟩
    have hb2 : Below v1.heap.size v1 v2 := hw5 ▸ Lib.below_grow _ _ (Nat.le_refl _) _ _
    clear hw5
    have hB2 : Below w.heap.size w v2 := hB1.trans (hb2.mono hB1.size)
    have hS2 : v2.cell? ⟨w.heap.size, 0, none⟩ = some (.int .i64 7) ∧ v2.cell? ⟨w.heap.size, 2, none⟩ = some (.int .i64 N) := ⟨cell_keep hb2 hS1.1, cell_keep hb2 hS1.2⟩
    refine hK2.out _ _ (fun _ => hS2) ?_
    refine wpAnyM_take (i := 6) (v := ?tvk7x6) rfl (by kernel_rfl) (by kernel_rfl) (by kernel_rfl) (by kernel_rfl) (fun _ _ _ h => h) (Or.inl ⟨by rfl, ?tyk7x6⟩) hS2 ?trk7x6
    case tyk7x6 =>
      rintro X ⟨s0, s1⟩
      simp only [List.getElem_toArray, List.getElem_cons_zero, List.getElem_cons_succ]
      go_simp
      rw [if_neg (by omega)]
    simp only [List.getElem_toArray, List.getElem_cons_zero, List.getElem_cons_succ, Act.put, List.setIfInBounds_toArray, List.set_cons_zero, List.set_cons_succ]
    refine wpAnyM_take (i := 7) (v := ?tvk7x7) rfl (by kernel_rfl) (by kernel_rfl) (by kernel_rfl) (by kernel_rfl) (fun _ _ _ h => h) (Or.inl ⟨by rfl, ?tyk7x7⟩) hS2 ?trk7x7
    case tyk7x7 =>
      rintro X ⟨s0, s1⟩
      simp only [List.getElem_toArray, List.getElem_cons_zero, List.getElem_cons_succ]
      go_simp
      rfl
    simp only [List.getElem_toArray, List.getElem_cons_zero, List.getElem_cons_succ, Act.put, List.setIfInBounds_toArray, List.set_cons_zero, List.set_cons_succ]
    refine wpAnyM_done (by kernel_rfl) ?_ _
    go_wp2_with fail
    go_ret
    exact ⟨by rw [← app_bytes]; rfl, hB2⟩

set_option maxRecDepth 100000 in
set_option maxHeartbeats 4000000 in
theorem format_end (t : Tk) (w : World) (hk : t.kind = 0) :
    Calls Tryd.prog 9 #[.agg #[.int .i64 t.kind, .string ⟨t.text.toArray⟩, .int .i64 t.num, .int .i64 t.pos]] w fun e' w' => e' = .returned (.string ⟨#[]⟩) ∧ Below w.heap.size w w' := by
  obtain ⟨K, T, N, m⟩ := t
  simp only at hk ⊢
  subst hk
  have hB0 : Below w.heap.size w (w.alloc (.cells #[.int .i64 0, .string ⟨T.toArray⟩, .int .i64 N, .int .i64 m] 28)) := ((Below.refl _ _).alloc (Nat.le_refl _) _)
  go_enter Tryd.func9, Tryd.ntmps9
  go_wp2_with fail
  go_ret
  exact ⟨rfl, hB0⟩

/-- Format. -/
theorem format_any (t : Tk) (w : World) (hk : TkOk t) (hl : t.text.length ≤ 1000000) (ht : TabOk w) :
    Calls Tryd.prog 9 #[.agg #[.int .i64 t.kind, .string ⟨t.text.toArray⟩, .int .i64 t.num, .int .i64 t.pos]] w fun e' w' => e' = .returned (.string ⟨(formT t).toArray⟩) ∧ Below w.heap.size w w' := by
  rcases hk with ⟨h, hf⟩ | h | ⟨h, h0, h1⟩
  · rw [hf]
    exact format_end t w h
  · have hf : formT t = signS t.kind ++ t.text := by
      unfold formT
      rcases h with h | h | h | h | h <;> rw [h] <;> rfl
    rw [hf]
    exact format_text t w h hl
  · have hf : formT t = signS t.kind ++ Lib.itoa t.num := by
      unfold formT
      rw [if_pos h]
    rw [hf]
    exact format_num t w (by simpa [isN, or_assoc] using h) h0 h1 ht
end Go.Proofs.YtmfdppgfbgjmcaaDoor
