/-
  Walk: Format at the kinds that bear a text.
-/
import Derived.Test.YtmfdppgfbgjmcaaDoorL8
import Derived.Test.YtmfdppgfbgjmcaaDoorL9
import Derived.Test.YtmfdppgfbgjmcaaDoorLR
namespace Go.Proofs.YtmfdppgfbgjmcaaDoor
open Go Go.RowKit Go.WideShapes

theorem app_bytes (a b : List UInt8) : ((⟨a.toArray⟩ : ByteArray) ++ ⟨b.toArray⟩) = ⟨(a ++ b).toArray⟩ := bytes_inj (by simp [ByteArray.data_append])

set_option maxRecDepth 100000 in
set_option maxHeartbeats 4000000 in
theorem format_text (t : Tk) (w : World) (hk : t.kind = 1 ∨ t.kind = 3 ∨ t.kind = 4 ∨ t.kind = 5 ∨ t.kind = 8) (hl : t.text.length ≤ 1000000) :
    Calls Tryd.prog 9 #[.agg #[.int .i64 t.kind, .string ⟨t.text.toArray⟩, .int .i64 t.num, .int .i64 t.pos]] w fun e' w' => e' = .returned (.string ⟨(signS t.kind ++ t.text).toArray⟩) ∧ Below w.heap.size w w' := by
  obtain ⟨K, T, N, m⟩ := t
  simp only at hk hl ⊢
  rcases hk with rfl | rfl | rfl | rfl | rfl
  · have hsl : (signS 1).length ≤ 1 := by decide
    go_enter Tryd.func9, Tryd.ntmps9
    go_wp2_with fail
    refine wp_region_m (S := fun X => X.cell? ⟨w.heap.size, 0, none⟩ = some (.int .i64 1) ∧ X.cell? ⟨w.heap.size, 1, none⟩ = some (.string ⟨T.toArray⟩)) (t := 7) (by kernel_rfl) ?_
    have hB0 : Below w.heap.size w (w.alloc (.cells #[.int .i64 1, .string ⟨T.toArray⟩, .int .i64 N, .int .i64 m] 28)).drew := ((Below.refl _ _).alloc (Nat.le_refl _) _).drew
    have hS0 : (w.alloc (.cells #[.int .i64 1, .string ⟨T.toArray⟩, .int .i64 N, .int .i64 m] 28)).drew.cell? ⟨w.heap.size, 0, none⟩ = some (.int .i64 1) ∧ (w.alloc (.cells #[.int .i64 1, .string ⟨T.toArray⟩, .int .i64 N, .int .i64 m] 28)).drew.cell? ⟨w.heap.size, 1, none⟩ = some (.string ⟨T.toArray⟩) := by go_simp
    refine wpAnyM_take (i := 0) (v := ?tvk1x0) rfl (by kernel_rfl) (by kernel_rfl) (by kernel_rfl) (by kernel_rfl) (fun _ _ _ h => h) (Or.inl ⟨by rfl, ?tyk1x0⟩) hS0 ?trk1x0
    case tyk1x0 =>
      rintro X ⟨s0, s1⟩
      simp only [List.getElem_toArray, List.getElem_cons_zero, List.getElem_cons_succ]
      go_simp
      rfl
    simp only [List.getElem_toArray, List.getElem_cons_zero, List.getElem_cons_succ, Act.put, List.setIfInBounds_toArray, List.set_cons_zero, List.set_cons_succ]
    refine wpAnyM_take (i := 3) (v := ?tvk1x3) rfl (by kernel_rfl) (by kernel_rfl) (by kernel_rfl) (by kernel_rfl) (fun _ _ _ h => h) (Or.inl ⟨by rfl, ?tyk1x3⟩) hS0 ?trk1x3
    case tyk1x3 =>
      rintro X ⟨s0, s1⟩
      simp only [List.getElem_toArray, List.getElem_cons_zero, List.getElem_cons_succ]
      go_simp
      rfl
    simp only [List.getElem_toArray, List.getElem_cons_zero, List.getElem_cons_succ, Act.put, List.setIfInBounds_toArray, List.set_cons_zero, List.set_cons_succ]
    refine wpAnyM_take (i := 1) (v := ?tvk1x1) rfl (by kernel_rfl) (by kernel_rfl) (by kernel_rfl) (by kernel_rfl) (fun _ _ _ h => h) (Or.inl ⟨by rfl, ?tyk1x1⟩) hS0 ?trk1x1
    case tyk1x1 =>
      rintro X ⟨s0, s1⟩
      simp only [List.getElem_toArray, List.getElem_cons_zero, List.getElem_cons_succ]
      go_simp
      rfl
    simp only [List.getElem_toArray, List.getElem_cons_zero, List.getElem_cons_succ, Act.put, List.setIfInBounds_toArray, List.set_cons_zero, List.set_cons_succ]
    refine wpAnyM_take (i := 4) (v := ?tvk1x4) rfl (by kernel_rfl) (by kernel_rfl) (by kernel_rfl) (by kernel_rfl) (fun _ _ _ h => h) (Or.inl ⟨by rfl, ?tyk1x4⟩) hS0 ?trk1x4
    case tyk1x4 =>
      rintro X ⟨s0, s1⟩
      simp only [List.getElem_toArray, List.getElem_cons_zero, List.getElem_cons_succ]
      go_simp
      rfl
    simp only [List.getElem_toArray, List.getElem_cons_zero, List.getElem_cons_succ, Act.put, List.setIfInBounds_toArray, List.set_cons_zero, List.set_cons_succ]
    refine wpAnyM_one (i := 2) (by kernel_rfl) rfl (fun K1 hK1 => ?_)
    simp only [List.getElem_toArray, List.getElem_cons_zero, List.getElem_cons_succ, Act.put, List.setIfInBounds_toArray, List.set_cons_zero, List.set_cons_succ]
    rw [if_pos (by rfl)]
    go_simp
    refine (signOf_any 1 _).mono ?_
    rintro e' v1 ⟨rfl, hb1⟩
    have hB1 : Below w.heap.size w v1 := hB0.trans (hb1.mono hB0.size)
    have hS1 : v1.cell? ⟨w.heap.size, 0, none⟩ = some (.int .i64 1) ∧ v1.cell? ⟨w.heap.size, 1, none⟩ = some (.string ⟨T.toArray⟩) := ⟨cell_keep hb1 hS0.1, cell_keep hb1 hS0.2⟩
    refine hK1.out _ _ (fun _ => hS1) ?_
    refine wpAnyM_take (i := 5) (v := ?tvk1x5) rfl (by kernel_rfl) (by kernel_rfl) (by kernel_rfl) (by kernel_rfl) (fun _ _ _ h => h) (Or.inl ⟨by rfl, ?tyk1x5⟩) hS1 ?trk1x5
    case tyk1x5 =>
      rintro X ⟨s0, s1⟩
      simp only [List.getElem_toArray, List.getElem_cons_zero, List.getElem_cons_succ]
      go_simp
      rw [if_neg (by omega)]
    simp only [List.getElem_toArray, List.getElem_cons_zero, List.getElem_cons_succ, Act.put, List.setIfInBounds_toArray, List.set_cons_zero, List.set_cons_succ]
    refine wpAnyM_take (i := 6) (v := ?tvk1x6) rfl (by kernel_rfl) (by kernel_rfl) (by kernel_rfl) (by kernel_rfl) (fun _ _ _ h => h) (Or.inl ⟨by rfl, ?tyk1x6⟩) hS1 ?trk1x6
    case tyk1x6 =>
      rintro X ⟨s0, s1⟩
      simp only [List.getElem_toArray, List.getElem_cons_zero, List.getElem_cons_succ]
      go_simp
      rfl
    simp only [List.getElem_toArray, List.getElem_cons_zero, List.getElem_cons_succ, Act.put, List.setIfInBounds_toArray, List.set_cons_zero, List.set_cons_succ]
    refine wpAnyM_done (by kernel_rfl) ?_ _
    go_wp2_with fail
    go_ret
    exact ⟨by rw [← app_bytes]; rfl, hB1⟩
  · have hsl : (signS 3).length ≤ 1 := by decide
    go_enter Tryd.func9, Tryd.ntmps9
    go_wp2_with fail
    refine wp_region_m (S := fun X => X.cell? ⟨w.heap.size, 0, none⟩ = some (.int .i64 3) ∧ X.cell? ⟨w.heap.size, 1, none⟩ = some (.string ⟨T.toArray⟩)) (t := 7) (by kernel_rfl) ?_
    have hB0 : Below w.heap.size w (w.alloc (.cells #[.int .i64 3, .string ⟨T.toArray⟩, .int .i64 N, .int .i64 m] 28)).drew := ((Below.refl _ _).alloc (Nat.le_refl _) _).drew
    have hS0 : (w.alloc (.cells #[.int .i64 3, .string ⟨T.toArray⟩, .int .i64 N, .int .i64 m] 28)).drew.cell? ⟨w.heap.size, 0, none⟩ = some (.int .i64 3) ∧ (w.alloc (.cells #[.int .i64 3, .string ⟨T.toArray⟩, .int .i64 N, .int .i64 m] 28)).drew.cell? ⟨w.heap.size, 1, none⟩ = some (.string ⟨T.toArray⟩) := by go_simp
    refine wpAnyM_take (i := 0) (v := ?tvk3x0) rfl (by kernel_rfl) (by kernel_rfl) (by kernel_rfl) (by kernel_rfl) (fun _ _ _ h => h) (Or.inl ⟨by rfl, ?tyk3x0⟩) hS0 ?trk3x0
    case tyk3x0 =>
      rintro X ⟨s0, s1⟩
      simp only [List.getElem_toArray, List.getElem_cons_zero, List.getElem_cons_succ]
      go_simp
      rfl
    simp only [List.getElem_toArray, List.getElem_cons_zero, List.getElem_cons_succ, Act.put, List.setIfInBounds_toArray, List.set_cons_zero, List.set_cons_succ]
    refine wpAnyM_take (i := 3) (v := ?tvk3x3) rfl (by kernel_rfl) (by kernel_rfl) (by kernel_rfl) (by kernel_rfl) (fun _ _ _ h => h) (Or.inl ⟨by rfl, ?tyk3x3⟩) hS0 ?trk3x3
    case tyk3x3 =>
      rintro X ⟨s0, s1⟩
      simp only [List.getElem_toArray, List.getElem_cons_zero, List.getElem_cons_succ]
      go_simp
      rfl
    simp only [List.getElem_toArray, List.getElem_cons_zero, List.getElem_cons_succ, Act.put, List.setIfInBounds_toArray, List.set_cons_zero, List.set_cons_succ]
    refine wpAnyM_take (i := 1) (v := ?tvk3x1) rfl (by kernel_rfl) (by kernel_rfl) (by kernel_rfl) (by kernel_rfl) (fun _ _ _ h => h) (Or.inl ⟨by rfl, ?tyk3x1⟩) hS0 ?trk3x1
    case tyk3x1 =>
      rintro X ⟨s0, s1⟩
      simp only [List.getElem_toArray, List.getElem_cons_zero, List.getElem_cons_succ]
      go_simp
      rfl
    simp only [List.getElem_toArray, List.getElem_cons_zero, List.getElem_cons_succ, Act.put, List.setIfInBounds_toArray, List.set_cons_zero, List.set_cons_succ]
    refine wpAnyM_take (i := 4) (v := ?tvk3x4) rfl (by kernel_rfl) (by kernel_rfl) (by kernel_rfl) (by kernel_rfl) (fun _ _ _ h => h) (Or.inl ⟨by rfl, ?tyk3x4⟩) hS0 ?trk3x4
    case tyk3x4 =>
      rintro X ⟨s0, s1⟩
      simp only [List.getElem_toArray, List.getElem_cons_zero, List.getElem_cons_succ]
      go_simp
      rfl
    simp only [List.getElem_toArray, List.getElem_cons_zero, List.getElem_cons_succ, Act.put, List.setIfInBounds_toArray, List.set_cons_zero, List.set_cons_succ]
    refine wpAnyM_one (i := 2) (by kernel_rfl) rfl (fun K1 hK1 => ?_)
    simp only [List.getElem_toArray, List.getElem_cons_zero, List.getElem_cons_succ, Act.put, List.setIfInBounds_toArray, List.set_cons_zero, List.set_cons_succ]
    rw [if_pos (by rfl)]
    go_simp
    refine (signOf_any 3 _).mono ?_
    rintro e' v1 ⟨rfl, hb1⟩
    have hB1 : Below w.heap.size w v1 := hB0.trans (hb1.mono hB0.size)
    have hS1 : v1.cell? ⟨w.heap.size, 0, none⟩ = some (.int .i64 3) ∧ v1.cell? ⟨w.heap.size, 1, none⟩ = some (.string ⟨T.toArray⟩) := ⟨cell_keep hb1 hS0.1, cell_keep hb1 hS0.2⟩
    refine hK1.out _ _ (fun _ => hS1) ?_
    refine wpAnyM_take (i := 5) (v := ?tvk3x5) rfl (by kernel_rfl) (by kernel_rfl) (by kernel_rfl) (by kernel_rfl) (fun _ _ _ h => h) (Or.inl ⟨by rfl, ?tyk3x5⟩) hS1 ?trk3x5
    case tyk3x5 =>
      rintro X ⟨s0, s1⟩
      simp only [List.getElem_toArray, List.getElem_cons_zero, List.getElem_cons_succ]
      go_simp
      rw [if_neg (by omega)]
    simp only [List.getElem_toArray, List.getElem_cons_zero, List.getElem_cons_succ, Act.put, List.setIfInBounds_toArray, List.set_cons_zero, List.set_cons_succ]
    refine wpAnyM_take (i := 6) (v := ?tvk3x6) rfl (by kernel_rfl) (by kernel_rfl) (by kernel_rfl) (by kernel_rfl) (fun _ _ _ h => h) (Or.inl ⟨by rfl, ?tyk3x6⟩) hS1 ?trk3x6
    case tyk3x6 =>
      rintro X ⟨s0, s1⟩
      simp only [List.getElem_toArray, List.getElem_cons_zero, List.getElem_cons_succ]
      go_simp
      rfl
    simp only [List.getElem_toArray, List.getElem_cons_zero, List.getElem_cons_succ, Act.put, List.setIfInBounds_toArray, List.set_cons_zero, List.set_cons_succ]
    refine wpAnyM_done (by kernel_rfl) ?_ _
    go_wp2_with fail
    go_ret
    exact ⟨by rw [← app_bytes]; rfl, hB1⟩
  · have hsl : (signS 4).length ≤ 1 := by decide
    go_enter Tryd.func9, Tryd.ntmps9
    go_wp2_with fail
    refine wp_region_m (S := fun X => X.cell? ⟨w.heap.size, 0, none⟩ = some (.int .i64 4) ∧ X.cell? ⟨w.heap.size, 1, none⟩ = some (.string ⟨T.toArray⟩)) (t := 7) (by kernel_rfl) ?_
    have hB0 : Below w.heap.size w (w.alloc (.cells #[.int .i64 4, .string ⟨T.toArray⟩, .int .i64 N, .int .i64 m] 28)).drew := ((Below.refl _ _).alloc (Nat.le_refl _) _).drew
    have hS0 : (w.alloc (.cells #[.int .i64 4, .string ⟨T.toArray⟩, .int .i64 N, .int .i64 m] 28)).drew.cell? ⟨w.heap.size, 0, none⟩ = some (.int .i64 4) ∧ (w.alloc (.cells #[.int .i64 4, .string ⟨T.toArray⟩, .int .i64 N, .int .i64 m] 28)).drew.cell? ⟨w.heap.size, 1, none⟩ = some (.string ⟨T.toArray⟩) := by go_simp
    refine wpAnyM_take (i := 0) (v := ?tvk4x0) rfl (by kernel_rfl) (by kernel_rfl) (by kernel_rfl) (by kernel_rfl) (fun _ _ _ h => h) (Or.inl ⟨by rfl, ?tyk4x0⟩) hS0 ?trk4x0
    case tyk4x0 =>
      rintro X ⟨s0, s1⟩
      simp only [List.getElem_toArray, List.getElem_cons_zero, List.getElem_cons_succ]
      go_simp
      rfl
    simp only [List.getElem_toArray, List.getElem_cons_zero, List.getElem_cons_succ, Act.put, List.setIfInBounds_toArray, List.set_cons_zero, List.set_cons_succ]
    refine wpAnyM_take (i := 3) (v := ?tvk4x3) rfl (by kernel_rfl) (by kernel_rfl) (by kernel_rfl) (by kernel_rfl) (fun _ _ _ h => h) (Or.inl ⟨by rfl, ?tyk4x3⟩) hS0 ?trk4x3
    case tyk4x3 =>
      rintro X ⟨s0, s1⟩
      simp only [List.getElem_toArray, List.getElem_cons_zero, List.getElem_cons_succ]
      go_simp
      rfl
    simp only [List.getElem_toArray, List.getElem_cons_zero, List.getElem_cons_succ, Act.put, List.setIfInBounds_toArray, List.set_cons_zero, List.set_cons_succ]
    refine wpAnyM_take (i := 1) (v := ?tvk4x1) rfl (by kernel_rfl) (by kernel_rfl) (by kernel_rfl) (by kernel_rfl) (fun _ _ _ h => h) (Or.inl ⟨by rfl, ?tyk4x1⟩) hS0 ?trk4x1
    case tyk4x1 =>
      rintro X ⟨s0, s1⟩
      simp only [List.getElem_toArray, List.getElem_cons_zero, List.getElem_cons_succ]
      go_simp
      rfl
    simp only [List.getElem_toArray, List.getElem_cons_zero, List.getElem_cons_succ, Act.put, List.setIfInBounds_toArray, List.set_cons_zero, List.set_cons_succ]
    refine wpAnyM_take (i := 4) (v := ?tvk4x4) rfl (by kernel_rfl) (by kernel_rfl) (by kernel_rfl) (by kernel_rfl) (fun _ _ _ h => h) (Or.inl ⟨by rfl, ?tyk4x4⟩) hS0 ?trk4x4
    case tyk4x4 =>
      rintro X ⟨s0, s1⟩
      simp only [List.getElem_toArray, List.getElem_cons_zero, List.getElem_cons_succ]
      go_simp
      rfl
    simp only [List.getElem_toArray, List.getElem_cons_zero, List.getElem_cons_succ, Act.put, List.setIfInBounds_toArray, List.set_cons_zero, List.set_cons_succ]
    refine wpAnyM_one (i := 2) (by kernel_rfl) rfl (fun K1 hK1 => ?_)
    simp only [List.getElem_toArray, List.getElem_cons_zero, List.getElem_cons_succ, Act.put, List.setIfInBounds_toArray, List.set_cons_zero, List.set_cons_succ]
    rw [if_pos (by rfl)]
    go_simp
    refine (signOf_any 4 _).mono ?_
    rintro e' v1 ⟨rfl, hb1⟩
    have hB1 : Below w.heap.size w v1 := hB0.trans (hb1.mono hB0.size)
    have hS1 : v1.cell? ⟨w.heap.size, 0, none⟩ = some (.int .i64 4) ∧ v1.cell? ⟨w.heap.size, 1, none⟩ = some (.string ⟨T.toArray⟩) := ⟨cell_keep hb1 hS0.1, cell_keep hb1 hS0.2⟩
    refine hK1.out _ _ (fun _ => hS1) ?_
    refine wpAnyM_take (i := 5) (v := ?tvk4x5) rfl (by kernel_rfl) (by kernel_rfl) (by kernel_rfl) (by kernel_rfl) (fun _ _ _ h => h) (Or.inl ⟨by rfl, ?tyk4x5⟩) hS1 ?trk4x5
    case tyk4x5 =>
      rintro X ⟨s0, s1⟩
      simp only [List.getElem_toArray, List.getElem_cons_zero, List.getElem_cons_succ]
      go_simp
      rw [if_neg (by omega)]
    simp only [List.getElem_toArray, List.getElem_cons_zero, List.getElem_cons_succ, Act.put, List.setIfInBounds_toArray, List.set_cons_zero, List.set_cons_succ]
    refine wpAnyM_take (i := 6) (v := ?tvk4x6) rfl (by kernel_rfl) (by kernel_rfl) (by kernel_rfl) (by kernel_rfl) (fun _ _ _ h => h) (Or.inl ⟨by rfl, ?tyk4x6⟩) hS1 ?trk4x6
    case tyk4x6 =>
      rintro X ⟨s0, s1⟩
      simp only [List.getElem_toArray, List.getElem_cons_zero, List.getElem_cons_succ]
      go_simp
      rfl
    simp only [List.getElem_toArray, List.getElem_cons_zero, List.getElem_cons_succ, Act.put, List.setIfInBounds_toArray, List.set_cons_zero, List.set_cons_succ]
    refine wpAnyM_done (by kernel_rfl) ?_ _
    go_wp2_with fail
    go_ret
    exact ⟨by rw [← app_bytes]; rfl, hB1⟩
  · have hsl : (signS 5).length ≤ 1 := by decide
    go_enter Tryd.func9, Tryd.ntmps9
    go_wp2_with fail
    refine wp_region_m (S := fun X => X.cell? ⟨w.heap.size, 0, none⟩ = some (.int .i64 5) ∧ X.cell? ⟨w.heap.size, 1, none⟩ = some (.string ⟨T.toArray⟩)) (t := 7) (by kernel_rfl) ?_
    have hB0 : Below w.heap.size w (w.alloc (.cells #[.int .i64 5, .string ⟨T.toArray⟩, .int .i64 N, .int .i64 m] 28)).drew := ((Below.refl _ _).alloc (Nat.le_refl _) _).drew
    have hS0 : (w.alloc (.cells #[.int .i64 5, .string ⟨T.toArray⟩, .int .i64 N, .int .i64 m] 28)).drew.cell? ⟨w.heap.size, 0, none⟩ = some (.int .i64 5) ∧ (w.alloc (.cells #[.int .i64 5, .string ⟨T.toArray⟩, .int .i64 N, .int .i64 m] 28)).drew.cell? ⟨w.heap.size, 1, none⟩ = some (.string ⟨T.toArray⟩) := by go_simp
    refine wpAnyM_take (i := 0) (v := ?tvk5x0) rfl (by kernel_rfl) (by kernel_rfl) (by kernel_rfl) (by kernel_rfl) (fun _ _ _ h => h) (Or.inl ⟨by rfl, ?tyk5x0⟩) hS0 ?trk5x0
    case tyk5x0 =>
      rintro X ⟨s0, s1⟩
      simp only [List.getElem_toArray, List.getElem_cons_zero, List.getElem_cons_succ]
      go_simp
      rfl
    simp only [List.getElem_toArray, List.getElem_cons_zero, List.getElem_cons_succ, Act.put, List.setIfInBounds_toArray, List.set_cons_zero, List.set_cons_succ]
    refine wpAnyM_take (i := 3) (v := ?tvk5x3) rfl (by kernel_rfl) (by kernel_rfl) (by kernel_rfl) (by kernel_rfl) (fun _ _ _ h => h) (Or.inl ⟨by rfl, ?tyk5x3⟩) hS0 ?trk5x3
    case tyk5x3 =>
      rintro X ⟨s0, s1⟩
      simp only [List.getElem_toArray, List.getElem_cons_zero, List.getElem_cons_succ]
      go_simp
      rfl
    simp only [List.getElem_toArray, List.getElem_cons_zero, List.getElem_cons_succ, Act.put, List.setIfInBounds_toArray, List.set_cons_zero, List.set_cons_succ]
    refine wpAnyM_take (i := 1) (v := ?tvk5x1) rfl (by kernel_rfl) (by kernel_rfl) (by kernel_rfl) (by kernel_rfl) (fun _ _ _ h => h) (Or.inl ⟨by rfl, ?tyk5x1⟩) hS0 ?trk5x1
    case tyk5x1 =>
      rintro X ⟨s0, s1⟩
      simp only [List.getElem_toArray, List.getElem_cons_zero, List.getElem_cons_succ]
      go_simp
      rfl
    simp only [List.getElem_toArray, List.getElem_cons_zero, List.getElem_cons_succ, Act.put, List.setIfInBounds_toArray, List.set_cons_zero, List.set_cons_succ]
    refine wpAnyM_take (i := 4) (v := ?tvk5x4) rfl (by kernel_rfl) (by kernel_rfl) (by kernel_rfl) (by kernel_rfl) (fun _ _ _ h => h) (Or.inl ⟨by rfl, ?tyk5x4⟩) hS0 ?trk5x4
    case tyk5x4 =>
      rintro X ⟨s0, s1⟩
      simp only [List.getElem_toArray, List.getElem_cons_zero, List.getElem_cons_succ]
      go_simp
      rfl
    simp only [List.getElem_toArray, List.getElem_cons_zero, List.getElem_cons_succ, Act.put, List.setIfInBounds_toArray, List.set_cons_zero, List.set_cons_succ]
    refine wpAnyM_one (i := 2) (by kernel_rfl) rfl (fun K1 hK1 => ?_)
    simp only [List.getElem_toArray, List.getElem_cons_zero, List.getElem_cons_succ, Act.put, List.setIfInBounds_toArray, List.set_cons_zero, List.set_cons_succ]
    rw [if_pos (by rfl)]
    go_simp
    refine (signOf_any 5 _).mono ?_
    rintro e' v1 ⟨rfl, hb1⟩
    have hB1 : Below w.heap.size w v1 := hB0.trans (hb1.mono hB0.size)
    have hS1 : v1.cell? ⟨w.heap.size, 0, none⟩ = some (.int .i64 5) ∧ v1.cell? ⟨w.heap.size, 1, none⟩ = some (.string ⟨T.toArray⟩) := ⟨cell_keep hb1 hS0.1, cell_keep hb1 hS0.2⟩
    refine hK1.out _ _ (fun _ => hS1) ?_
    refine wpAnyM_take (i := 5) (v := ?tvk5x5) rfl (by kernel_rfl) (by kernel_rfl) (by kernel_rfl) (by kernel_rfl) (fun _ _ _ h => h) (Or.inl ⟨by rfl, ?tyk5x5⟩) hS1 ?trk5x5
    case tyk5x5 =>
      rintro X ⟨s0, s1⟩
      simp only [List.getElem_toArray, List.getElem_cons_zero, List.getElem_cons_succ]
      go_simp
      rw [if_neg (by omega)]
    simp only [List.getElem_toArray, List.getElem_cons_zero, List.getElem_cons_succ, Act.put, List.setIfInBounds_toArray, List.set_cons_zero, List.set_cons_succ]
    refine wpAnyM_take (i := 6) (v := ?tvk5x6) rfl (by kernel_rfl) (by kernel_rfl) (by kernel_rfl) (by kernel_rfl) (fun _ _ _ h => h) (Or.inl ⟨by rfl, ?tyk5x6⟩) hS1 ?trk5x6
    case tyk5x6 =>
      rintro X ⟨s0, s1⟩
      simp only [List.getElem_toArray, List.getElem_cons_zero, List.getElem_cons_succ]
      go_simp
      rfl
    simp only [List.getElem_toArray, List.getElem_cons_zero, List.getElem_cons_succ, Act.put, List.setIfInBounds_toArray, List.set_cons_zero, List.set_cons_succ]
    refine wpAnyM_done (by kernel_rfl) ?_ _
    go_wp2_with fail
    go_ret
    exact ⟨by rw [← app_bytes]; rfl, hB1⟩
  · have hsl : (signS 8).length ≤ 1 := by decide
    go_enter Tryd.func9, Tryd.ntmps9
    go_wp2_with fail
    refine wp_region_m (S := fun X => X.cell? ⟨w.heap.size, 0, none⟩ = some (.int .i64 8) ∧ X.cell? ⟨w.heap.size, 1, none⟩ = some (.string ⟨T.toArray⟩)) (t := 7) (by kernel_rfl) ?_
    have hB0 : Below w.heap.size w (w.alloc (.cells #[.int .i64 8, .string ⟨T.toArray⟩, .int .i64 N, .int .i64 m] 28)).drew := ((Below.refl _ _).alloc (Nat.le_refl _) _).drew
    have hS0 : (w.alloc (.cells #[.int .i64 8, .string ⟨T.toArray⟩, .int .i64 N, .int .i64 m] 28)).drew.cell? ⟨w.heap.size, 0, none⟩ = some (.int .i64 8) ∧ (w.alloc (.cells #[.int .i64 8, .string ⟨T.toArray⟩, .int .i64 N, .int .i64 m] 28)).drew.cell? ⟨w.heap.size, 1, none⟩ = some (.string ⟨T.toArray⟩) := by go_simp
    refine wpAnyM_take (i := 0) (v := ?tvk8x0) rfl (by kernel_rfl) (by kernel_rfl) (by kernel_rfl) (by kernel_rfl) (fun _ _ _ h => h) (Or.inl ⟨by rfl, ?tyk8x0⟩) hS0 ?trk8x0
    case tyk8x0 =>
      rintro X ⟨s0, s1⟩
      simp only [List.getElem_toArray, List.getElem_cons_zero, List.getElem_cons_succ]
      go_simp
      rfl
    simp only [List.getElem_toArray, List.getElem_cons_zero, List.getElem_cons_succ, Act.put, List.setIfInBounds_toArray, List.set_cons_zero, List.set_cons_succ]
    refine wpAnyM_take (i := 3) (v := ?tvk8x3) rfl (by kernel_rfl) (by kernel_rfl) (by kernel_rfl) (by kernel_rfl) (fun _ _ _ h => h) (Or.inl ⟨by rfl, ?tyk8x3⟩) hS0 ?trk8x3
    case tyk8x3 =>
      rintro X ⟨s0, s1⟩
      simp only [List.getElem_toArray, List.getElem_cons_zero, List.getElem_cons_succ]
      go_simp
      rfl
    simp only [List.getElem_toArray, List.getElem_cons_zero, List.getElem_cons_succ, Act.put, List.setIfInBounds_toArray, List.set_cons_zero, List.set_cons_succ]
    refine wpAnyM_take (i := 1) (v := ?tvk8x1) rfl (by kernel_rfl) (by kernel_rfl) (by kernel_rfl) (by kernel_rfl) (fun _ _ _ h => h) (Or.inl ⟨by rfl, ?tyk8x1⟩) hS0 ?trk8x1
    case tyk8x1 =>
      rintro X ⟨s0, s1⟩
      simp only [List.getElem_toArray, List.getElem_cons_zero, List.getElem_cons_succ]
      go_simp
      rfl
    simp only [List.getElem_toArray, List.getElem_cons_zero, List.getElem_cons_succ, Act.put, List.setIfInBounds_toArray, List.set_cons_zero, List.set_cons_succ]
    refine wpAnyM_take (i := 4) (v := ?tvk8x4) rfl (by kernel_rfl) (by kernel_rfl) (by kernel_rfl) (by kernel_rfl) (fun _ _ _ h => h) (Or.inl ⟨by rfl, ?tyk8x4⟩) hS0 ?trk8x4
    case tyk8x4 =>
      rintro X ⟨s0, s1⟩
      simp only [List.getElem_toArray, List.getElem_cons_zero, List.getElem_cons_succ]
      go_simp
      rfl
    simp only [List.getElem_toArray, List.getElem_cons_zero, List.getElem_cons_succ, Act.put, List.setIfInBounds_toArray, List.set_cons_zero, List.set_cons_succ]
    refine wpAnyM_one (i := 2) (by kernel_rfl) rfl (fun K1 hK1 => ?_)
    simp only [List.getElem_toArray, List.getElem_cons_zero, List.getElem_cons_succ, Act.put, List.setIfInBounds_toArray, List.set_cons_zero, List.set_cons_succ]
    rw [if_pos (by rfl)]
    go_simp
    refine (signOf_any 8 _).mono ?_
    rintro e' v1 ⟨rfl, hb1⟩
    have hB1 : Below w.heap.size w v1 := hB0.trans (hb1.mono hB0.size)
    have hS1 : v1.cell? ⟨w.heap.size, 0, none⟩ = some (.int .i64 8) ∧ v1.cell? ⟨w.heap.size, 1, none⟩ = some (.string ⟨T.toArray⟩) := ⟨cell_keep hb1 hS0.1, cell_keep hb1 hS0.2⟩
    refine hK1.out _ _ (fun _ => hS1) ?_
    refine wpAnyM_take (i := 5) (v := ?tvk8x5) rfl (by kernel_rfl) (by kernel_rfl) (by kernel_rfl) (by kernel_rfl) (fun _ _ _ h => h) (Or.inl ⟨by rfl, ?tyk8x5⟩) hS1 ?trk8x5
    case tyk8x5 =>
      rintro X ⟨s0, s1⟩
      simp only [List.getElem_toArray, List.getElem_cons_zero, List.getElem_cons_succ]
      go_simp
      rw [if_neg (by omega)]
    simp only [List.getElem_toArray, List.getElem_cons_zero, List.getElem_cons_succ, Act.put, List.setIfInBounds_toArray, List.set_cons_zero, List.set_cons_succ]
    refine wpAnyM_take (i := 6) (v := ?tvk8x6) rfl (by kernel_rfl) (by kernel_rfl) (by kernel_rfl) (by kernel_rfl) (fun _ _ _ h => h) (Or.inl ⟨by rfl, ?tyk8x6⟩) hS1 ?trk8x6
    case tyk8x6 =>
      rintro X ⟨s0, s1⟩
      simp only [List.getElem_toArray, List.getElem_cons_zero, List.getElem_cons_succ]
      go_simp
      rfl
    simp only [List.getElem_toArray, List.getElem_cons_zero, List.getElem_cons_succ, Act.put, List.setIfInBounds_toArray, List.set_cons_zero, List.set_cons_succ]
    refine wpAnyM_done (by kernel_rfl) ?_ _
    go_wp2_with fail
    go_ret
    exact ⟨by rw [← app_bytes]; rfl, hB1⟩
end Go.Proofs.YtmfdppgfbgjmcaaDoor
