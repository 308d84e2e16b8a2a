/-
  Walks: the laws PlacesChecks, PlacesCompare, PlacesOrder.
-/
import Derived.Test.YtmfdppgfbgjmcaaW22
namespace Go.Proofs.Ytmfdppgfbgjmcaa
open Go.RowKit Go.Shelf

set_option maxRecDepth 100000 in
set_option maxHeartbeats 4000000 in
theorem checks_any (p : Plc) (A : Option Addr) (c : Nat) (w : World) (hp : Slc 2 RPj w A c p.proj) :
    Calls Try.prog 3 #[.agg #[.int .i64 p.loc, .slice A p.proj.length c]] w fun e' w' => e' = .returned (.bool true) ∧ Below w.heap.size w w' := by
  have hple := hp.le
  have hpbig := hp.big
  have HP := Lib.hid hp
  clear hp
  go_enter Try.func3, Try.ntmps3
  go_wp2_with (go_at_call 9; refine (alive_any _).mono ?_; rintro e' w1 ⟨rfl, hb1⟩)
  · go_ret
    exact ⟨rfl, ((Below.refl _ _).alloc (Nat.le_refl _) _).trans (hb1.mono (by simp))⟩
  ·
    refine wp_region_m (S := fun X => X.cell? ⟨w.heap.size, 0, none⟩ = some (.int .i64 p.loc) ∧ X.cell? ⟨w.heap.size, 1, none⟩ = some (.slice A p.proj.length c)) (t := 9) (by kernel_rfl) ?_
    have hB0 : Below w.heap.size w (w.alloc (.cells #[.int .i64 p.loc, .slice A p.proj.length c] 24)).drew := by (repeat (first | exact Below.refl _ _ | assumption | refine Below.alloc ?_ (by first | omega | (simp; done) | (simp; omega)) _ | refine below_drewN ?_ _ | refine Below.drew ?_ | refine Below.setCell ?_ (by first | omega | (simp; done) | (simp; omega)) _))
    have hS0 : (w.alloc (.cells #[.int .i64 p.loc, .slice A p.proj.length c] 24)).drew.cell? ⟨w.heap.size, 0, none⟩ = some (.int .i64 p.loc) ∧ (w.alloc (.cells #[.int .i64 p.loc, .slice A p.proj.length c] 24)).drew.cell? ⟨w.heap.size, 1, none⟩ = some (.slice A p.proj.length c) := by go_simp
    refine wpAnyM_one (i := 0) (by kernel_rfl) rfl (fun K1 hK1 => ?_)
    simp only [List.getElem_toArray, List.getElem_cons_zero, List.getElem_cons_succ, Act.put, List.setIfInBounds_toArray, List.set_cons_zero, List.set_cons_succ]
    rw [if_pos (by rfl)]
    go_simp
    refine (alive_any _).mono ?_
    rintro e' w1 ⟨rfl, hb1⟩
    have hB1 : Below w.heap.size w w1 := hB0.trans (hb1.mono hB0.size)
    have hS1 : w1.cell? ⟨w.heap.size, 0, none⟩ = some (.int .i64 p.loc) ∧ w1.cell? ⟨w.heap.size, 1, none⟩ = some (.slice A p.proj.length c) := ⟨cell_keep hb1 hS0.1, cell_keep hb1 hS0.2⟩
    refine hK1.out _ _ (fun _ => hS1) ?_
    refine wpAnyM_take (i := 1) (v := ?tv1) rfl (by kernel_rfl) (by kernel_rfl) (by kernel_rfl) (by kernel_rfl) (fun _ _ _ h => h) (Or.inl ⟨by rfl, ?ty1⟩) hS1 ?tr1
    case ty1 =>
      rintro X ⟨s0, s1⟩
      simp only [List.getElem_toArray, List.getElem_cons_zero, List.getElem_cons_succ]
      go_simp
      rfl
    simp only [List.getElem_toArray, List.getElem_cons_zero, List.getElem_cons_succ, Act.put, List.setIfInBounds_toArray, List.set_cons_zero, List.set_cons_succ]
    refine wpAnyM_take (i := 2) (v := ?tv2) rfl (by kernel_rfl) (by kernel_rfl) (by kernel_rfl) (by kernel_rfl) (fun _ _ _ h => h) (Or.inl ⟨by rfl, ?ty2⟩) hS1 ?tr2
    case ty2 =>
      rintro X ⟨s0, s1⟩
      simp only [List.getElem_toArray, List.getElem_cons_zero, List.getElem_cons_succ]
      go_simp
      rfl
    simp only [List.getElem_toArray, List.getElem_cons_zero, List.getElem_cons_succ, Act.put, List.setIfInBounds_toArray, List.set_cons_zero, List.set_cons_succ]
    refine wpAnyM_take (i := 4) (v := ?tv4) rfl (by kernel_rfl) (by kernel_rfl) (by kernel_rfl) (by kernel_rfl) (fun _ _ _ h => h) (Or.inl ⟨by rfl, ?ty4⟩) hS1 ?tr4
    case ty4 =>
      rintro X ⟨s0, s1⟩
      simp only [List.getElem_toArray, List.getElem_cons_zero, List.getElem_cons_succ]
      go_simp
      rfl
    simp only [List.getElem_toArray, List.getElem_cons_zero, List.getElem_cons_succ, Act.put, List.setIfInBounds_toArray, List.set_cons_zero, List.set_cons_succ]
    refine wpAnyM_one (i := 3) (by kernel_rfl) rfl (fun K2 hK2 => ?_)
    simp only [List.getElem_toArray, List.getElem_cons_zero, List.getElem_cons_succ, Act.put, List.setIfInBounds_toArray, List.set_cons_zero, List.set_cons_succ]
    rw [if_pos (by rfl)]
    go_simp
    refine (check_any p.loc A c p.proj _ (HP.out.keep RPj.keeps hB1)).mono ?_
    rintro e' w2 ⟨rfl, hb2⟩
    have hB2 : Below w.heap.size w w2 := hB1.trans (hb2.mono hB1.size)
    have hS2 : w2.cell? ⟨w.heap.size, 0, none⟩ = some (.int .i64 p.loc) ∧ w2.cell? ⟨w.heap.size, 1, none⟩ = some (.slice A p.proj.length c) := ⟨cell_keep hb2 hS1.1, cell_keep hb2 hS1.2⟩
    refine hK2.out _ _ (fun _ => hS2) ?_
    refine wpAnyM_one (i := 5) (by kernel_rfl) rfl (fun K3 hK3 => ?_)
    simp only [List.getElem_toArray, List.getElem_cons_zero, List.getElem_cons_succ, Act.put, List.setIfInBounds_toArray, List.set_cons_zero, List.set_cons_succ]
    rw [if_pos (by rfl)]
    go_simp
    refine (rcheck_any p.loc A c p.proj _ (HP.out.keep RPj.keeps hB2)).mono ?_
    rintro e' w3 ⟨rfl, hb3⟩
    have hB3 : Below w.heap.size w w3 := hB2.trans (hb3.mono hB2.size)
    have hS3 : w3.cell? ⟨w.heap.size, 0, none⟩ = some (.int .i64 p.loc) ∧ w3.cell? ⟨w.heap.size, 1, none⟩ = some (.slice A p.proj.length c) := ⟨cell_keep hb3 hS2.1, cell_keep hb3 hS2.2⟩
    refine hK3.out _ _ (fun _ => hS3) ?_
    refine wpAnyM_take (i := 6) (v := ?tv6) rfl (by kernel_rfl) (by kernel_rfl) (by kernel_rfl) (by kernel_rfl) (fun _ _ _ h => h) (Or.inl ⟨by rfl, ?ty6⟩) hS3 ?tr6
    case ty6 =>
      rintro X ⟨s0, s1⟩
      simp only [List.getElem_toArray, List.getElem_cons_zero, List.getElem_cons_succ]
      go_simp
      rfl
    simp only [List.getElem_toArray, List.getElem_cons_zero, List.getElem_cons_succ, Act.put, List.setIfInBounds_toArray, List.set_cons_zero, List.set_cons_succ]
    refine wpAnyM_take (i := 7) (v := ?tv7) rfl (by kernel_rfl) (by kernel_rfl) (by kernel_rfl) (by kernel_rfl) (fun _ _ _ h => h) (Or.inl ⟨by rfl, ?ty7⟩) hS3 ?tr7
    case ty7 =>
      rintro X ⟨s0, s1⟩
      simp only [List.getElem_toArray, List.getElem_cons_zero, List.getElem_cons_succ]
      go_simp
      rfl
    simp only [List.getElem_toArray, List.getElem_cons_zero, List.getElem_cons_succ, Act.put, List.setIfInBounds_toArray, List.set_cons_zero, List.set_cons_succ]
    refine wpAnyM_take (i := 8) (v := ?tv8) rfl (by kernel_rfl) (by kernel_rfl) (by kernel_rfl) (by kernel_rfl) (fun _ _ _ h => h) (Or.inl ⟨by rfl, ?ty8⟩) hS3 ?tr8
    case ty8 =>
      rintro X ⟨s0, s1⟩
      simp only [List.getElem_toArray, List.getElem_cons_zero, List.getElem_cons_succ]
      go_simp
      rfl
    simp only [List.getElem_toArray, List.getElem_cons_zero, List.getElem_cons_succ, Act.put, List.setIfInBounds_toArray, List.set_cons_zero, List.set_cons_succ]
    refine wpAnyM_done (by kernel_rfl) ?_ _
    go_wp2
    go_ret
    exact ⟨rfl, hB3⟩

set_option maxRecDepth 100000 in
set_option maxHeartbeats 4000000 in
theorem compare_any (p q : Plc) (n : Int) (A B : Option Addr) (c d : Nat) (w : World) (hp : Slc 2 RPj w A c p.proj) (hq : Slc 2 RPj w B d q.proj) :
    Calls Try.prog 5 #[.agg #[.int .i64 p.loc, .slice A p.proj.length c], .agg #[.int .i64 q.loc, .slice B q.proj.length d], .int .i64 n] w fun e' w' => e' = .returned (.bool true) ∧ Below w.heap.size w w' := by
  have hple := hp.le
  have hpbig := hp.big
  have hqle := hq.le
  have hqbig := hq.big
  have HP := Lib.hid hp
  have HQ := Lib.hid hq
  clear hp hq
  obtain ⟨b1, hHE⟩ : ∃ b : Bool, (∀ W : World, Slc 2 RPj W A c p.proj → Slc 2 RPj W B d q.proj → Calls Try.prog 20 #[.agg #[.int .i64 p.loc, .slice A p.proj.length c], .agg #[.int .i64 q.loc, .slice B q.proj.length d]] W fun e' w' => e' = .returned (.bool b) ∧ Below W.heap.size W w') ∧ (∀ W : World, Slc 2 RPj W A c p.proj → Slc 2 RPj W B d q.proj → Calls Try.prog 21 #[.agg #[.int .i64 p.loc, .slice A p.proj.length c], .agg #[.int .i64 q.loc, .slice B q.proj.length d]] W fun e' w' => e' = .returned (.bool b) ∧ Below W.heap.size W w') := ⟨_, fun W h1 h2 => equal_any p q A B c d W h1 h2, fun W h1 h2 => requal_any p q A B c d W h1 h2⟩
  have HE := Lib.hid hHE
  clear hHE
  obtain ⟨b2, hHI⟩ : ∃ b : Bool, (∀ W : World, Slc 2 RPj W A c p.proj → Slc 2 RPj W B d q.proj → Calls Try.prog 22 #[.agg #[.int .i64 p.loc, .slice A p.proj.length c], .agg #[.int .i64 q.loc, .slice B q.proj.length d]] W fun e' w' => e' = .returned (.bool b) ∧ Below W.heap.size W w') ∧ (∀ W : World, Slc 2 RPj W A c p.proj → Slc 2 RPj W B d q.proj → Calls Try.prog 23 #[.agg #[.int .i64 p.loc, .slice A p.proj.length c], .agg #[.int .i64 q.loc, .slice B q.proj.length d]] W fun e' w' => e' = .returned (.bool b) ∧ Below W.heap.size W w') := ⟨_, fun W h1 h2 => isPre_any p q A B c d W h1 h2, fun W h1 h2 => rpre_any p q A B c d W h1 h2⟩
  have HI := Lib.hid hHI
  clear hHI
  obtain ⟨b3, hHD⟩ : ∃ b : Bool, (∀ W : World, Slc 2 RPj W A c p.proj → Calls Try.prog 24 #[.agg #[.int .i64 p.loc, .slice A p.proj.length c], .int .i64 n] W fun e' w' => e' = .returned (.bool b) ∧ Below W.heap.size W w') ∧ (∀ W : World, Slc 2 RPj W A c p.proj → Calls Try.prog 25 #[.agg #[.int .i64 p.loc, .slice A p.proj.length c], .int .i64 n] W fun e' w' => e' = .returned (.bool b) ∧ Below W.heap.size W w') := ⟨_, fun W h1 => hasD_any p n A c W h1, fun W h1 => rhasD_any p n A c W h1⟩
  have HD := Lib.hid hHD
  clear hHD
  go_enter Try.func5, Try.ntmps5
  go_wp2_with (go_at_call 9; refine (alive_any _).mono ?_; rintro e' w1 ⟨rfl, hb1⟩)
  · go_ret
    exact ⟨rfl, (bel2 w _ _).trans (hb1.mono (by simp; omega))⟩
  ·
    refine wp_region_m (S := fun X => X.cell? ⟨w.heap.size, 0, none⟩ = some (.int .i64 p.loc) ∧ X.cell? ⟨w.heap.size, 1, none⟩ = some (.slice A p.proj.length c) ∧ X.cell? ⟨w.heap.size + 1, 0, none⟩ = some (.int .i64 q.loc) ∧ X.cell? ⟨w.heap.size + 1, 1, none⟩ = some (.slice B q.proj.length d)) (t := 29) (by kernel_rfl) ?_
    have hB0 : Below w.heap.size w ((w.alloc (.cells #[.int .i64 p.loc, .slice A p.proj.length c] 24)).alloc (.cells #[.int .i64 q.loc, .slice B q.proj.length d] 24)).drew := by (repeat (first | exact Below.refl _ _ | assumption | refine Below.alloc ?_ (by first | omega | (simp; done) | (simp; omega)) _ | refine below_drewN ?_ _ | refine Below.drew ?_ | refine Below.setCell ?_ (by first | omega | (simp; done) | (simp; omega)) _))
    have hS0 : ((w.alloc (.cells #[.int .i64 p.loc, .slice A p.proj.length c] 24)).alloc (.cells #[.int .i64 q.loc, .slice B q.proj.length d] 24)).drew.cell? ⟨w.heap.size, 0, none⟩ = some (.int .i64 p.loc) ∧ ((w.alloc (.cells #[.int .i64 p.loc, .slice A p.proj.length c] 24)).alloc (.cells #[.int .i64 q.loc, .slice B q.proj.length d] 24)).drew.cell? ⟨w.heap.size, 1, none⟩ = some (.slice A p.proj.length c) ∧ ((w.alloc (.cells #[.int .i64 p.loc, .slice A p.proj.length c] 24)).alloc (.cells #[.int .i64 q.loc, .slice B q.proj.length d] 24)).drew.cell? ⟨w.heap.size + 1, 0, none⟩ = some (.int .i64 q.loc) ∧ ((w.alloc (.cells #[.int .i64 p.loc, .slice A p.proj.length c] 24)).alloc (.cells #[.int .i64 q.loc, .slice B q.proj.length d] 24)).drew.cell? ⟨w.heap.size + 1, 1, none⟩ = some (.slice B q.proj.length d) := by go_simp
    refine wpAnyM_one (i := 0) (by kernel_rfl) rfl (fun K1 hK1 => ?_)
    simp only [List.getElem_toArray, List.getElem_cons_zero, List.getElem_cons_succ, Act.put, List.setIfInBounds_toArray, List.set_cons_zero, List.set_cons_succ]
    rw [if_pos (by rfl)]
    go_simp
    refine (alive_any _).mono ?_
    rintro e' w1 ⟨rfl, hb1⟩
    have hB1 : Below w.heap.size w w1 := hB0.trans (hb1.mono hB0.size)
    have hS1 : w1.cell? ⟨w.heap.size, 0, none⟩ = some (.int .i64 p.loc) ∧ w1.cell? ⟨w.heap.size, 1, none⟩ = some (.slice A p.proj.length c) ∧ w1.cell? ⟨w.heap.size + 1, 0, none⟩ = some (.int .i64 q.loc) ∧ w1.cell? ⟨w.heap.size + 1, 1, none⟩ = some (.slice B q.proj.length d) := ⟨cell_keep hb1 hS0.1, cell_keep hb1 hS0.2.1, cell_keep hb1 hS0.2.2.1, cell_keep hb1 hS0.2.2.2⟩
    refine hK1.out _ _ (fun _ => hS1) ?_
    refine wpAnyM_take (i := 1) (v := ?tv1) rfl (by kernel_rfl) (by kernel_rfl) (by kernel_rfl) (by kernel_rfl) (fun _ _ _ h => h) (Or.inl ⟨by rfl, ?ty1⟩) hS1 ?tr1
    case ty1 =>
      rintro X ⟨s0, s1, s2, s3⟩
      simp only [List.getElem_toArray, List.getElem_cons_zero, List.getElem_cons_succ]
      go_simp
      rfl
    simp only [List.getElem_toArray, List.getElem_cons_zero, List.getElem_cons_succ, Act.put, List.setIfInBounds_toArray, List.set_cons_zero, List.set_cons_succ]
    refine wpAnyM_take (i := 2) (v := ?tv2) rfl (by kernel_rfl) (by kernel_rfl) (by kernel_rfl) (by kernel_rfl) (fun _ _ _ h => h) (Or.inl ⟨by rfl, ?ty2⟩) hS1 ?tr2
    case ty2 =>
      rintro X ⟨s0, s1, s2, s3⟩
      simp only [List.getElem_toArray, List.getElem_cons_zero, List.getElem_cons_succ]
      go_simp
      rfl
    simp only [List.getElem_toArray, List.getElem_cons_zero, List.getElem_cons_succ, Act.put, List.setIfInBounds_toArray, List.set_cons_zero, List.set_cons_succ]
    refine wpAnyM_take (i := 3) (v := ?tv3) rfl (by kernel_rfl) (by kernel_rfl) (by kernel_rfl) (by kernel_rfl) (fun _ _ _ h => h) (Or.inl ⟨by rfl, ?ty3⟩) hS1 ?tr3
    case ty3 =>
      rintro X ⟨s0, s1, s2, s3⟩
      simp only [List.getElem_toArray, List.getElem_cons_zero, List.getElem_cons_succ]
      go_simp
      rfl
    simp only [List.getElem_toArray, List.getElem_cons_zero, List.getElem_cons_succ, Act.put, List.setIfInBounds_toArray, List.set_cons_zero, List.set_cons_succ]
    refine wpAnyM_take (i := 5) (v := ?tv5) rfl (by kernel_rfl) (by kernel_rfl) (by kernel_rfl) (by kernel_rfl) (fun _ _ _ h => h) (Or.inl ⟨by rfl, ?ty5⟩) hS1 ?tr5
    case ty5 =>
      rintro X ⟨s0, s1, s2, s3⟩
      simp only [List.getElem_toArray, List.getElem_cons_zero, List.getElem_cons_succ]
      go_simp
      rfl
    simp only [List.getElem_toArray, List.getElem_cons_zero, List.getElem_cons_succ, Act.put, List.setIfInBounds_toArray, List.set_cons_zero, List.set_cons_succ]
    refine wpAnyM_take (i := 6) (v := ?tv6) rfl (by kernel_rfl) (by kernel_rfl) (by kernel_rfl) (by kernel_rfl) (fun _ _ _ h => h) (Or.inl ⟨by rfl, ?ty6⟩) hS1 ?tr6
    case ty6 =>
      rintro X ⟨s0, s1, s2, s3⟩
      simp only [List.getElem_toArray, List.getElem_cons_zero, List.getElem_cons_succ]
      go_simp
      rfl
    simp only [List.getElem_toArray, List.getElem_cons_zero, List.getElem_cons_succ, Act.put, List.setIfInBounds_toArray, List.set_cons_zero, List.set_cons_succ]
    refine wpAnyM_one (i := 4) (by kernel_rfl) rfl (fun K2 hK2 => ?_)
    simp only [List.getElem_toArray, List.getElem_cons_zero, List.getElem_cons_succ, Act.put, List.setIfInBounds_toArray, List.set_cons_zero, List.set_cons_succ]
    rw [if_pos (by rfl)]
    go_simp
    refine (HE.out.1 _ (HP.out.keep RPj.keeps hB1) (HQ.out.keep RPj.keeps hB1)).mono ?_
    rintro e' w2 ⟨rfl, hb2⟩
    have hB2 : Below w.heap.size w w2 := hB1.trans (hb2.mono hB1.size)
    have hS2 : w2.cell? ⟨w.heap.size, 0, none⟩ = some (.int .i64 p.loc) ∧ w2.cell? ⟨w.heap.size, 1, none⟩ = some (.slice A p.proj.length c) ∧ w2.cell? ⟨w.heap.size + 1, 0, none⟩ = some (.int .i64 q.loc) ∧ w2.cell? ⟨w.heap.size + 1, 1, none⟩ = some (.slice B q.proj.length d) := ⟨cell_keep hb2 hS1.1, cell_keep hb2 hS1.2.1, cell_keep hb2 hS1.2.2.1, cell_keep hb2 hS1.2.2.2⟩
    refine hK2.out _ _ (fun _ => hS2) ?_
    refine wpAnyM_one (i := 7) (by kernel_rfl) rfl (fun K3 hK3 => ?_)
    simp only [List.getElem_toArray, List.getElem_cons_zero, List.getElem_cons_succ, Act.put, List.setIfInBounds_toArray, List.set_cons_zero, List.set_cons_succ]
    rw [if_pos (by rfl)]
    go_simp
    refine (HE.out.2 _ (HP.out.keep RPj.keeps hB2) (HQ.out.keep RPj.keeps hB2)).mono ?_
    rintro e' w3 ⟨rfl, hb3⟩
    have hB3 : Below w.heap.size w w3 := hB2.trans (hb3.mono hB2.size)
    have hS3 : w3.cell? ⟨w.heap.size, 0, none⟩ = some (.int .i64 p.loc) ∧ w3.cell? ⟨w.heap.size, 1, none⟩ = some (.slice A p.proj.length c) ∧ w3.cell? ⟨w.heap.size + 1, 0, none⟩ = some (.int .i64 q.loc) ∧ w3.cell? ⟨w.heap.size + 1, 1, none⟩ = some (.slice B q.proj.length d) := ⟨cell_keep hb3 hS2.1, cell_keep hb3 hS2.2.1, cell_keep hb3 hS2.2.2.1, cell_keep hb3 hS2.2.2.2⟩
    refine hK3.out _ _ (fun _ => hS3) ?_
    refine wpAnyM_take (i := 8) (v := ?tv8) rfl (by kernel_rfl) (by kernel_rfl) (by kernel_rfl) (by kernel_rfl) (fun _ _ _ h => h) (Or.inl ⟨by rfl, ?ty8⟩) hS3 ?tr8
    case ty8 =>
      rintro X ⟨s0, s1, s2, s3⟩
      simp only [List.getElem_toArray, List.getElem_cons_zero, List.getElem_cons_succ]
      go_simp
      rfl
    simp only [List.getElem_toArray, List.getElem_cons_zero, List.getElem_cons_succ, Act.put, List.setIfInBounds_toArray, List.set_cons_zero, List.set_cons_succ]
    refine wpAnyM_take (i := 9) (v := ?tv9) rfl (by kernel_rfl) (by kernel_rfl) (by kernel_rfl) (by kernel_rfl) (fun _ _ _ h => h) (Or.inl ⟨by rfl, ?ty9⟩) hS3 ?tr9
    case ty9 =>
      rintro X ⟨s0, s1, s2, s3⟩
      simp only [List.getElem_toArray, List.getElem_cons_zero, List.getElem_cons_succ]
      go_simp
      rfl
    simp only [List.getElem_toArray, List.getElem_cons_zero, List.getElem_cons_succ, Act.put, List.setIfInBounds_toArray, List.set_cons_zero, List.set_cons_succ]
    refine wpAnyM_take (i := 10) (v := ?tv10) rfl (by kernel_rfl) (by kernel_rfl) (by kernel_rfl) (by kernel_rfl) (fun _ _ _ h => h) (Or.inl ⟨by rfl, ?ty10⟩) hS3 ?tr10
    case ty10 =>
      rintro X ⟨s0, s1, s2, s3⟩
      simp only [List.getElem_toArray, List.getElem_cons_zero, List.getElem_cons_succ]
      go_simp
      rfl
    simp only [List.getElem_toArray, List.getElem_cons_zero, List.getElem_cons_succ, Act.put, List.setIfInBounds_toArray, List.set_cons_zero, List.set_cons_succ]
    refine wpAnyM_take (i := 11) (v := ?tv11) rfl (by kernel_rfl) (by kernel_rfl) (by kernel_rfl) (by kernel_rfl) (fun _ _ _ h => h) (Or.inl ⟨by rfl, ?ty11⟩) hS3 ?tr11
    case ty11 =>
      rintro X ⟨s0, s1, s2, s3⟩
      simp only [List.getElem_toArray, List.getElem_cons_zero, List.getElem_cons_succ]
      go_simp
      rfl
    simp only [List.getElem_toArray, List.getElem_cons_zero, List.getElem_cons_succ, Act.put, List.setIfInBounds_toArray, List.set_cons_zero, List.set_cons_succ]
    refine wpAnyM_take (i := 12) (v := ?tv12) rfl (by kernel_rfl) (by kernel_rfl) (by kernel_rfl) (by kernel_rfl) (fun _ _ _ h => h) (Or.inl ⟨by rfl, ?ty12⟩) hS3 ?tr12
    case ty12 =>
      rintro X ⟨s0, s1, s2, s3⟩
      simp only [List.getElem_toArray, List.getElem_cons_zero, List.getElem_cons_succ]
      go_simp
      rfl
    simp only [List.getElem_toArray, List.getElem_cons_zero, List.getElem_cons_succ, Act.put, List.setIfInBounds_toArray, List.set_cons_zero, List.set_cons_succ]
    refine wpAnyM_take (i := 14) (v := ?tv14) rfl (by kernel_rfl) (by kernel_rfl) (by kernel_rfl) (by kernel_rfl) (fun _ _ _ h => h) (Or.inl ⟨by rfl, ?ty14⟩) hS3 ?tr14
    case ty14 =>
      rintro X ⟨s0, s1, s2, s3⟩
      simp only [List.getElem_toArray, List.getElem_cons_zero, List.getElem_cons_succ]
      go_simp
      rfl
    simp only [List.getElem_toArray, List.getElem_cons_zero, List.getElem_cons_succ, Act.put, List.setIfInBounds_toArray, List.set_cons_zero, List.set_cons_succ]
    refine wpAnyM_take (i := 15) (v := ?tv15) rfl (by kernel_rfl) (by kernel_rfl) (by kernel_rfl) (by kernel_rfl) (fun _ _ _ h => h) (Or.inl ⟨by rfl, ?ty15⟩) hS3 ?tr15
    case ty15 =>
      rintro X ⟨s0, s1, s2, s3⟩
      simp only [List.getElem_toArray, List.getElem_cons_zero, List.getElem_cons_succ]
      go_simp
      rfl
    simp only [List.getElem_toArray, List.getElem_cons_zero, List.getElem_cons_succ, Act.put, List.setIfInBounds_toArray, List.set_cons_zero, List.set_cons_succ]
    refine wpAnyM_one (i := 13) (by kernel_rfl) rfl (fun K4 hK4 => ?_)
    simp only [List.getElem_toArray, List.getElem_cons_zero, List.getElem_cons_succ, Act.put, List.setIfInBounds_toArray, List.set_cons_zero, List.set_cons_succ]
    rw [if_pos (by rfl)]
    go_simp
    refine (HI.out.1 _ (HP.out.keep RPj.keeps hB3) (HQ.out.keep RPj.keeps hB3)).mono ?_
    rintro e' w4 ⟨rfl, hb4⟩
    have hB4 : Below w.heap.size w w4 := hB3.trans (hb4.mono hB3.size)
    have hS4 : w4.cell? ⟨w.heap.size, 0, none⟩ = some (.int .i64 p.loc) ∧ w4.cell? ⟨w.heap.size, 1, none⟩ = some (.slice A p.proj.length c) ∧ w4.cell? ⟨w.heap.size + 1, 0, none⟩ = some (.int .i64 q.loc) ∧ w4.cell? ⟨w.heap.size + 1, 1, none⟩ = some (.slice B q.proj.length d) := ⟨cell_keep hb4 hS3.1, cell_keep hb4 hS3.2.1, cell_keep hb4 hS3.2.2.1, cell_keep hb4 hS3.2.2.2⟩
    refine hK4.out _ _ (fun _ => hS4) ?_
    refine wpAnyM_one (i := 16) (by kernel_rfl) rfl (fun K5 hK5 => ?_)
    simp only [List.getElem_toArray, List.getElem_cons_zero, List.getElem_cons_succ, Act.put, List.setIfInBounds_toArray, List.set_cons_zero, List.set_cons_succ]
    rw [if_pos (by rfl)]
    go_simp
    refine (HI.out.2 _ (HP.out.keep RPj.keeps hB4) (HQ.out.keep RPj.keeps hB4)).mono ?_
    rintro e' w5 ⟨rfl, hb5⟩
    have hB5 : Below w.heap.size w w5 := hB4.trans (hb5.mono hB4.size)
    have hS5 : w5.cell? ⟨w.heap.size, 0, none⟩ = some (.int .i64 p.loc) ∧ w5.cell? ⟨w.heap.size, 1, none⟩ = some (.slice A p.proj.length c) ∧ w5.cell? ⟨w.heap.size + 1, 0, none⟩ = some (.int .i64 q.loc) ∧ w5.cell? ⟨w.heap.size + 1, 1, none⟩ = some (.slice B q.proj.length d) := ⟨cell_keep hb5 hS4.1, cell_keep hb5 hS4.2.1, cell_keep hb5 hS4.2.2.1, cell_keep hb5 hS4.2.2.2⟩
    refine hK5.out _ _ (fun _ => hS5) ?_
    refine wpAnyM_take (i := 17) (v := ?tv17) rfl (by kernel_rfl) (by kernel_rfl) (by kernel_rfl) (by kernel_rfl) (fun _ _ _ h => h) (Or.inl ⟨by rfl, ?ty17⟩) hS5 ?tr17
    case ty17 =>
      rintro X ⟨s0, s1, s2, s3⟩
      simp only [List.getElem_toArray, List.getElem_cons_zero, List.getElem_cons_succ]
      go_simp
      rfl
    simp only [List.getElem_toArray, List.getElem_cons_zero, List.getElem_cons_succ, Act.put, List.setIfInBounds_toArray, List.set_cons_zero, List.set_cons_succ]
    refine wpAnyM_take (i := 18) (v := ?tv18) rfl (by kernel_rfl) (by kernel_rfl) (by kernel_rfl) (by kernel_rfl) (fun _ _ _ h => h) (Or.inl ⟨by rfl, ?ty18⟩) hS5 ?tr18
    case ty18 =>
      rintro X ⟨s0, s1, s2, s3⟩
      simp only [List.getElem_toArray, List.getElem_cons_zero, List.getElem_cons_succ]
      go_simp
      rfl
    simp only [List.getElem_toArray, List.getElem_cons_zero, List.getElem_cons_succ, Act.put, List.setIfInBounds_toArray, List.set_cons_zero, List.set_cons_succ]
    refine wpAnyM_take (i := 19) (v := ?tv19) rfl (by kernel_rfl) (by kernel_rfl) (by kernel_rfl) (by kernel_rfl) (fun _ _ _ h => h) (Or.inl ⟨by rfl, ?ty19⟩) hS5 ?tr19
    case ty19 =>
      rintro X ⟨s0, s1, s2, s3⟩
      simp only [List.getElem_toArray, List.getElem_cons_zero, List.getElem_cons_succ]
      go_simp
      rfl
    simp only [List.getElem_toArray, List.getElem_cons_zero, List.getElem_cons_succ, Act.put, List.setIfInBounds_toArray, List.set_cons_zero, List.set_cons_succ]
    refine wpAnyM_take (i := 20) (v := ?tv20) rfl (by kernel_rfl) (by kernel_rfl) (by kernel_rfl) (by kernel_rfl) (fun _ _ _ h => h) (Or.inl ⟨by rfl, ?ty20⟩) hS5 ?tr20
    case ty20 =>
      rintro X ⟨s0, s1, s2, s3⟩
      simp only [List.getElem_toArray, List.getElem_cons_zero, List.getElem_cons_succ]
      go_simp
      rfl
    simp only [List.getElem_toArray, List.getElem_cons_zero, List.getElem_cons_succ, Act.put, List.setIfInBounds_toArray, List.set_cons_zero, List.set_cons_succ]
    refine wpAnyM_take (i := 21) (v := ?tv21) rfl (by kernel_rfl) (by kernel_rfl) (by kernel_rfl) (by kernel_rfl) (fun _ _ _ h => h) (Or.inl ⟨by rfl, ?ty21⟩) hS5 ?tr21
    case ty21 =>
      rintro X ⟨s0, s1, s2, s3⟩
      simp only [List.getElem_toArray, List.getElem_cons_zero, List.getElem_cons_succ]
      go_simp
      rfl
    simp only [List.getElem_toArray, List.getElem_cons_zero, List.getElem_cons_succ, Act.put, List.setIfInBounds_toArray, List.set_cons_zero, List.set_cons_succ]
    refine wpAnyM_take (i := 23) (v := ?tv23) rfl (by kernel_rfl) (by kernel_rfl) (by kernel_rfl) (by kernel_rfl) (fun _ _ _ h => h) (Or.inl ⟨by rfl, ?ty23⟩) hS5 ?tr23
    case ty23 =>
      rintro X ⟨s0, s1, s2, s3⟩
      simp only [List.getElem_toArray, List.getElem_cons_zero, List.getElem_cons_succ]
      go_simp
      rfl
    simp only [List.getElem_toArray, List.getElem_cons_zero, List.getElem_cons_succ, Act.put, List.setIfInBounds_toArray, List.set_cons_zero, List.set_cons_succ]
    refine wpAnyM_take (i := 24) (v := ?tv24) rfl (by kernel_rfl) (by kernel_rfl) (by kernel_rfl) (by kernel_rfl) (fun _ _ _ h => h) (Or.inl ⟨by rfl, ?ty24⟩) hS5 ?tr24
    case ty24 =>
      rintro X ⟨s0, s1, s2, s3⟩
      simp only [List.getElem_toArray, List.getElem_cons_zero, List.getElem_cons_succ]
      go_simp
      rfl
    simp only [List.getElem_toArray, List.getElem_cons_zero, List.getElem_cons_succ, Act.put, List.setIfInBounds_toArray, List.set_cons_zero, List.set_cons_succ]
    refine wpAnyM_one (i := 22) (by kernel_rfl) rfl (fun K6 hK6 => ?_)
    simp only [List.getElem_toArray, List.getElem_cons_zero, List.getElem_cons_succ, Act.put, List.setIfInBounds_toArray, List.set_cons_zero, List.set_cons_succ]
    rw [if_pos (by rfl)]
    go_simp
    refine (HD.out.1 _ (HP.out.keep RPj.keeps hB5)).mono ?_
    rintro e' w6 ⟨rfl, hb6⟩
    have hB6 : Below w.heap.size w w6 := hB5.trans (hb6.mono hB5.size)
    have hS6 : w6.cell? ⟨w.heap.size, 0, none⟩ = some (.int .i64 p.loc) ∧ w6.cell? ⟨w.heap.size, 1, none⟩ = some (.slice A p.proj.length c) ∧ w6.cell? ⟨w.heap.size + 1, 0, none⟩ = some (.int .i64 q.loc) ∧ w6.cell? ⟨w.heap.size + 1, 1, none⟩ = some (.slice B q.proj.length d) := ⟨cell_keep hb6 hS5.1, cell_keep hb6 hS5.2.1, cell_keep hb6 hS5.2.2.1, cell_keep hb6 hS5.2.2.2⟩
    refine hK6.out _ _ (fun _ => hS6) ?_
    refine wpAnyM_one (i := 25) (by kernel_rfl) rfl (fun K7 hK7 => ?_)
    simp only [List.getElem_toArray, List.getElem_cons_zero, List.getElem_cons_succ, Act.put, List.setIfInBounds_toArray, List.set_cons_zero, List.set_cons_succ]
    rw [if_pos (by rfl)]
    go_simp
    refine (HD.out.2 _ (HP.out.keep RPj.keeps hB6)).mono ?_
    rintro e' w7 ⟨rfl, hb7⟩
    have hB7 : Below w.heap.size w w7 := hB6.trans (hb7.mono hB6.size)
    have hS7 : w7.cell? ⟨w.heap.size, 0, none⟩ = some (.int .i64 p.loc) ∧ w7.cell? ⟨w.heap.size, 1, none⟩ = some (.slice A p.proj.length c) ∧ w7.cell? ⟨w.heap.size + 1, 0, none⟩ = some (.int .i64 q.loc) ∧ w7.cell? ⟨w.heap.size + 1, 1, none⟩ = some (.slice B q.proj.length d) := ⟨cell_keep hb7 hS6.1, cell_keep hb7 hS6.2.1, cell_keep hb7 hS6.2.2.1, cell_keep hb7 hS6.2.2.2⟩
    refine hK7.out _ _ (fun _ => hS7) ?_
    refine wpAnyM_take (i := 26) (v := ?tv26) rfl (by kernel_rfl) (by kernel_rfl) (by kernel_rfl) (by kernel_rfl) (fun _ _ _ h => h) (Or.inl ⟨by rfl, ?ty26⟩) hS7 ?tr26
    case ty26 =>
      rintro X ⟨s0, s1, s2, s3⟩
      simp only [List.getElem_toArray, List.getElem_cons_zero, List.getElem_cons_succ]
      go_simp
      rfl
    simp only [List.getElem_toArray, List.getElem_cons_zero, List.getElem_cons_succ, Act.put, List.setIfInBounds_toArray, List.set_cons_zero, List.set_cons_succ]
    refine wpAnyM_take (i := 27) (v := ?tv27) rfl (by kernel_rfl) (by kernel_rfl) (by kernel_rfl) (by kernel_rfl) (fun _ _ _ h => h) (Or.inl ⟨by rfl, ?ty27⟩) hS7 ?tr27
    case ty27 =>
      rintro X ⟨s0, s1, s2, s3⟩
      simp only [List.getElem_toArray, List.getElem_cons_zero, List.getElem_cons_succ]
      go_simp
      rfl
    simp only [List.getElem_toArray, List.getElem_cons_zero, List.getElem_cons_succ, Act.put, List.setIfInBounds_toArray, List.set_cons_zero, List.set_cons_succ]
    refine wpAnyM_take (i := 28) (v := ?tv28) rfl (by kernel_rfl) (by kernel_rfl) (by kernel_rfl) (by kernel_rfl) (fun _ _ _ h => h) (Or.inl ⟨by rfl, ?ty28⟩) hS7 ?tr28
    case ty28 =>
      rintro X ⟨s0, s1, s2, s3⟩
      simp only [List.getElem_toArray, List.getElem_cons_zero, List.getElem_cons_succ]
      go_simp
      rfl
    simp only [List.getElem_toArray, List.getElem_cons_zero, List.getElem_cons_succ, Act.put, List.setIfInBounds_toArray, List.set_cons_zero, List.set_cons_succ]
    refine wpAnyM_done (by kernel_rfl) ?_ _
    go_wp2
    go_ret
    exact ⟨rfl, hB7⟩

theorem pre_refl (p : Plc) : isPre p p = true := by simp [isPre]
theorem pre_anti (p q : Plc) : (isPre p q && isPre q p) = decide (p = q) := by
  obtain ⟨l, ps⟩ := p
  obtain ⟨m, qs⟩ := q
  rw [Bool.eq_iff_iff]
  simp only [isPre, Bool.and_eq_true, decide_eq_true_eq, Plc.mk.injEq]
  constructor
  · rintro ⟨⟨h1, h2, h3⟩, _, h5, _⟩
    refine ⟨h1, ?_⟩
    rw [h3, List.take_of_length_le h5]
  · rintro ⟨rfl, rfl⟩
    simp
theorem pre_trans (p q r : Plc) : (!isPre p q || !isPre q r || isPre p r) = true := by
  obtain ⟨l, ps⟩ := p
  obtain ⟨m, qs⟩ := q
  obtain ⟨n, rs⟩ := r
  by_cases h1 : isPre ⟨l, ps⟩ ⟨m, qs⟩ = true
  · by_cases h2 : isPre ⟨m, qs⟩ ⟨n, rs⟩ = true
    · have h3 : isPre ⟨l, ps⟩ ⟨n, rs⟩ = true := by
        simp only [isPre, decide_eq_true_eq] at h1 h2 ⊢
        obtain ⟨a1, a2, a3⟩ := h1
        obtain ⟨e1, e2, e3⟩ := h2
        refine ⟨a1.trans e1, Nat.le_trans a2 e2, ?_⟩
        rw [e3, List.take_take, Nat.min_eq_left a2] at a3
        exact a3
      simp [h3]
    · simp [h2]
  · simp [h1]

set_option maxRecDepth 100000 in
set_option maxHeartbeats 4000000 in
theorem order_any (p q r : Plc) (A B D : Option Addr) (c d g : Nat) (w : World) (hp : Slc 2 RPj w A c p.proj) (hq : Slc 2 RPj w B d q.proj) (hr : Slc 2 RPj w D g r.proj) :
    Calls Try.prog 6 #[.agg #[.int .i64 p.loc, .slice A p.proj.length c], .agg #[.int .i64 q.loc, .slice B q.proj.length d], .agg #[.int .i64 r.loc, .slice D r.proj.length g]] w fun e' w' => e' = .returned (.bool true) ∧ Below w.heap.size w w' := by
  have hple := hp.le
  have hpbig := hp.big
  have hqle := hq.le
  have hqbig := hq.big
  have hrle := hr.le
  have hrbig := hr.big
  have HP := Lib.hid hp
  have HQ := Lib.hid hq
  have HR := Lib.hid hr
  clear hp hq hr
  have l1 := pre_anti p q
  have l2 := pre_trans p q r
  obtain ⟨b1, e1⟩ : ∃ b, isPre p q = b := ⟨_, rfl⟩
  obtain ⟨b2, e2⟩ : ∃ b, isPre q p = b := ⟨_, rfl⟩
  obtain ⟨b3, e3⟩ : ∃ b, isPre q r = b := ⟨_, rfl⟩
  obtain ⟨b4, e4⟩ : ∃ b, isPre p r = b := ⟨_, rfl⟩
  obtain ⟨b5, e5⟩ : ∃ b, decide (p = q) = b := ⟨_, rfl⟩
  have e6 := pre_refl p
  rw [e1, e2, e5] at l1
  rw [e1, e3, e4] at l2
  have H1 : Hid (∀ W : World, Slc 2 RPj W A c p.proj → Slc 2 RPj W B d q.proj → Calls Try.prog 22 #[.agg #[.int .i64 p.loc, .slice A p.proj.length c], .agg #[.int .i64 q.loc, .slice B q.proj.length d]] W fun e' w' => e' = .returned (.bool b1) ∧ Below W.heap.size W w') := Lib.hid (fun W h1 h2 => (e1 ▸ isPre_any p q A B c d W h1 h2))
  have H2 : Hid (∀ W : World, Slc 2 RPj W B d q.proj → Slc 2 RPj W A c p.proj → Calls Try.prog 22 #[.agg #[.int .i64 q.loc, .slice B q.proj.length d], .agg #[.int .i64 p.loc, .slice A p.proj.length c]] W fun e' w' => e' = .returned (.bool b2) ∧ Below W.heap.size W w') := Lib.hid (fun W h1 h2 => (e2 ▸ isPre_any q p B A d c W h1 h2))
  have H3 : Hid (∀ W : World, Slc 2 RPj W B d q.proj → Slc 2 RPj W D g r.proj → Calls Try.prog 22 #[.agg #[.int .i64 q.loc, .slice B q.proj.length d], .agg #[.int .i64 r.loc, .slice D r.proj.length g]] W fun e' w' => e' = .returned (.bool b3) ∧ Below W.heap.size W w') := Lib.hid (fun W h1 h2 => (e3 ▸ isPre_any q r B D d g W h1 h2))
  have H4 : Hid (∀ W : World, Slc 2 RPj W A c p.proj → Slc 2 RPj W D g r.proj → Calls Try.prog 22 #[.agg #[.int .i64 p.loc, .slice A p.proj.length c], .agg #[.int .i64 r.loc, .slice D r.proj.length g]] W fun e' w' => e' = .returned (.bool b4) ∧ Below W.heap.size W w') := Lib.hid (fun W h1 h2 => (e4 ▸ isPre_any p r A D c g W h1 h2))
  have H5 : Hid (∀ W : World, Slc 2 RPj W A c p.proj → Slc 2 RPj W B d q.proj → Calls Try.prog 20 #[.agg #[.int .i64 p.loc, .slice A p.proj.length c], .agg #[.int .i64 q.loc, .slice B q.proj.length d]] W fun e' w' => e' = .returned (.bool b5) ∧ Below W.heap.size W w') := Lib.hid (fun W h1 h2 => (e5 ▸ equal_any p q A B c d W h1 h2))
  have H6 : Hid (∀ W : World, Slc 2 RPj W A c p.proj → Slc 2 RPj W A c p.proj → Calls Try.prog 22 #[.agg #[.int .i64 p.loc, .slice A p.proj.length c], .agg #[.int .i64 p.loc, .slice A p.proj.length c]] W fun e' w' => e' = .returned (.bool true) ∧ Below W.heap.size W w') := Lib.hid (fun W h1 h2 => (e6 ▸ isPre_any p p A A c c W h1 h2))
  have L1 := Lib.hid l1
  have L2 := Lib.hid l2
  clear l1 l2 e1 e2 e3 e4 e5 e6
  go_enter Try.func6, Try.ntmps6
  go_wp2_with (go_at_call 9; refine (alive_any _).mono ?_; rintro e' w1 ⟨rfl, hb1⟩)
  · go_ret
    exact ⟨rfl, ((bel2 w _ _).alloc (by simp; omega) _).trans (hb1.mono (by simp; omega))⟩
  ·
    refine wp_region_m (S := fun X => X.cell? ⟨w.heap.size, 0, none⟩ = some (.int .i64 p.loc) ∧ X.cell? ⟨w.heap.size, 1, none⟩ = some (.slice A p.proj.length c) ∧ X.cell? ⟨w.heap.size + 1, 0, none⟩ = some (.int .i64 q.loc) ∧ X.cell? ⟨w.heap.size + 1, 1, none⟩ = some (.slice B q.proj.length d) ∧ X.cell? ⟨w.heap.size + 1 + 1, 0, none⟩ = some (.int .i64 r.loc) ∧ X.cell? ⟨w.heap.size + 1 + 1, 1, none⟩ = some (.slice D r.proj.length g)) (t := 16) (by kernel_rfl) ?_
    have hB0 : Below w.heap.size w (((w.alloc (.cells #[.int .i64 p.loc, .slice A p.proj.length c] 24)).alloc (.cells #[.int .i64 q.loc, .slice B q.proj.length d] 24)).alloc (.cells #[.int .i64 r.loc, .slice D r.proj.length g] 24)).drew := by (repeat (first | exact Below.refl _ _ | assumption | refine Below.alloc ?_ (by first | omega | (simp; done) | (simp; omega)) _ | refine below_drewN ?_ _ | refine Below.drew ?_ | refine Below.setCell ?_ (by first | omega | (simp; done) | (simp; omega)) _))
    have hS0 : (((w.alloc (.cells #[.int .i64 p.loc, .slice A p.proj.length c] 24)).alloc (.cells #[.int .i64 q.loc, .slice B q.proj.length d] 24)).alloc (.cells #[.int .i64 r.loc, .slice D r.proj.length g] 24)).drew.cell? ⟨w.heap.size, 0, none⟩ = some (.int .i64 p.loc) ∧ (((w.alloc (.cells #[.int .i64 p.loc, .slice A p.proj.length c] 24)).alloc (.cells #[.int .i64 q.loc, .slice B q.proj.length d] 24)).alloc (.cells #[.int .i64 r.loc, .slice D r.proj.length g] 24)).drew.cell? ⟨w.heap.size, 1, none⟩ = some (.slice A p.proj.length c) ∧ (((w.alloc (.cells #[.int .i64 p.loc, .slice A p.proj.length c] 24)).alloc (.cells #[.int .i64 q.loc, .slice B q.proj.length d] 24)).alloc (.cells #[.int .i64 r.loc, .slice D r.proj.length g] 24)).drew.cell? ⟨w.heap.size + 1, 0, none⟩ = some (.int .i64 q.loc) ∧ (((w.alloc (.cells #[.int .i64 p.loc, .slice A p.proj.length c] 24)).alloc (.cells #[.int .i64 q.loc, .slice B q.proj.length d] 24)).alloc (.cells #[.int .i64 r.loc, .slice D r.proj.length g] 24)).drew.cell? ⟨w.heap.size + 1, 1, none⟩ = some (.slice B q.proj.length d) ∧ (((w.alloc (.cells #[.int .i64 p.loc, .slice A p.proj.length c] 24)).alloc (.cells #[.int .i64 q.loc, .slice B q.proj.length d] 24)).alloc (.cells #[.int .i64 r.loc, .slice D r.proj.length g] 24)).drew.cell? ⟨w.heap.size + 1 + 1, 0, none⟩ = some (.int .i64 r.loc) ∧ (((w.alloc (.cells #[.int .i64 p.loc, .slice A p.proj.length c] 24)).alloc (.cells #[.int .i64 q.loc, .slice B q.proj.length d] 24)).alloc (.cells #[.int .i64 r.loc, .slice D r.proj.length g] 24)).drew.cell? ⟨w.heap.size + 1 + 1, 1, none⟩ = some (.slice D r.proj.length g) := by go_simp
    refine wpAnyM_take (i := 0) (v := ?tv0) rfl (by kernel_rfl) (by kernel_rfl) (by kernel_rfl) (by kernel_rfl) (fun _ _ _ h => h) (Or.inl ⟨by rfl, ?ty0⟩) hS0 ?tr0
    case ty0 =>
      rintro X ⟨s0, s1, s2, s3, s4, s5⟩
      simp only [List.getElem_toArray, List.getElem_cons_zero, List.getElem_cons_succ]
      go_simp
      rfl
    simp only [List.getElem_toArray, List.getElem_cons_zero, List.getElem_cons_succ, Act.put, List.setIfInBounds_toArray, List.set_cons_zero, List.set_cons_succ]
    refine wpAnyM_take (i := 1) (v := ?tv1) rfl (by kernel_rfl) (by kernel_rfl) (by kernel_rfl) (by kernel_rfl) (fun _ _ _ h => h) (Or.inl ⟨by rfl, ?ty1⟩) hS0 ?tr1
    case ty1 =>
      rintro X ⟨s0, s1, s2, s3, s4, s5⟩
      simp only [List.getElem_toArray, List.getElem_cons_zero, List.getElem_cons_succ]
      go_simp
      rfl
    simp only [List.getElem_toArray, List.getElem_cons_zero, List.getElem_cons_succ, Act.put, List.setIfInBounds_toArray, List.set_cons_zero, List.set_cons_succ]
    refine wpAnyM_take (i := 3) (v := ?tv3) rfl (by kernel_rfl) (by kernel_rfl) (by kernel_rfl) (by kernel_rfl) (fun _ _ _ h => h) (Or.inl ⟨by rfl, ?ty3⟩) hS0 ?tr3
    case ty3 =>
      rintro X ⟨s0, s1, s2, s3, s4, s5⟩
      simp only [List.getElem_toArray, List.getElem_cons_zero, List.getElem_cons_succ]
      go_simp
      rfl
    simp only [List.getElem_toArray, List.getElem_cons_zero, List.getElem_cons_succ, Act.put, List.setIfInBounds_toArray, List.set_cons_zero, List.set_cons_succ]
    refine wpAnyM_take (i := 4) (v := ?tv4) rfl (by kernel_rfl) (by kernel_rfl) (by kernel_rfl) (by kernel_rfl) (fun _ _ _ h => h) (Or.inl ⟨by rfl, ?ty4⟩) hS0 ?tr4
    case ty4 =>
      rintro X ⟨s0, s1, s2, s3, s4, s5⟩
      simp only [List.getElem_toArray, List.getElem_cons_zero, List.getElem_cons_succ]
      go_simp
      rfl
    simp only [List.getElem_toArray, List.getElem_cons_zero, List.getElem_cons_succ, Act.put, List.setIfInBounds_toArray, List.set_cons_zero, List.set_cons_succ]
    refine wpAnyM_take (i := 6) (v := ?tv6) rfl (by kernel_rfl) (by kernel_rfl) (by kernel_rfl) (by kernel_rfl) (fun _ _ _ h => h) (Or.inl ⟨by rfl, ?ty6⟩) hS0 ?tr6
    case ty6 =>
      rintro X ⟨s0, s1, s2, s3, s4, s5⟩
      simp only [List.getElem_toArray, List.getElem_cons_zero, List.getElem_cons_succ]
      go_simp
      rfl
    simp only [List.getElem_toArray, List.getElem_cons_zero, List.getElem_cons_succ, Act.put, List.setIfInBounds_toArray, List.set_cons_zero, List.set_cons_succ]
    refine wpAnyM_take (i := 7) (v := ?tv7) rfl (by kernel_rfl) (by kernel_rfl) (by kernel_rfl) (by kernel_rfl) (fun _ _ _ h => h) (Or.inl ⟨by rfl, ?ty7⟩) hS0 ?tr7
    case ty7 =>
      rintro X ⟨s0, s1, s2, s3, s4, s5⟩
      simp only [List.getElem_toArray, List.getElem_cons_zero, List.getElem_cons_succ]
      go_simp
      rfl
    simp only [List.getElem_toArray, List.getElem_cons_zero, List.getElem_cons_succ, Act.put, List.setIfInBounds_toArray, List.set_cons_zero, List.set_cons_succ]
    refine wpAnyM_take (i := 9) (v := ?tv9) rfl (by kernel_rfl) (by kernel_rfl) (by kernel_rfl) (by kernel_rfl) (fun _ _ _ h => h) (Or.inl ⟨by rfl, ?ty9⟩) hS0 ?tr9
    case ty9 =>
      rintro X ⟨s0, s1, s2, s3, s4, s5⟩
      simp only [List.getElem_toArray, List.getElem_cons_zero, List.getElem_cons_succ]
      go_simp
      rfl
    simp only [List.getElem_toArray, List.getElem_cons_zero, List.getElem_cons_succ, Act.put, List.setIfInBounds_toArray, List.set_cons_zero, List.set_cons_succ]
    refine wpAnyM_take (i := 10) (v := ?tv10) rfl (by kernel_rfl) (by kernel_rfl) (by kernel_rfl) (by kernel_rfl) (fun _ _ _ h => h) (Or.inl ⟨by rfl, ?ty10⟩) hS0 ?tr10
    case ty10 =>
      rintro X ⟨s0, s1, s2, s3, s4, s5⟩
      simp only [List.getElem_toArray, List.getElem_cons_zero, List.getElem_cons_succ]
      go_simp
      rfl
    simp only [List.getElem_toArray, List.getElem_cons_zero, List.getElem_cons_succ, Act.put, List.setIfInBounds_toArray, List.set_cons_zero, List.set_cons_succ]
    refine wpAnyM_one (i := 2) (by kernel_rfl) rfl (fun K1 hK1 => ?_)
    simp only [List.getElem_toArray, List.getElem_cons_zero, List.getElem_cons_succ, Act.put, List.setIfInBounds_toArray, List.set_cons_zero, List.set_cons_succ]
    rw [if_pos (by rfl)]
    go_simp
    refine (H1.out _ (HP.out.keep RPj.keeps hB0) (HQ.out.keep RPj.keeps hB0)).mono ?_
    rintro e' w1 ⟨rfl, hb1⟩
    have hB1 : Below w.heap.size w w1 := hB0.trans (hb1.mono hB0.size)
    have hS1 : w1.cell? ⟨w.heap.size, 0, none⟩ = some (.int .i64 p.loc) ∧ w1.cell? ⟨w.heap.size, 1, none⟩ = some (.slice A p.proj.length c) ∧ w1.cell? ⟨w.heap.size + 1, 0, none⟩ = some (.int .i64 q.loc) ∧ w1.cell? ⟨w.heap.size + 1, 1, none⟩ = some (.slice B q.proj.length d) ∧ w1.cell? ⟨w.heap.size + 1 + 1, 0, none⟩ = some (.int .i64 r.loc) ∧ w1.cell? ⟨w.heap.size + 1 + 1, 1, none⟩ = some (.slice D r.proj.length g) := ⟨cell_keep hb1 hS0.1, cell_keep hb1 hS0.2.1, cell_keep hb1 hS0.2.2.1, cell_keep hb1 hS0.2.2.2.1, cell_keep hb1 hS0.2.2.2.2.1, cell_keep hb1 hS0.2.2.2.2.2⟩
    refine hK1.out _ _ (fun _ => hS1) ?_
    refine wpAnyM_one (i := 5) (by kernel_rfl) rfl (fun K2 hK2 => ?_)
    simp only [List.getElem_toArray, List.getElem_cons_zero, List.getElem_cons_succ, Act.put, List.setIfInBounds_toArray, List.set_cons_zero, List.set_cons_succ]
    rw [if_pos (by rfl)]
    go_simp
    refine (H2.out _ (HQ.out.keep RPj.keeps hB1) (HP.out.keep RPj.keeps hB1)).mono ?_
    rintro e' w2 ⟨rfl, hb2⟩
    have hB2 : Below w.heap.size w w2 := hB1.trans (hb2.mono hB1.size)
    have hS2 : w2.cell? ⟨w.heap.size, 0, none⟩ = some (.int .i64 p.loc) ∧ w2.cell? ⟨w.heap.size, 1, none⟩ = some (.slice A p.proj.length c) ∧ w2.cell? ⟨w.heap.size + 1, 0, none⟩ = some (.int .i64 q.loc) ∧ w2.cell? ⟨w.heap.size + 1, 1, none⟩ = some (.slice B q.proj.length d) ∧ w2.cell? ⟨w.heap.size + 1 + 1, 0, none⟩ = some (.int .i64 r.loc) ∧ w2.cell? ⟨w.heap.size + 1 + 1, 1, none⟩ = some (.slice D r.proj.length g) := ⟨cell_keep hb2 hS1.1, cell_keep hb2 hS1.2.1, cell_keep hb2 hS1.2.2.1, cell_keep hb2 hS1.2.2.2.1, cell_keep hb2 hS1.2.2.2.2.1, cell_keep hb2 hS1.2.2.2.2.2⟩
    refine hK2.out _ _ (fun _ => hS2) ?_
    refine wpAnyM_one (i := 8) (by kernel_rfl) rfl (fun K3 hK3 => ?_)
    simp only [List.getElem_toArray, List.getElem_cons_zero, List.getElem_cons_succ, Act.put, List.setIfInBounds_toArray, List.set_cons_zero, List.set_cons_succ]
    rw [if_pos (by rfl)]
    go_simp
    refine (H3.out _ (HQ.out.keep RPj.keeps hB2) (HR.out.keep RPj.keeps hB2)).mono ?_
    rintro e' w3 ⟨rfl, hb3⟩
    have hB3 : Below w.heap.size w w3 := hB2.trans (hb3.mono hB2.size)
    have hS3 : w3.cell? ⟨w.heap.size, 0, none⟩ = some (.int .i64 p.loc) ∧ w3.cell? ⟨w.heap.size, 1, none⟩ = some (.slice A p.proj.length c) ∧ w3.cell? ⟨w.heap.size + 1, 0, none⟩ = some (.int .i64 q.loc) ∧ w3.cell? ⟨w.heap.size + 1, 1, none⟩ = some (.slice B q.proj.length d) ∧ w3.cell? ⟨w.heap.size + 1 + 1, 0, none⟩ = some (.int .i64 r.loc) ∧ w3.cell? ⟨w.heap.size + 1 + 1, 1, none⟩ = some (.slice D r.proj.length g) := ⟨cell_keep hb3 hS2.1, cell_keep hb3 hS2.2.1, cell_keep hb3 hS2.2.2.1, cell_keep hb3 hS2.2.2.2.1, cell_keep hb3 hS2.2.2.2.2.1, cell_keep hb3 hS2.2.2.2.2.2⟩
    refine hK3.out _ _ (fun _ => hS3) ?_
    refine wpAnyM_one (i := 11) (by kernel_rfl) rfl (fun K4 hK4 => ?_)
    simp only [List.getElem_toArray, List.getElem_cons_zero, List.getElem_cons_succ, Act.put, List.setIfInBounds_toArray, List.set_cons_zero, List.set_cons_succ]
    rw [if_pos (by rfl)]
    go_simp
    refine (H4.out _ (HP.out.keep RPj.keeps hB3) (HR.out.keep RPj.keeps hB3)).mono ?_
    rintro e' w4 ⟨rfl, hb4⟩
    have hB4 : Below w.heap.size w w4 := hB3.trans (hb4.mono hB3.size)
    have hS4 : w4.cell? ⟨w.heap.size, 0, none⟩ = some (.int .i64 p.loc) ∧ w4.cell? ⟨w.heap.size, 1, none⟩ = some (.slice A p.proj.length c) ∧ w4.cell? ⟨w.heap.size + 1, 0, none⟩ = some (.int .i64 q.loc) ∧ w4.cell? ⟨w.heap.size + 1, 1, none⟩ = some (.slice B q.proj.length d) ∧ w4.cell? ⟨w.heap.size + 1 + 1, 0, none⟩ = some (.int .i64 r.loc) ∧ w4.cell? ⟨w.heap.size + 1 + 1, 1, none⟩ = some (.slice D r.proj.length g) := ⟨cell_keep hb4 hS3.1, cell_keep hb4 hS3.2.1, cell_keep hb4 hS3.2.2.1, cell_keep hb4 hS3.2.2.2.1, cell_keep hb4 hS3.2.2.2.2.1, cell_keep hb4 hS3.2.2.2.2.2⟩
    refine hK4.out _ _ (fun _ => hS4) ?_
    refine wpAnyM_take (i := 12) (v := ?tv12) rfl (by kernel_rfl) (by kernel_rfl) (by kernel_rfl) (by kernel_rfl) (fun _ _ _ h => h) (Or.inl ⟨by rfl, ?ty12⟩) hS4 ?tr12
    case ty12 =>
      rintro X ⟨s0, s1, s2, s3, s4, s5⟩
      simp only [List.getElem_toArray, List.getElem_cons_zero, List.getElem_cons_succ]
      go_simp
      rfl
    simp only [List.getElem_toArray, List.getElem_cons_zero, List.getElem_cons_succ, Act.put, List.setIfInBounds_toArray, List.set_cons_zero, List.set_cons_succ]
    refine wpAnyM_take (i := 13) (v := ?tv13) rfl (by kernel_rfl) (by kernel_rfl) (by kernel_rfl) (by kernel_rfl) (fun _ _ _ h => h) (Or.inl ⟨by rfl, ?ty13⟩) hS4 ?tr13
    case ty13 =>
      rintro X ⟨s0, s1, s2, s3, s4, s5⟩
      simp only [List.getElem_toArray, List.getElem_cons_zero, List.getElem_cons_succ]
      go_simp
      rfl
    simp only [List.getElem_toArray, List.getElem_cons_zero, List.getElem_cons_succ, Act.put, List.setIfInBounds_toArray, List.set_cons_zero, List.set_cons_succ]
    refine wpAnyM_take (i := 14) (v := ?tv14) rfl (by kernel_rfl) (by kernel_rfl) (by kernel_rfl) (by kernel_rfl) (fun _ _ _ h => h) (Or.inl ⟨by rfl, ?ty14⟩) hS4 ?tr14
    case ty14 =>
      rintro X ⟨s0, s1, s2, s3, s4, s5⟩
      simp only [List.getElem_toArray, List.getElem_cons_zero, List.getElem_cons_succ]
      go_simp
      rfl
    simp only [List.getElem_toArray, List.getElem_cons_zero, List.getElem_cons_succ, Act.put, List.setIfInBounds_toArray, List.set_cons_zero, List.set_cons_succ]
    refine wpAnyM_take (i := 15) (v := ?tv15) rfl (by kernel_rfl) (by kernel_rfl) (by kernel_rfl) (by kernel_rfl) (fun _ _ _ h => h) (Or.inl ⟨by rfl, ?ty15⟩) hS4 ?tr15
    case ty15 =>
      rintro X ⟨s0, s1, s2, s3, s4, s5⟩
      simp only [List.getElem_toArray, List.getElem_cons_zero, List.getElem_cons_succ]
      go_simp
      rfl
    simp only [List.getElem_toArray, List.getElem_cons_zero, List.getElem_cons_succ, Act.put, List.setIfInBounds_toArray, List.set_cons_zero, List.set_cons_succ]
    refine wpAnyM_done (by kernel_rfl) ?_ _
    have hp1 := hS4.1
    have hp2 := hS4.2.1
    have hp3 := hS4.2.2.1
    have hp4 := hS4.2.2.2.1
    have HB4 := Lib.hid hB4
    clear H1 H2 H3 H4 hS0 hS1 hS2 hS3 hS4 hK1 hK2 hK3 hK4 hb1 hb2 hb3 hb4 hB0 hB1 hB2 hB3 hB4
    cases b1 <;> cases b2 <;> cases b3 <;> cases b4 <;> cases b5 <;> (first | (exfalso; have := L1.out; have := L2.out; simp_all; done) | skip)
    all_goals
      clear L1 L2
      go_wp2_with (first
        | (go_at_call 9; refine (alive_any _).mono ?_; rintro e' w5 ⟨rfl, hb5⟩; have hB5 := Lib.hid (HB4.out.trans (hb5.mono HB4.out.size)); replace hp1 := cell_keep hb5 hp1; replace hp2 := cell_keep hb5 hp2; replace hp3 := cell_keep hb5 hp3; replace hp4 := cell_keep hb5 hp4; clear hb5)
        | (go_at_call 22; refine (H6.out _ (HP.out.keep RPj.keeps hB5.out) (HP.out.keep RPj.keeps hB5.out)).mono ?_; rintro e' w6 ⟨rfl, hb6⟩; have hB6 := Lib.hid (hB5.out.trans (hb6.mono hB5.out.size)); replace hp1 := cell_keep hb6 hp1; replace hp2 := cell_keep hb6 hp2; replace hp3 := cell_keep hb6 hp3; replace hp4 := cell_keep hb6 hp4; clear hb6)
        | (go_at_call 20; refine (H5.out _ (HP.out.keep RPj.keeps hB6.out) (HQ.out.keep RPj.keeps hB6.out)).mono ?_; rintro e' w7 ⟨rfl, hb7⟩; have hB7 := Lib.hid (hB6.out.trans (hb7.mono hB6.out.size)); clear hb7))
      go_ret
      exact ⟨rfl, hB7.out⟩

end Go.Proofs.Ytmfdppgfbgjmcaa
