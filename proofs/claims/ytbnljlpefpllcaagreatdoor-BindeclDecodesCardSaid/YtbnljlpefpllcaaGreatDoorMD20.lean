/-
  Parts of the proof: V38N V38O V38E V39I V39C V39D V39O V39E V40.
-/
import Derived.Test.YtbnljlpefpllcaaGreatDoorMD18
import Derived.Test.YtbnljlpefpllcaaGreatDoorMD5
import Derived.Test.YtbnljlpefpllcaaGreatDoorMD17
import Derived.Test.YtbnljlpefpllcaaGreatDoorMD19
namespace Go.Proofs.YtbnljlpefpllcaaGreatDoor
open Go Go.RowKit Go.Maps
set_option maxRecDepth 100000 in
set_option maxHeartbeats 16000000 in
theorem stmt_nop {b : Bdy} {bh : BH} {r : Nat} {w : World} (H : Ck w b bh r) (hT : TabsOk w) (s : Stm) (A0 A B : Option Addr) (c0 c d : Nat) (hp0 : Slc 2 RPj w A0 c0 s.place.proj) (hp : Slc 2 RPj w A c s.rv.place.proj) (hl : Slc 4 ROp w B d s.rv.args) (hk : s.kind = 2) :
    Calls Tryz.prog 79 #[.agg (ckC b bh r).toArray, .agg (stC s A0 c0 A c B d).toArray] w fun e' w' => e' = .returned (.int .i64 (stE b s)) ∧ Below w.heap.size w w' := by
  have HZZ := Lib.hid zero_any
  have HH := Lib.hid H
  have HT := Lib.hid hT
  have HP0 := Lib.hid hp0
  have HP := Lib.hid hp
  have HL := Lib.hid hl
  have hle := hl.le
  have hbig := hl.big
  have hlocl := H.at_.loc.le
  have hlocb := H.at_.loc.big
  obtain ⟨R, hR⟩ : ∃ R, stE b s = R := ⟨_, rfl⟩
  rw [hR]
  have HR := Lib.hid hR
  obtain ⟨q1, hq1⟩ : ∃ q, zeroP s.place = q := ⟨_, rfl⟩
  obtain ⟨q2, hq2⟩ : ∃ q, (s.rv.kind == 0) = q := ⟨_, rfl⟩
  obtain ⟨q3, hq3⟩ : ∃ q, (s.rv.op == 0) = q := ⟨_, rfl⟩
  obtain ⟨q4, hq4⟩ : ∃ q, ((s.rv.args.length : Int) == 0) = q := ⟨_, rfl⟩
  obtain ⟨q5, hq5⟩ : ∃ q, (s.rv.reg == 0) = q := ⟨_, rfl⟩
  obtain ⟨q6, hq6⟩ : ∃ q, s.rv.mu = q := ⟨_, rfl⟩
  obtain ⟨q7, hq7⟩ : ∃ q, zeroP s.rv.place = q := ⟨_, rfl⟩
  have HBL : Hid (blankR s.rv = (q2 && q3 && q4 && q5 && !q6 && q7)) := Lib.hid (by
    unfold blankR
    rw [← hq2, ← hq3, ← hq4, ← hq5, ← hq6, ← hq7, nat_beq0]
    rfl)
  have HQ1 := Lib.hid hq1
  have HQ7 := Lib.hid hq7
  have HQ2 := Lib.hid hq2
  have HQ3 := Lib.hid hq3
  have HQ4 := Lib.hid hq4
  have HQ5 := Lib.hid hq5
  have HQ6 := Lib.hid hq6
  clear hq1 hq2 hq3 hq4 hq5 hq7
  have HF0 : Hid (R = if q1 = false ∨ (q2 && q3 && q4 && q5 && !q6 && q7) = false ∨ s.loc ≠ 0 then 2 else 0) := Lib.hid (by rw [← HR.out, stE, if_neg (by omega), if_neg (by omega), if_pos hk, HBL.out, HQ1.out])
  clear HBL
  clear HR hR H hT hp0 hp hl
  by_cases hall : q1 = true ∧ q2 = true ∧ q3 = true ∧ q4 = true ∧ q5 = true ∧ q6 = false
  · obtain ⟨rfl, rfl, rfl, rfl, rfl, rfl⟩ := hall
    cases q7
    · have HF : Hid (R = 2) := Lib.hid (by rw [HF0.out]; simp)
      clear HF0
      have g2 := HQ2.out
      have g3 := HQ3.out
      have g4 := HQ4.out
      have g5 := HQ5.out
      have g6 := HQ6.out
      unfold ckC at *
      unfold stC
      rw [hk]
      go_enter Tryz.func79, Tryz.ntmps79
      go_wp2_with (first | (go_at_call 124; refine (HZZ.out _ _ _ _).mono ?_; rintro e' w2 ⟨rfl, hb2⟩; rw [HQ7.out]; have HB2 := Lib.hid (HB.out.trans (hb2.mono HB.out.size)); have HY2 := Lib.hid (cells_kept HY.out hb2); have HZ3 := Lib.hid (cells_kept HZ.out hb2); have HU2 := Lib.hid (cells_kept HU.out hb2); clear y0 y1 y2 y3 y4 y5 y6 y7 z0 z1 z2 z10 u0 u1 u2 u3 u4 u5 u6 HY HZ HU HB; have HB := HB2; have HY := HY2; have HZ := HZ3; have HU := HU2; have y0 := HY.out 0 _ rfl; have y1 := HY.out 1 _ rfl; have y2 := HY.out 2 _ rfl; have y3 := HY.out 3 _ rfl; have y4 := HY.out 4 _ rfl; have y5 := HY.out 5 _ rfl; have y6 := HY.out 6 _ rfl; have y7 := HY.out 7 _ rfl; have z0 := HZ.out 0 _ rfl; have z1 := HZ.out 1 _ rfl; have z2 := HZ.out 2 _ rfl; have z10 := HZ.out 10 _ rfl; have u0 := HU.out 0 _ rfl; have u1 := HU.out 1 _ rfl; have u2 := HU.out 2 _ rfl; have u3 := HU.out 3 _ rfl; have u4 := HU.out 4 _ rfl; have u5 := HU.out 5 _ rfl; have u6 := HU.out 6 _ rfl; clear hb2 HB2 HY2 HZ3 HU2) | (go_at_call 124; refine (HZZ.out _ _ _ _).mono ?_; rintro e' w1 ⟨rfl, hb1⟩; rw [HQ1.out]; have HB := Lib.hid ((bel3 _ _ _ _).trans (hb1.mono (bel3 _ _ _ _).size)); obtain ⟨y, z, u⟩ := cells_three hb1; have HY := Lib.hid y; have HZ := Lib.hid z; have HU := Lib.hid u; have y0 := HY.out 0 _ rfl; have y1 := HY.out 1 _ rfl; have y2 := HY.out 2 _ rfl; have y3 := HY.out 3 _ rfl; have y4 := HY.out 4 _ rfl; have y5 := HY.out 5 _ rfl; have y6 := HY.out 6 _ rfl; have y7 := HY.out 7 _ rfl; have z0 := HZ.out 0 _ rfl; have z1 := HZ.out 1 _ rfl; have z2 := HZ.out 2 _ rfl; have z10 := HZ.out 10 _ rfl; have u0 := HU.out 0 _ rfl; have u1 := HU.out 1 _ rfl; have u2 := HU.out 2 _ rfl; have u3 := HU.out 3 _ rfl; have u4 := HU.out 4 _ rfl; have u5 := HU.out 5 _ rfl; have u6 := HU.out 6 _ rfl; clear y z u hb1))
      all_goals first
        | (exfalso; omega)
        | (go_ret; exact ⟨by rw [HF.out]; rfl, HB.out⟩)
    by_cases hlo : s.loc ≠ 0
    · have HF : Hid (R = 2) := Lib.hid (by rw [HF0.out]; simp [hlo]; try omega)
      have e5 : (s.loc != 0) = true := by simp [hlo]
      clear HF0
      have g2 := HQ2.out
      have g3 := HQ3.out
      have g4 := HQ4.out
      have g5 := HQ5.out
      have g6 := HQ6.out
      unfold ckC at *
      unfold stC
      rw [hk]
      go_enter Tryz.func79, Tryz.ntmps79
      go_wp2_with (first | (go_at_call 124; refine (HZZ.out _ _ _ _).mono ?_; rintro e' w2 ⟨rfl, hb2⟩; rw [HQ7.out]; have HB2 := Lib.hid (HB.out.trans (hb2.mono HB.out.size)); have HY2 := Lib.hid (cells_kept HY.out hb2); have HZ3 := Lib.hid (cells_kept HZ.out hb2); have HU2 := Lib.hid (cells_kept HU.out hb2); clear y0 y1 y2 y3 y4 y5 y6 y7 z0 z1 z2 z10 u0 u1 u2 u3 u4 u5 u6 HY HZ HU HB; have HB := HB2; have HY := HY2; have HZ := HZ3; have HU := HU2; have y0 := HY.out 0 _ rfl; have y1 := HY.out 1 _ rfl; have y2 := HY.out 2 _ rfl; have y3 := HY.out 3 _ rfl; have y4 := HY.out 4 _ rfl; have y5 := HY.out 5 _ rfl; have y6 := HY.out 6 _ rfl; have y7 := HY.out 7 _ rfl; have z0 := HZ.out 0 _ rfl; have z1 := HZ.out 1 _ rfl; have z2 := HZ.out 2 _ rfl; have z10 := HZ.out 10 _ rfl; have u0 := HU.out 0 _ rfl; have u1 := HU.out 1 _ rfl; have u2 := HU.out 2 _ rfl; have u3 := HU.out 3 _ rfl; have u4 := HU.out 4 _ rfl; have u5 := HU.out 5 _ rfl; have u6 := HU.out 6 _ rfl; clear hb2 HB2 HY2 HZ3 HU2) | (go_at_call 124; refine (HZZ.out _ _ _ _).mono ?_; rintro e' w1 ⟨rfl, hb1⟩; rw [HQ1.out]; have HB := Lib.hid ((bel3 _ _ _ _).trans (hb1.mono (bel3 _ _ _ _).size)); obtain ⟨y, z, u⟩ := cells_three hb1; have HY := Lib.hid y; have HZ := Lib.hid z; have HU := Lib.hid u; have y0 := HY.out 0 _ rfl; have y1 := HY.out 1 _ rfl; have y2 := HY.out 2 _ rfl; have y3 := HY.out 3 _ rfl; have y4 := HY.out 4 _ rfl; have y5 := HY.out 5 _ rfl; have y6 := HY.out 6 _ rfl; have y7 := HY.out 7 _ rfl; have z0 := HZ.out 0 _ rfl; have z1 := HZ.out 1 _ rfl; have z2 := HZ.out 2 _ rfl; have z10 := HZ.out 10 _ rfl; have u0 := HU.out 0 _ rfl; have u1 := HU.out 1 _ rfl; have u2 := HU.out 2 _ rfl; have u3 := HU.out 3 _ rfl; have u4 := HU.out 4 _ rfl; have u5 := HU.out 5 _ rfl; have u6 := HU.out 6 _ rfl; clear y z u hb1))
      all_goals first
        | (exfalso; omega)
        | (go_ret; exact ⟨by rw [HF.out]; rfl, HB.out⟩)
    · have HF : Hid (R = 0) := Lib.hid (by rw [HF0.out]; simp [hlo]; try omega)
      have e5 : (s.loc != 0) = false := by simpa using hlo
      clear HF0
      have g2 := HQ2.out
      have g3 := HQ3.out
      have g4 := HQ4.out
      have g5 := HQ5.out
      have g6 := HQ6.out
      unfold ckC at *
      unfold stC
      rw [hk]
      go_enter Tryz.func79, Tryz.ntmps79
      go_wp2_with (first | (go_at_call 124; refine (HZZ.out _ _ _ _).mono ?_; rintro e' w2 ⟨rfl, hb2⟩; rw [HQ7.out]; have HB2 := Lib.hid (HB.out.trans (hb2.mono HB.out.size)); have HY2 := Lib.hid (cells_kept HY.out hb2); have HZ3 := Lib.hid (cells_kept HZ.out hb2); have HU2 := Lib.hid (cells_kept HU.out hb2); clear y0 y1 y2 y3 y4 y5 y6 y7 z0 z1 z2 z10 u0 u1 u2 u3 u4 u5 u6 HY HZ HU HB; have HB := HB2; have HY := HY2; have HZ := HZ3; have HU := HU2; have y0 := HY.out 0 _ rfl; have y1 := HY.out 1 _ rfl; have y2 := HY.out 2 _ rfl; have y3 := HY.out 3 _ rfl; have y4 := HY.out 4 _ rfl; have y5 := HY.out 5 _ rfl; have y6 := HY.out 6 _ rfl; have y7 := HY.out 7 _ rfl; have z0 := HZ.out 0 _ rfl; have z1 := HZ.out 1 _ rfl; have z2 := HZ.out 2 _ rfl; have z10 := HZ.out 10 _ rfl; have u0 := HU.out 0 _ rfl; have u1 := HU.out 1 _ rfl; have u2 := HU.out 2 _ rfl; have u3 := HU.out 3 _ rfl; have u4 := HU.out 4 _ rfl; have u5 := HU.out 5 _ rfl; have u6 := HU.out 6 _ rfl; clear hb2 HB2 HY2 HZ3 HU2) | (go_at_call 124; refine (HZZ.out _ _ _ _).mono ?_; rintro e' w1 ⟨rfl, hb1⟩; rw [HQ1.out]; have HB := Lib.hid ((bel3 _ _ _ _).trans (hb1.mono (bel3 _ _ _ _).size)); obtain ⟨y, z, u⟩ := cells_three hb1; have HY := Lib.hid y; have HZ := Lib.hid z; have HU := Lib.hid u; have y0 := HY.out 0 _ rfl; have y1 := HY.out 1 _ rfl; have y2 := HY.out 2 _ rfl; have y3 := HY.out 3 _ rfl; have y4 := HY.out 4 _ rfl; have y5 := HY.out 5 _ rfl; have y6 := HY.out 6 _ rfl; have y7 := HY.out 7 _ rfl; have z0 := HZ.out 0 _ rfl; have z1 := HZ.out 1 _ rfl; have z2 := HZ.out 2 _ rfl; have z10 := HZ.out 10 _ rfl; have u0 := HU.out 0 _ rfl; have u1 := HU.out 1 _ rfl; have u2 := HU.out 2 _ rfl; have u3 := HU.out 3 _ rfl; have u4 := HU.out 4 _ rfl; have u5 := HU.out 5 _ rfl; have u6 := HU.out 6 _ rfl; clear y z u hb1))
      all_goals first
        | (exfalso; omega)
        | (go_ret; exact ⟨by rw [HF.out]; rfl, HB.out⟩)
  · have HF : Hid (R = 2) := Lib.hid (by rw [HF0.out, if_pos]; revert hall; cases q1 <;> cases q2 <;> cases q3 <;> cases q4 <;> cases q5 <;> cases q6 <;> simp)
    clear HF0
    rcases (show q1 = false ∨ (q1 = true ∧ q2 = false) ∨ (q1 = true ∧ q2 = true ∧ q3 = false) ∨ (q1 = true ∧ q2 = true ∧ q3 = true ∧ q4 = false) ∨ (q1 = true ∧ q2 = true ∧ q3 = true ∧ q4 = true ∧ q5 = false) ∨ (q1 = true ∧ q2 = true ∧ q3 = true ∧ q4 = true ∧ q5 = true ∧ q6 = true) by revert hall; cases q1 <;> cases q2 <;> cases q3 <;> cases q4 <;> cases q5 <;> cases q6 <;> simp) with rfl | ⟨rfl, rfl⟩ | ⟨rfl, rfl, rfl⟩ | ⟨rfl, rfl, rfl, rfl⟩ | ⟨rfl, rfl, rfl, rfl, rfl⟩ | ⟨rfl, rfl, rfl, rfl, rfl, rfl⟩
    all_goals
      clear hall
      have g2 := HQ2.out
      have g3 := HQ3.out
      have g4 := HQ4.out
      have g5 := HQ5.out
      have g6 := HQ6.out
      unfold ckC at *
      unfold stC
      rw [hk]
      go_enter Tryz.func79, Tryz.ntmps79
      go_wp2_with (first | (go_at_call 124; refine (HZZ.out _ _ _ _).mono ?_; rintro e' w2 ⟨rfl, hb2⟩; rw [HQ7.out]; have HB2 := Lib.hid (HB.out.trans (hb2.mono HB.out.size)); have HY2 := Lib.hid (cells_kept HY.out hb2); have HZ3 := Lib.hid (cells_kept HZ.out hb2); have HU2 := Lib.hid (cells_kept HU.out hb2); clear y0 y1 y2 y3 y4 y5 y6 y7 z0 z1 z2 z10 u0 u1 u2 u3 u4 u5 u6 HY HZ HU HB; have HB := HB2; have HY := HY2; have HZ := HZ3; have HU := HU2; have y0 := HY.out 0 _ rfl; have y1 := HY.out 1 _ rfl; have y2 := HY.out 2 _ rfl; have y3 := HY.out 3 _ rfl; have y4 := HY.out 4 _ rfl; have y5 := HY.out 5 _ rfl; have y6 := HY.out 6 _ rfl; have y7 := HY.out 7 _ rfl; have z0 := HZ.out 0 _ rfl; have z1 := HZ.out 1 _ rfl; have z2 := HZ.out 2 _ rfl; have z10 := HZ.out 10 _ rfl; have u0 := HU.out 0 _ rfl; have u1 := HU.out 1 _ rfl; have u2 := HU.out 2 _ rfl; have u3 := HU.out 3 _ rfl; have u4 := HU.out 4 _ rfl; have u5 := HU.out 5 _ rfl; have u6 := HU.out 6 _ rfl; clear hb2 HB2 HY2 HZ3 HU2) | (go_at_call 124; refine (HZZ.out _ _ _ _).mono ?_; rintro e' w1 ⟨rfl, hb1⟩; rw [HQ1.out]; have HB := Lib.hid ((bel3 _ _ _ _).trans (hb1.mono (bel3 _ _ _ _).size)); obtain ⟨y, z, u⟩ := cells_three hb1; have HY := Lib.hid y; have HZ := Lib.hid z; have HU := Lib.hid u; have y0 := HY.out 0 _ rfl; have y1 := HY.out 1 _ rfl; have y2 := HY.out 2 _ rfl; have y3 := HY.out 3 _ rfl; have y4 := HY.out 4 _ rfl; have y5 := HY.out 5 _ rfl; have y6 := HY.out 6 _ rfl; have y7 := HY.out 7 _ rfl; have z0 := HZ.out 0 _ rfl; have z1 := HZ.out 1 _ rfl; have z2 := HZ.out 2 _ rfl; have z10 := HZ.out 10 _ rfl; have u0 := HU.out 0 _ rfl; have u1 := HU.out 1 _ rfl; have u2 := HU.out 2 _ rfl; have u3 := HU.out 3 _ rfl; have u4 := HU.out 4 _ rfl; have u5 := HU.out 5 _ rfl; have u6 := HU.out 6 _ rfl; clear y z u hb1))
      all_goals first
        | (exfalso; omega)
        | (go_ret; exact ⟨by rw [HF.out]; rfl, HB.out⟩)
end Go.Proofs.YtbnljlpefpllcaaGreatDoor
namespace Go.Proofs.YtbnljlpefpllcaaGreatDoor
open Go Go.RowKit Go.Maps
set_option maxRecDepth 100000 in
set_option maxHeartbeats 16000000 in
theorem stmt_oth {b : Bdy} {bh : BH} {r : Nat} {w : World} (H : Ck w b bh r) (hT : TabsOk w) (s : Stm) (A0 A B : Option Addr) (c0 c d : Nat) (hp0 : Slc 2 RPj w A0 c0 s.place.proj) (hp : Slc 2 RPj w A c s.rv.place.proj) (hl : Slc 4 ROp w B d s.rv.args) (hk0 : s.kind ≠ 0) (hk1 : s.kind ≠ 1) (hk2 : s.kind ≠ 2) :
    Calls Tryz.prog 79 #[.agg (ckC b bh r).toArray, .agg (stC s A0 c0 A c B d).toArray] w fun e' w' => e' = .returned (.int .i64 (stE b s)) ∧ Below w.heap.size w w' := by
  have HZZ := Lib.hid zero_any
  have HH := Lib.hid H
  have HT := Lib.hid hT
  have HP0 := Lib.hid hp0
  have HP := Lib.hid hp
  have HL := Lib.hid hl
  have hle := hl.le
  have hbig := hl.big
  have hlocl := H.at_.loc.le
  have hlocb := H.at_.loc.big
  obtain ⟨R, hR⟩ : ∃ R, stE b s = R := ⟨_, rfl⟩
  rw [hR]
  have HR := Lib.hid hR
  obtain ⟨q1, hq1⟩ : ∃ q, zeroP s.place = q := ⟨_, rfl⟩
  obtain ⟨q2, hq2⟩ : ∃ q, (s.rv.kind == 0) = q := ⟨_, rfl⟩
  obtain ⟨q3, hq3⟩ : ∃ q, (s.rv.op == 0) = q := ⟨_, rfl⟩
  obtain ⟨q4, hq4⟩ : ∃ q, ((s.rv.args.length : Int) == 0) = q := ⟨_, rfl⟩
  obtain ⟨q5, hq5⟩ : ∃ q, (s.rv.reg == 0) = q := ⟨_, rfl⟩
  obtain ⟨q6, hq6⟩ : ∃ q, s.rv.mu = q := ⟨_, rfl⟩
  obtain ⟨q7, hq7⟩ : ∃ q, zeroP s.rv.place = q := ⟨_, rfl⟩
  have HBL : Hid (blankR s.rv = (q2 && q3 && q4 && q5 && !q6 && q7)) := Lib.hid (by
    unfold blankR
    rw [← hq2, ← hq3, ← hq4, ← hq5, ← hq6, ← hq7, nat_beq0]
    rfl)
  have HQ1 := Lib.hid hq1
  have HQ7 := Lib.hid hq7
  have HQ2 := Lib.hid hq2
  have HQ3 := Lib.hid hq3
  have HQ4 := Lib.hid hq4
  have HQ5 := Lib.hid hq5
  have HQ6 := Lib.hid hq6
  clear hq1 hq2 hq3 hq4 hq5 hq7
  have HF : Hid (R = 14) := Lib.hid (by rw [← HR.out, stE, if_neg hk0, if_neg hk1, if_neg hk2])
  have e0 : (s.kind == 0) = false := by simp [hk0]
  have e1 : (s.kind == 1) = false := by simp [hk1]
  have e2 : (s.kind == 2) = false := by simp [hk2]
  clear HBL hk0 hk1 hk2
  have hk : True := trivial
  clear HR hR H hT hp0 hp hl
  rcases (show q1 = false ∨ (q1 = true ∧ q2 = false) ∨ (q1 = true ∧ q2 = true ∧ q3 = false) ∨ (q1 = true ∧ q2 = true ∧ q3 = true ∧ q4 = false) ∨ (q1 = true ∧ q2 = true ∧ q3 = true ∧ q4 = true ∧ q5 = false) ∨ (q1 = true ∧ q2 = true ∧ q3 = true ∧ q4 = true ∧ q5 = true ∧ q6 = true) ∨ (q1 = true ∧ q2 = true ∧ q3 = true ∧ q4 = true ∧ q5 = true ∧ q6 = false) by cases q1 <;> cases q2 <;> cases q3 <;> cases q4 <;> cases q5 <;> cases q6 <;> simp) with rfl | ⟨rfl, rfl⟩ | ⟨rfl, rfl, rfl⟩ | ⟨rfl, rfl, rfl, rfl⟩ | ⟨rfl, rfl, rfl, rfl, rfl⟩ | ⟨rfl, rfl, rfl, rfl, rfl, rfl⟩ | ⟨rfl, rfl, rfl, rfl, rfl, rfl⟩
  all_goals
    have g2 := HQ2.out
    have g3 := HQ3.out
    have g4 := HQ4.out
    have g5 := HQ5.out
    have g6 := HQ6.out
    unfold ckC at *
    unfold stC
    go_enter Tryz.func79, Tryz.ntmps79
    go_wp2_with (first | (go_at_call 124; refine (HZZ.out _ _ _ _).mono ?_; rintro e' w2 ⟨rfl, hb2⟩; rw [HQ7.out]; have HB2 := Lib.hid (HB.out.trans (hb2.mono HB.out.size)); have HY2 := Lib.hid (cells_kept HY.out hb2); have HZ3 := Lib.hid (cells_kept HZ.out hb2); have HU2 := Lib.hid (cells_kept HU.out hb2); clear y0 y1 y2 y3 y4 y5 y6 y7 z0 z1 z2 z10 u0 u1 u2 u3 u4 u5 u6 HY HZ HU HB; have HB := HB2; have HY := HY2; have HZ := HZ3; have HU := HU2; have y0 := HY.out 0 _ rfl; have y1 := HY.out 1 _ rfl; have y2 := HY.out 2 _ rfl; have y3 := HY.out 3 _ rfl; have y4 := HY.out 4 _ rfl; have y5 := HY.out 5 _ rfl; have y6 := HY.out 6 _ rfl; have y7 := HY.out 7 _ rfl; have z0 := HZ.out 0 _ rfl; have z1 := HZ.out 1 _ rfl; have z2 := HZ.out 2 _ rfl; have z10 := HZ.out 10 _ rfl; have u0 := HU.out 0 _ rfl; have u1 := HU.out 1 _ rfl; have u2 := HU.out 2 _ rfl; have u3 := HU.out 3 _ rfl; have u4 := HU.out 4 _ rfl; have u5 := HU.out 5 _ rfl; have u6 := HU.out 6 _ rfl; clear hb2 HB2 HY2 HZ3 HU2) | (go_at_call 124; refine (HZZ.out _ _ _ _).mono ?_; rintro e' w1 ⟨rfl, hb1⟩; rw [HQ1.out]; have HB := Lib.hid ((bel3 _ _ _ _).trans (hb1.mono (bel3 _ _ _ _).size)); obtain ⟨y, z, u⟩ := cells_three hb1; have HY := Lib.hid y; have HZ := Lib.hid z; have HU := Lib.hid u; have y0 := HY.out 0 _ rfl; have y1 := HY.out 1 _ rfl; have y2 := HY.out 2 _ rfl; have y3 := HY.out 3 _ rfl; have y4 := HY.out 4 _ rfl; have y5 := HY.out 5 _ rfl; have y6 := HY.out 6 _ rfl; have y7 := HY.out 7 _ rfl; have z0 := HZ.out 0 _ rfl; have z1 := HZ.out 1 _ rfl; have z2 := HZ.out 2 _ rfl; have z10 := HZ.out 10 _ rfl; have u0 := HU.out 0 _ rfl; have u1 := HU.out 1 _ rfl; have u2 := HU.out 2 _ rfl; have u3 := HU.out 3 _ rfl; have u4 := HU.out 4 _ rfl; have u5 := HU.out 5 _ rfl; have u6 := HU.out 6 _ rfl; clear y z u hb1))
    all_goals first
      | (exfalso; omega)
      | (go_ret; exact ⟨by rw [HF.out]; rfl, by first | exact HBW2.out | exact HBW.out | exact HB.out⟩)
end Go.Proofs.YtbnljlpefpllcaaGreatDoor
namespace Go.Proofs.YtbnljlpefpllcaaGreatDoor
open Go Go.RowKit Go.Maps
theorem stmt_any {b : Bdy} {bh : BH} {r : Nat} {w : World} (H : Ck w b bh r) (hT : TabsOk w) (s : Stm) (A0 A B : Option Addr) (c0 c d : Nat) (hp0 : Slc 2 RPj w A0 c0 s.place.proj) (hp : Slc 2 RPj w A c s.rv.place.proj) (hl : Slc 4 ROp w B d s.rv.args) :
    Calls Tryz.prog 79 #[.agg (ckC b bh r).toArray, .agg (stC s A0 c0 A c B d).toArray] w fun e' w' => e' = .returned (.int .i64 (stE b s)) ∧ Below w.heap.size w w' := by
  by_cases h0 : s.kind = 0
  · by_cases hl0 : s.loc = 0
    · by_cases hw : writE b s.place = 0
      · exact stmt_asg H hT s A0 A B c0 c d hp0 hp hl h0 hl0 hw
      · exact stmt_wri H hT s A0 A B c0 c d hp0 hp hl h0 hl0 hw
    · exact stmt_loc H hT s A0 A B c0 c d hp0 hp hl h0 hl0
  by_cases h1 : s.kind = 1
  · exact stmt_dead H hT s A0 A B c0 c d hp0 hp hl h1
  by_cases h2 : s.kind = 2
  · exact stmt_nop H hT s A0 A B c0 c d hp0 hp hl h2
  exact stmt_oth H hT s A0 A B c0 c d hp0 hp hl h0 h1 h2
end Go.Proofs.YtbnljlpefpllcaaGreatDoor
namespace Go.Proofs.YtbnljlpefpllcaaGreatDoor
open Go Go.RowKit Go.Maps
set_option maxRecDepth 100000 in
set_option maxHeartbeats 16000000 in
theorem term_if {b : Bdy} {bh : BH} {r : Nat} {w : World} (H : Ck w b bh r) (t : Trm) (A B C : Option Addr) (c d f : Nat) (ht : Slc 1 RInt w A c t.targets) (hl : Slc 4 ROp w B d t.args) (hp : Slc 2 RPj w C f t.place.proj) (hk : t.kind = 1) (hfd : fieldsT t = true) :
    Calls Tryz.prog 80 #[.agg (ckC b bh r).toArray, .agg (tmC t A c B d C f).toArray] w fun e' w' => e' = .returned (.int .i64 (tmE b t)) ∧ Below w.heap.size w w' := by
  have HFD := Lib.hid (fun W => fields_any t A B C c d f W)
  have HH := Lib.hid H
  have HTG := Lib.hid ht
  have HL := Lib.hid hl
  have HP := Lib.hid hp
  have hle := hl.le
  have hbig := hl.big
  have hle2 := ht.le
  have hbig2 := ht.big
  have hblkl := H.at_.blk.le
  have hblkb := H.at_.blk.big
  obtain ⟨R, hR⟩ : ∃ R, tmE b t = R := ⟨_, rfl⟩
  rw [hR]
  have HR := Lib.hid hR
  clear hR H ht hl hp
  have hag : ∃ o, t.args = [o] := by
    have h := hfd
    unfold fieldsT at h
    rw [if_neg (by omega), if_pos hk] at h
    simp only [Bool.and_eq_true, decide_eq_true_eq] at h
    exact List.length_eq_one_iff.1 h.1.1.2
  obtain ⟨o, ho⟩ := hag
  obtain ⟨bb, oo, rfl, hbb, hx⟩ := HL.out.sl.at_ (show 0 < t.args.length by rw [ho]; simp)
  simp only [ho, List.getElem_cons_zero, Nat.zero_mul, Nat.add_zero] at hx
  obtain ⟨p0, ⟨p1, A2, c2, p2, hc1, hc2, hsl⟩, p3⟩ := hx
  have HPJ : Hid (Slc 2 RPj w A2 c2 o.place.proj) := Lib.hid ⟨hsl, hc1, hc2⟩
  have P0 := Lib.hid p0
  have P1 := Lib.hid p1
  have P2 := Lib.hid (show w.cell? ⟨bb, oo + 2, none⟩ = _ from p2)
  have P3 := Lib.hid p3
  have hal : 0 < t.args.length := by rw [ho]; simp
  have HOO := Lib.hid (fun (W : World) (hb : Below w.heap.size w W) => operand_c (HH.out.keep hb) o A2 c2 (HPJ.out.keep RPj.keeps hb))
  have HKK := Lib.hid (fun (W : World) (hb : Below w.heap.size w W) (h : opE b o = 0) => kindOf_c (HH.out.keep hb) o A2 c2 (HPJ.out.keep RPj.keeps hb) h)
  obtain ⟨Q, hQ⟩ : ∃ Q, (if opE b o ≠ 0 then opE b o else fail22 (decide (kindO b o ≠ 1))) = Q := ⟨_, rfl⟩
  have HQ := Lib.hid hQ
  have HF : Hid (R = if t.targets.all (fun k => decide (0 ≤ k ∧ k < (b.blocks.length : Int))) = true then Q else 3) := Lib.hid (by
    rw [← HR.out, tmE, if_neg (by omega), if_neg (by rw [hfd]; simp)]
    rw [← HQ.out]
    cases t.targets.all (fun k => decide (0 ≤ k ∧ k < (b.blocks.length : Int)))
    · simp
    · simp [hk, ho])
  rw [hfd] at HFD
  generalize kindO b o = ko at HKK hQ HQ
  generalize opE b o = eo at HOO HKK hQ HQ
  clear ho p0 p1 p2 p3 hsl hc1 hc2
  unfold opC at HOO HKK
  clear HR hQ hfd
  unfold ckC at *
  unfold tmC at *
  rw [hk] at HFD ⊢
  go_enter Tryz.func80, Tryz.ntmps80
  go_wp2_with (go_at_call 127; refine (HFD.out _).mono ?_; rintro e' w1 ⟨rfl, hb1⟩; have HB := Lib.hid ((bel2 _ _ _).trans (hb1.mono (bel2 _ _ _).size)); obtain ⟨y, z⟩ := cells_two hb1; have HY := Lib.hid y; have HZ := Lib.hid z; have y0 := HY.out 0 _ rfl; have y1 := HY.out 1 _ rfl; have y2 := HY.out 2 _ rfl; have y3 := HY.out 3 _ rfl; have y4 := HY.out 4 _ rfl; have y5 := HY.out 5 _ rfl; have y6 := HY.out 6 _ rfl; have y7 := HY.out 7 _ rfl; have z0 := HZ.out 0 _ rfl; have z1 := HZ.out 1 _ rfl; have z2 := HZ.out 2 _ rfl; have z3 := HZ.out 3 _ rfl; have z4 := HZ.out 4 _ rfl; have z5 := HZ.out 5 _ rfl; clear y z hb1)
  all_goals try (exfalso; omega)
  go_loop [27] (fun v => ∃ k : Nat, k ≤ t.targets.length ∧ v = .int .i64 k ∧ Hid (R = if (t.targets.drop k).all (fun k => decide (0 ≤ k ∧ k < (b.blocks.length : Int))) = true then Q else 3)) (fun v => t.targets.length - (intOf v).toNat)
  case atStart => exact ⟨0, by omega, rfl, HF⟩
  case round =>
    clear HF
    obtain ⟨k, hk2, rfl, hr⟩ := hrel
    by_cases hlt : k < t.targets.length
    · have hd := drop_cons hlt
      obtain ⟨b5, o5, rfl, hb5, hx⟩ := HTG.out.sl.at_ hlt
      obtain ⟨x, hxx⟩ : ∃ x, t.targets[k] = x := ⟨_, rfl⟩
      rw [hxx] at hd hx
      have x0 : w1.cell? ⟨b5, o5 + k, none⟩ = some (.int .i64 x) := cell_keep HB.out (by simpa [RInt] using hx)
      by_cases hin : 0 ≤ x ∧ x < (b.blocks.length : Int)
      · have HF2 : Hid (R = if (t.targets.drop (k + 1)).all (fun k => decide (0 ≤ k ∧ k < (b.blocks.length : Int))) = true then Q else 3) := Lib.hid (by rw [hr.out, hd, List.all_cons]; simp [hin])
        have e1 : ¬ x < 0 := by omega
        have e2 : ¬ (b.blocks.length : Int) ≤ x := by omega
        clear hd hx hxx hr hin
        go_wp2_with fail
        all_goals try (exfalso; omega)
        go_round
        case rel => exact ⟨k + 1, by omega, by go_num, HF2⟩
        case measure => simp [intOf]; omega
      · have HF2 : Hid (R = 3) := Lib.hid (by rw [hr.out, hd, List.all_cons]; simp; intro h1 h2; exact absurd ⟨h1, h2⟩ hin)
        clear hd hx hxx hr
        go_wp2_with fail
        all_goals first
          | (exfalso; omega)
          | (go_ret; exact ⟨by rw [HF2.out]; rfl, HB.out⟩)
    · have HF2 : Hid (R = Q) := Lib.hid (by rw [hr.out, List.drop_eq_nil_of_le (by omega : t.targets.length ≤ k)]; rfl)
      clear hr
      go_wp2_with fail
      have hS : (∀ i v, [Value.string b.name, .slice bh.A1 b.regions.length bh.c1, .slice bh.A2 b.outl.length bh.c2, .slice bh.A3 b.types.length bh.c3, .slice bh.A4 b.locals.length bh.c4, .int .i64 b.args, .slice bh.A5 b.blocks.length bh.c5, .pointer (some ⟨r, 0, none⟩)][i]? = some v → w1.drew.cell? ⟨w.heap.size, i, none⟩ = some v) ∧ (∀ i v, [Value.int .i64 1, .slice A t.targets.length c, .slice (some ⟨bb, oo, none⟩) t.args.length d, .int .i64 t.place.loc, .slice C t.place.proj.length f, .string t.name][i]? = some v → w1.drew.cell? ⟨w.heap.size + 1, i, none⟩ = some v) ∧ Below w.heap.size w w1.drew := ⟨HY.out, HZ.out, HB.out.drew⟩
      clear y0 y1 y2 y3 y4 y5 y6 y7 z0 z1 z2 z3 z4 z5
      refine wp_region_o (S := fun X => (∀ i v, [Value.string b.name, .slice bh.A1 b.regions.length bh.c1, .slice bh.A2 b.outl.length bh.c2, .slice bh.A3 b.types.length bh.c3, .slice bh.A4 b.locals.length bh.c4, .int .i64 b.args, .slice bh.A5 b.blocks.length bh.c5, .pointer (some ⟨r, 0, none⟩)][i]? = some v → X.cell? ⟨w.heap.size, i, none⟩ = some v) ∧ (∀ i v, [Value.int .i64 1, .slice A t.targets.length c, .slice (some ⟨bb, oo, none⟩) t.args.length d, .int .i64 t.place.loc, .slice C t.place.proj.length f, .string t.name][i]? = some v → X.cell? ⟨w.heap.size + 1, i, none⟩ = some v) ∧ Below w.heap.size w X) [0, 1, 2, 3, 4, 5, 6] (by kernel_rfl) ?_
      (iterate 5 (refine wpO_take (v := ?_) (by kernel_rfl) (fun _ _ _ h => h) (Or.inl ⟨by rfl, ?_⟩) hS ?_; rotate_left; (next => (rintro X ⟨hX, hY, hZ⟩; have s0 := hX 0 _ rfl; have s1 := hX 1 _ rfl; have s2 := hX 2 _ rfl; have s3 := hX 3 _ rfl; have s4 := hX 4 _ rfl; have s5 := hX 5 _ rfl; have s6 := hX 6 _ rfl; have s7 := hX 7 _ rfl; have v2 := hY 2 _ rfl; have p0 := cell_keep hZ P0.out; have p1 := cell_keep hZ P1.out; have p2 := cell_keep hZ P2.out; have p3 := cell_keep hZ P3.out; (try simp only [List.getD_cons_zero, List.getD_cons_succ, List.getElem?_toArray, List.getElem?_cons_zero, List.getElem?_cons_succ, Option.getD_some]); go_simp; rfl)); simp only [List.getD_cons_zero, List.getD_cons_succ, List.getElem?_toArray, List.getElem?_cons_zero, List.getElem?_cons_succ, Option.getD_some, Act.put, List.setIfInBounds_toArray, List.set_cons_zero, List.set_cons_succ]))
      (refine wpO_one (by kernel_rfl) (fun K1 hK1 => ?_); simp only [List.getD_cons_zero, List.getD_cons_succ, List.getElem?_toArray, List.getElem?_cons_zero, List.getElem?_cons_succ, Option.getD_some, Act.put, List.setIfInBounds_toArray, List.set_cons_zero, List.set_cons_succ]; rw [if_pos (by rfl)]; go_simp)
      refine (HOO.out _ hS.2.2).mono ?_
      rintro e' w2 ⟨rfl, hb⟩
      replace hS := And.intro (cells_kept hS.1 hb) (And.intro (cells_kept hS.2.1 hb) (hS.2.2.trans (hb.mono hS.2.2.size)))
      have HS2 := Lib.hid hS
      clear hb
      refine hK1.out _ _ (fun _ => hS) ?_
      clear hK1
      (iterate 1 (refine wpO_take (v := ?_) (by kernel_rfl) (fun _ _ _ h => h) (Or.inl ⟨by rfl, ?_⟩) hS ?_; rotate_left; (next => (rintro X -; (try simp only [List.getD_cons_zero, List.getD_cons_succ, List.getElem?_toArray, List.getElem?_cons_zero, List.getElem?_cons_succ, Option.getD_some]); go_simp; rfl)); simp only [List.getD_cons_zero, List.getD_cons_succ, List.getElem?_toArray, List.getElem?_cons_zero, List.getElem?_cons_succ, Option.getD_some, Act.put, List.setIfInBounds_toArray, List.set_cons_zero, List.set_cons_succ]))
      refine wpO_done (by kernel_rfl) ?_
      clear hS
      by_cases heo : eo = 0
      · subst heo
        have HK2 := Lib.hid (fun W hb => HKK.out W hb rfl)
        have HF3 : Hid (R = fail22 (decide (ko ≠ 1))) := Lib.hid (by rw [HF2.out, ← HQ.out]; simp)
        have eko : (ko != 1) = decide (ko ≠ 1) := by rw [Bool.eq_iff_iff]; simp
        go_wp2_with fail
        have hS : (∀ i v, [Value.string b.name, .slice bh.A1 b.regions.length bh.c1, .slice bh.A2 b.outl.length bh.c2, .slice bh.A3 b.types.length bh.c3, .slice bh.A4 b.locals.length bh.c4, .int .i64 b.args, .slice bh.A5 b.blocks.length bh.c5, .pointer (some ⟨r, 0, none⟩)][i]? = some v → w2.drew.cell? ⟨w.heap.size, i, none⟩ = some v) ∧ (∀ i v, [Value.int .i64 1, .slice A t.targets.length c, .slice (some ⟨bb, oo, none⟩) t.args.length d, .int .i64 t.place.loc, .slice C t.place.proj.length f, .string t.name][i]? = some v → w2.drew.cell? ⟨w.heap.size + 1, i, none⟩ = some v) ∧ Below w.heap.size w w2.drew := ⟨HS2.out.1, HS2.out.2.1, HS2.out.2.2.drew⟩
        refine wp_region_o (S := fun X => (∀ i v, [Value.string b.name, .slice bh.A1 b.regions.length bh.c1, .slice bh.A2 b.outl.length bh.c2, .slice bh.A3 b.types.length bh.c3, .slice bh.A4 b.locals.length bh.c4, .int .i64 b.args, .slice bh.A5 b.blocks.length bh.c5, .pointer (some ⟨r, 0, none⟩)][i]? = some v → X.cell? ⟨w.heap.size, i, none⟩ = some v) ∧ (∀ i v, [Value.int .i64 1, .slice A t.targets.length c, .slice (some ⟨bb, oo, none⟩) t.args.length d, .int .i64 t.place.loc, .slice C t.place.proj.length f, .string t.name][i]? = some v → X.cell? ⟨w.heap.size + 1, i, none⟩ = some v) ∧ Below w.heap.size w X) [0, 1, 2, 3, 4, 5, 6, 7, 8] (by kernel_rfl) ?_
        (iterate 5 (refine wpO_take (v := ?_) (by kernel_rfl) (fun _ _ _ h => h) (Or.inl ⟨by rfl, ?_⟩) hS ?_; rotate_left; (next => (rintro X ⟨hX, hY, hZ⟩; have s0 := hX 0 _ rfl; have s1 := hX 1 _ rfl; have s2 := hX 2 _ rfl; have s3 := hX 3 _ rfl; have s4 := hX 4 _ rfl; have s5 := hX 5 _ rfl; have s6 := hX 6 _ rfl; have s7 := hX 7 _ rfl; have v2 := hY 2 _ rfl; have p0 := cell_keep hZ P0.out; have p1 := cell_keep hZ P1.out; have p2 := cell_keep hZ P2.out; have p3 := cell_keep hZ P3.out; (try simp only [List.getD_cons_zero, List.getD_cons_succ, List.getElem?_toArray, List.getElem?_cons_zero, List.getElem?_cons_succ, Option.getD_some]); go_simp; rfl)); simp only [List.getD_cons_zero, List.getD_cons_succ, List.getElem?_toArray, List.getElem?_cons_zero, List.getElem?_cons_succ, Option.getD_some, Act.put, List.setIfInBounds_toArray, List.set_cons_zero, List.set_cons_succ]))
        (refine wpO_one (by kernel_rfl) (fun K1 hK1 => ?_); simp only [List.getD_cons_zero, List.getD_cons_succ, List.getElem?_toArray, List.getElem?_cons_zero, List.getElem?_cons_succ, Option.getD_some, Act.put, List.setIfInBounds_toArray, List.set_cons_zero, List.set_cons_succ]; rw [if_pos (by rfl)]; go_simp)
        refine (HK2.out _ hS.2.2).mono ?_
        rintro e' w3 ⟨rfl, hb⟩
        replace hS := And.intro (cells_kept hS.1 hb) (And.intro (cells_kept hS.2.1 hb) (hS.2.2.trans (hb.mono hS.2.2.size)))
        clear hb
        refine hK1.out _ _ (fun _ => hS) ?_
        clear hK1
        (iterate 1 (refine wpO_take (v := ?_) (by kernel_rfl) (fun _ _ _ h => h) (Or.inl ⟨by rfl, ?_⟩) hS ?_; rotate_left; (next => (rintro X -; (try simp only [List.getD_cons_zero, List.getD_cons_succ, List.getElem?_toArray, List.getElem?_cons_zero, List.getElem?_cons_succ, Option.getD_some]); go_simp; rfl)); simp only [List.getD_cons_zero, List.getD_cons_succ, List.getElem?_toArray, List.getElem?_cons_zero, List.getElem?_cons_succ, Option.getD_some, Act.put, List.setIfInBounds_toArray, List.set_cons_zero, List.set_cons_succ]))
        try rw [eko]
        (refine wpO_one (by kernel_rfl) (fun K1 hK1 => ?_); simp only [List.getD_cons_zero, List.getD_cons_succ, List.getElem?_toArray, List.getElem?_cons_zero, List.getElem?_cons_succ, Option.getD_some, Act.put, List.setIfInBounds_toArray, List.set_cons_zero, List.set_cons_succ]; rw [if_pos (by rfl)]; go_simp)
        refine (failed_any _ _).mono ?_
        rintro e' w4 ⟨rfl, hw⟩
        obtain rfl := hw.symm
        refine hK1.out _ _ (fun _ => hS) ?_
        clear hK1
        (iterate 1 (refine wpO_take (v := ?_) (by kernel_rfl) (fun _ _ _ h => h) (Or.inl ⟨by rfl, ?_⟩) hS ?_; rotate_left; (next => (rintro X -; (try simp only [List.getD_cons_zero, List.getD_cons_succ, List.getElem?_toArray, List.getElem?_cons_zero, List.getElem?_cons_succ, Option.getD_some]); go_simp; rfl)); simp only [List.getD_cons_zero, List.getD_cons_succ, List.getElem?_toArray, List.getElem?_cons_zero, List.getElem?_cons_succ, Option.getD_some, Act.put, List.setIfInBounds_toArray, List.set_cons_zero, List.set_cons_succ]))
        refine wpO_done (by kernel_rfl) ?_
        have HS3 := Lib.hid hS.2.2
        clear hS
        go_wp2_with fail
        go_ret
        exact ⟨by rw [HF3.out]; first | rfl | (rw [← eko]; rfl), HS3.out⟩
      · have HF3 : Hid (R = eo) := Lib.hid (by rw [HF2.out, ← HQ.out]; simp [heo])
        have e9 : (eo != 0) = true := by simp [heo]
        clear heo
        go_wp2_with fail
        go_ret
        exact ⟨by rw [HF3.out]; rfl, HS2.out.2.2⟩
end Go.Proofs.YtbnljlpefpllcaaGreatDoor
namespace Go.Proofs.YtbnljlpefpllcaaGreatDoor
open Go Go.RowKit Go.Maps
set_option maxRecDepth 100000 in
set_option maxHeartbeats 16000000 in
theorem term_call {b : Bdy} {bh : BH} {r : Nat} {w : World} (H : Ck w b bh r) (t : Trm) (A B C : Option Addr) (c d f : Nat) (ht : Slc 1 RInt w A c t.targets) (hl : Slc 4 ROp w B d t.args) (hp : Slc 2 RPj w C f t.place.proj) (hk : t.kind = 3) (hfd : fieldsT t = true) :
    Calls Tryz.prog 80 #[.agg (ckC b bh r).toArray, .agg (tmC t A c B d C f).toArray] w fun e' w' => e' = .returned (.int .i64 (tmE b t)) ∧ Below w.heap.size w w' := by
  have HFD := Lib.hid (fun W => fields_any t A B C c d f W)
  have HH := Lib.hid H
  have HTG := Lib.hid ht
  have HL := Lib.hid hl
  have HP := Lib.hid hp
  have hle := hl.le
  have hbig := hl.big
  have hle2 := ht.le
  have hbig2 := ht.big
  have hblkl := H.at_.blk.le
  have hblkb := H.at_.blk.big
  obtain ⟨R, hR⟩ : ∃ R, tmE b t = R := ⟨_, rfl⟩
  rw [hR]
  have HR := Lib.hid hR
  clear hR H ht hl hp
  obtain ⟨Q, hQ⟩ : ∃ Q, (if isIdent t.name = false then 12 else if 65535 < t.args.length then 15 else if opsE b t.args [] ≠ 0 then opsE b t.args [] else writE b t.place) = Q := ⟨_, rfl⟩
  have HQ := Lib.hid hQ
  have HF : Hid (R = if t.targets.all (fun k => decide (0 ≤ k ∧ k < (b.blocks.length : Int))) = true then Q else 3) := Lib.hid (by
    rw [← HR.out, tmE, if_neg (by omega), if_neg (by rw [hfd]; simp)]
    rw [← HQ.out]
    cases t.targets.all (fun k => decide (0 ≤ k ∧ k < (b.blocks.length : Int)))
    · simp
    · simp [hk])
  rw [hfd] at HFD
  have HI := Lib.hid (fun W => isIdent_any t.name W)
  have HPO := Lib.hid (fun (W : World) (hb : Below w.heap.size w W) => operands_any (HH.out.keep hb) t.args [] B none d 0 (HL.out.keep ROp.keeps hb) ⟨Sl.nil, by simp, by omega⟩ (by simp))
  have HW := Lib.hid (fun (W : World) (hb : Below w.heap.size w W) => writable_any b bh r t.place C f W (HH.out.keep hb).at_ (HP.out.keep RPj.keeps hb) HH.out.ok.okay)
  generalize writE b t.place = we at HW hQ HQ
  generalize opsE b t.args [] = oe at HPO hQ HQ
  generalize isIdent t.name = ii at HI hQ HQ
  clear HR hQ hfd
  unfold ckC at *
  unfold tmC at *
  rw [hk] at HFD ⊢
  go_enter Tryz.func80, Tryz.ntmps80
  go_wp2_with (go_at_call 127; refine (HFD.out _).mono ?_; rintro e' w1 ⟨rfl, hb1⟩; have HB := Lib.hid ((bel2 _ _ _).trans (hb1.mono (bel2 _ _ _).size)); obtain ⟨y, z⟩ := cells_two hb1; have HY := Lib.hid y; have HZ := Lib.hid z; have y0 := HY.out 0 _ rfl; have y1 := HY.out 1 _ rfl; have y2 := HY.out 2 _ rfl; have y3 := HY.out 3 _ rfl; have y4 := HY.out 4 _ rfl; have y5 := HY.out 5 _ rfl; have y6 := HY.out 6 _ rfl; have y7 := HY.out 7 _ rfl; have z0 := HZ.out 0 _ rfl; have z1 := HZ.out 1 _ rfl; have z2 := HZ.out 2 _ rfl; have z3 := HZ.out 3 _ rfl; have z4 := HZ.out 4 _ rfl; have z5 := HZ.out 5 _ rfl; clear y z hb1)
  all_goals try (exfalso; omega)
  go_loop [27] (fun v => ∃ k : Nat, k ≤ t.targets.length ∧ v = .int .i64 k ∧ Hid (R = if (t.targets.drop k).all (fun k => decide (0 ≤ k ∧ k < (b.blocks.length : Int))) = true then Q else 3)) (fun v => t.targets.length - (intOf v).toNat)
  case atStart => exact ⟨0, by omega, rfl, HF⟩
  case round =>
    clear HF
    obtain ⟨k, hk2, rfl, hr⟩ := hrel
    by_cases hlt : k < t.targets.length
    · have hd := drop_cons hlt
      obtain ⟨b5, o5, rfl, hb5, hx⟩ := HTG.out.sl.at_ hlt
      obtain ⟨x, hxx⟩ : ∃ x, t.targets[k] = x := ⟨_, rfl⟩
      rw [hxx] at hd hx
      have x0 : w1.cell? ⟨b5, o5 + k, none⟩ = some (.int .i64 x) := cell_keep HB.out (by simpa [RInt] using hx)
      by_cases hin : 0 ≤ x ∧ x < (b.blocks.length : Int)
      · have HF2 : Hid (R = if (t.targets.drop (k + 1)).all (fun k => decide (0 ≤ k ∧ k < (b.blocks.length : Int))) = true then Q else 3) := Lib.hid (by rw [hr.out, hd, List.all_cons]; simp [hin])
        have e1 : ¬ x < 0 := by omega
        have e2 : ¬ (b.blocks.length : Int) ≤ x := by omega
        clear hd hx hxx hr hin
        go_wp2_with fail
        all_goals try (exfalso; omega)
        go_round
        case rel => exact ⟨k + 1, by omega, by go_num, HF2⟩
        case measure => simp [intOf]; omega
      · have HF2 : Hid (R = 3) := Lib.hid (by rw [hr.out, hd, List.all_cons]; simp; intro h1 h2; exact absurd ⟨h1, h2⟩ hin)
        clear hd hx hxx hr
        go_wp2_with fail
        all_goals first
          | (exfalso; omega)
          | (go_ret; exact ⟨by rw [HF2.out]; rfl, HB.out⟩)
    · have HF2 : Hid (R = Q) := Lib.hid (by rw [hr.out, List.drop_eq_nil_of_le (by omega : t.targets.length ≤ k)]; rfl)
      clear hr
      cases ii
      · have HF3 : Hid (R = 12) := Lib.hid (by rw [HF2.out, ← HQ.out]; rfl)
        go_wp2_with (go_at_call 68; refine (HI.out _).mono ?_; rintro e' w2 ⟨rfl, hb⟩; have HB2 := Lib.hid (HB.out.trans (hb.mono HB.out.size)); have HY2 := Lib.hid (cells_kept HY.out hb); have HZ2 := Lib.hid (cells_kept HZ.out hb); clear y0 y1 y2 y3 y4 y5 y6 y7 z0 z1 z2 z3 z4 z5; have y0 := HY2.out 0 _ rfl; have y1 := HY2.out 1 _ rfl; have y2 := HY2.out 2 _ rfl; have y3 := HY2.out 3 _ rfl; have y4 := HY2.out 4 _ rfl; have y5 := HY2.out 5 _ rfl; have y6 := HY2.out 6 _ rfl; have y7 := HY2.out 7 _ rfl; have z0 := HZ2.out 0 _ rfl; have z1 := HZ2.out 1 _ rfl; have z2 := HZ2.out 2 _ rfl; have z3 := HZ2.out 3 _ rfl; have z4 := HZ2.out 4 _ rfl; have z5 := HZ2.out 5 _ rfl; clear hb)
        go_ret
        exact ⟨by rw [HF3.out]; rfl, HB2.out⟩
      by_cases hln : 65535 < t.args.length
      · have HF3 : Hid (R = 15) := Lib.hid (by rw [HF2.out, ← HQ.out]; simp [hln])
        go_wp2_with (go_at_call 68; refine (HI.out _).mono ?_; rintro e' w2 ⟨rfl, hb⟩; have HB2 := Lib.hid (HB.out.trans (hb.mono HB.out.size)); have HY2 := Lib.hid (cells_kept HY.out hb); have HZ2 := Lib.hid (cells_kept HZ.out hb); clear y0 y1 y2 y3 y4 y5 y6 y7 z0 z1 z2 z3 z4 z5; have y0 := HY2.out 0 _ rfl; have y1 := HY2.out 1 _ rfl; have y2 := HY2.out 2 _ rfl; have y3 := HY2.out 3 _ rfl; have y4 := HY2.out 4 _ rfl; have y5 := HY2.out 5 _ rfl; have y6 := HY2.out 6 _ rfl; have y7 := HY2.out 7 _ rfl; have z0 := HZ2.out 0 _ rfl; have z1 := HZ2.out 1 _ rfl; have z2 := HZ2.out 2 _ rfl; have z3 := HZ2.out 3 _ rfl; have z4 := HZ2.out 4 _ rfl; have z5 := HZ2.out 5 _ rfl; clear hb)
        all_goals first
          | (exfalso; omega)
          | (go_ret; exact ⟨by rw [HF3.out]; rfl, HB2.out⟩)
      by_cases hoe : oe = 0
      · have HF3 : Hid (R = we) := Lib.hid (by rw [HF2.out, ← HQ.out]; simp [hln, hoe])
        subst hoe
        go_wp2_with (first | (go_at_call 68; refine (HI.out _).mono ?_; rintro e' w2 ⟨rfl, hb⟩; have HB2 := Lib.hid (HB.out.trans (hb.mono HB.out.size)); have HY2 := Lib.hid (cells_kept HY.out hb); have HZ2 := Lib.hid (cells_kept HZ.out hb); clear y0 y1 y2 y3 y4 y5 y6 y7 z0 z1 z2 z3 z4 z5; have y0 := HY2.out 0 _ rfl; have y1 := HY2.out 1 _ rfl; have y2 := HY2.out 2 _ rfl; have y3 := HY2.out 3 _ rfl; have y4 := HY2.out 4 _ rfl; have y5 := HY2.out 5 _ rfl; have y6 := HY2.out 6 _ rfl; have y7 := HY2.out 7 _ rfl; have z0 := HZ2.out 0 _ rfl; have z1 := HZ2.out 1 _ rfl; have z2 := HZ2.out 2 _ rfl; have z3 := HZ2.out 3 _ rfl; have z4 := HZ2.out 4 _ rfl; have z5 := HZ2.out 5 _ rfl; clear hb) | (go_at_call 131; refine (HPO.out _ HB2.out).mono ?_; rintro e' w3 ⟨rfl, hb⟩; have HB3 := Lib.hid (HB2.out.trans (hb.mono HB2.out.size)); have HY3 := Lib.hid (cells_kept HY2.out hb); have HZ3 := Lib.hid (cells_kept HZ2.out hb); clear y0 y1 y2 y3 y4 y5 y6 y7 z0 z1 z2 z3 z4 z5; have y0 := HY3.out 0 _ rfl; have y1 := HY3.out 1 _ rfl; have y2 := HY3.out 2 _ rfl; have y3 := HY3.out 3 _ rfl; have y4 := HY3.out 4 _ rfl; have y5 := HY3.out 5 _ rfl; have y6 := HY3.out 6 _ rfl; have y7 := HY3.out 7 _ rfl; have z0 := HZ3.out 0 _ rfl; have z1 := HZ3.out 1 _ rfl; have z2 := HZ3.out 2 _ rfl; have z3 := HZ3.out 3 _ rfl; have z4 := HZ3.out 4 _ rfl; have z5 := HZ3.out 5 _ rfl; clear hb) | (go_at_call 125; refine (HW.out _ HB3.out).mono ?_; rintro e' w4 ⟨rfl, hb⟩; have HB4 := Lib.hid (HB3.out.trans (hb.mono HB3.out.size)); have HY4 := Lib.hid (cells_kept HY3.out hb); have HZ4 := Lib.hid (cells_kept HZ3.out hb); clear y0 y1 y2 y3 y4 y5 y6 y7 z0 z1 z2 z3 z4 z5; have y0 := HY4.out 0 _ rfl; have y1 := HY4.out 1 _ rfl; have y2 := HY4.out 2 _ rfl; have y3 := HY4.out 3 _ rfl; have y4 := HY4.out 4 _ rfl; have y5 := HY4.out 5 _ rfl; have y6 := HY4.out 6 _ rfl; have y7 := HY4.out 7 _ rfl; have z0 := HZ4.out 0 _ rfl; have z1 := HZ4.out 1 _ rfl; have z2 := HZ4.out 2 _ rfl; have z3 := HZ4.out 3 _ rfl; have z4 := HZ4.out 4 _ rfl; have z5 := HZ4.out 5 _ rfl; clear hb))
        all_goals first
          | (exfalso; omega)
          | (go_ret; exact ⟨by rw [HF3.out]; rfl, HB4.out⟩)
      · have HF3 : Hid (R = oe) := Lib.hid (by rw [HF2.out, ← HQ.out]; simp [hln, hoe])
        have e9 : (oe != 0) = true := by simp [hoe]
        clear hoe
        go_wp2_with (first | (go_at_call 68; refine (HI.out _).mono ?_; rintro e' w2 ⟨rfl, hb⟩; have HB2 := Lib.hid (HB.out.trans (hb.mono HB.out.size)); have HY2 := Lib.hid (cells_kept HY.out hb); have HZ2 := Lib.hid (cells_kept HZ.out hb); clear y0 y1 y2 y3 y4 y5 y6 y7 z0 z1 z2 z3 z4 z5; have y0 := HY2.out 0 _ rfl; have y1 := HY2.out 1 _ rfl; have y2 := HY2.out 2 _ rfl; have y3 := HY2.out 3 _ rfl; have y4 := HY2.out 4 _ rfl; have y5 := HY2.out 5 _ rfl; have y6 := HY2.out 6 _ rfl; have y7 := HY2.out 7 _ rfl; have z0 := HZ2.out 0 _ rfl; have z1 := HZ2.out 1 _ rfl; have z2 := HZ2.out 2 _ rfl; have z3 := HZ2.out 3 _ rfl; have z4 := HZ2.out 4 _ rfl; have z5 := HZ2.out 5 _ rfl; clear hb) | (go_at_call 131; refine (HPO.out _ HB2.out).mono ?_; rintro e' w3 ⟨rfl, hb⟩; have HB3 := Lib.hid (HB2.out.trans (hb.mono HB2.out.size)); have HY3 := Lib.hid (cells_kept HY2.out hb); have HZ3 := Lib.hid (cells_kept HZ2.out hb); clear y0 y1 y2 y3 y4 y5 y6 y7 z0 z1 z2 z3 z4 z5; have y0 := HY3.out 0 _ rfl; have y1 := HY3.out 1 _ rfl; have y2 := HY3.out 2 _ rfl; have y3 := HY3.out 3 _ rfl; have y4 := HY3.out 4 _ rfl; have y5 := HY3.out 5 _ rfl; have y6 := HY3.out 6 _ rfl; have y7 := HY3.out 7 _ rfl; have z0 := HZ3.out 0 _ rfl; have z1 := HZ3.out 1 _ rfl; have z2 := HZ3.out 2 _ rfl; have z3 := HZ3.out 3 _ rfl; have z4 := HZ3.out 4 _ rfl; have z5 := HZ3.out 5 _ rfl; clear hb))
        all_goals first
          | (exfalso; omega)
          | (go_ret; exact ⟨by rw [HF3.out]; rfl, HB3.out⟩)
end Go.Proofs.YtbnljlpefpllcaaGreatDoor
namespace Go.Proofs.YtbnljlpefpllcaaGreatDoor
open Go Go.RowKit Go.Maps
set_option maxRecDepth 100000 in
set_option maxHeartbeats 16000000 in
theorem term_drop {b : Bdy} {bh : BH} {r : Nat} {w : World} (H : Ck w b bh r) (t : Trm) (A B C : Option Addr) (c d f : Nat) (ht : Slc 1 RInt w A c t.targets) (hl : Slc 4 ROp w B d t.args) (hp : Slc 2 RPj w C f t.place.proj) (hk : t.kind = 4) (hfd : fieldsT t = true) :
    Calls Tryz.prog 80 #[.agg (ckC b bh r).toArray, .agg (tmC t A c B d C f).toArray] w fun e' w' => e' = .returned (.int .i64 (tmE b t)) ∧ Below w.heap.size w w' := by
  have HFD := Lib.hid (fun W => fields_any t A B C c d f W)
  have HH := Lib.hid H
  have HTG := Lib.hid ht
  have HL := Lib.hid hl
  have HP := Lib.hid hp
  have hle := hl.le
  have hbig := hl.big
  have hle2 := ht.le
  have hbig2 := ht.big
  have hblkl := H.at_.blk.le
  have hblkb := H.at_.blk.big
  obtain ⟨R, hR⟩ : ∃ R, tmE b t = R := ⟨_, rfl⟩
  rw [hR]
  have HR := Lib.hid hR
  clear hR H ht hl hp
  obtain ⟨Q, hQ⟩ : ∃ Q, (if (tyB b t.place).2 ≠ 0 then (tyB b t.place).2 else fail22 (hasD t.place.proj 0)) = Q := ⟨_, rfl⟩
  have HQ := Lib.hid hQ
  have HF : Hid (R = if t.targets.all (fun k => decide (0 ≤ k ∧ k < (b.blocks.length : Int))) = true then Q else 3) := Lib.hid (by
    rw [← HR.out, tmE, if_neg (by omega), if_neg (by rw [hfd]; simp)]
    rw [← HQ.out]
    cases t.targets.all (fun k => decide (0 ≤ k ∧ k < (b.blocks.length : Int)))
    · simp
    · simp [hk])
  rw [hfd] at HFD
  have HTT := Lib.hid (fun (W : World) (hb : Below w.heap.size w W) => ctypeOf_any b bh r t.place C f W (HH.out.keep hb).at_ (HP.out.keep RPj.keeps hb) HH.out.ok.okay)
  have HHD := Lib.hid (fun (W : World) (hb : Below w.heap.size w W) => hasD_any t.place 0 C f W (HP.out.keep RPj.keeps hb))
  generalize hasD t.place.proj 0 = hdd at HHD hQ HQ
  generalize tyB b t.place = q at HTT hQ HQ
  obtain ⟨ti, te⟩ := q
  simp only at hQ HQ HTT
  have HQF : Hid (Q = firstE [te, fail22 hdd]) := Lib.hid (by rw [← HQ.out]; simp only [firstE]; by_cases h : te = 0 <;> simp [h])
  clear HR hQ hfd
  unfold ckC at *
  unfold tmC at *
  rw [hk] at HFD ⊢
  go_enter Tryz.func80, Tryz.ntmps80
  go_wp2_with (go_at_call 127; refine (HFD.out _).mono ?_; rintro e' w1 ⟨rfl, hb1⟩; have HB := Lib.hid ((bel2 _ _ _).trans (hb1.mono (bel2 _ _ _).size)); obtain ⟨y, z⟩ := cells_two hb1; have HY := Lib.hid y; have HZ := Lib.hid z; have y0 := HY.out 0 _ rfl; have y1 := HY.out 1 _ rfl; have y2 := HY.out 2 _ rfl; have y3 := HY.out 3 _ rfl; have y4 := HY.out 4 _ rfl; have y5 := HY.out 5 _ rfl; have y6 := HY.out 6 _ rfl; have y7 := HY.out 7 _ rfl; have z0 := HZ.out 0 _ rfl; have z1 := HZ.out 1 _ rfl; have z2 := HZ.out 2 _ rfl; have z3 := HZ.out 3 _ rfl; have z4 := HZ.out 4 _ rfl; have z5 := HZ.out 5 _ rfl; clear y z hb1)
  all_goals try (exfalso; omega)
  go_loop [27] (fun v => ∃ k : Nat, k ≤ t.targets.length ∧ v = .int .i64 k ∧ Hid (R = if (t.targets.drop k).all (fun k => decide (0 ≤ k ∧ k < (b.blocks.length : Int))) = true then Q else 3)) (fun v => t.targets.length - (intOf v).toNat)
  case atStart => exact ⟨0, by omega, rfl, HF⟩
  case round =>
    clear HF
    obtain ⟨k, hk2, rfl, hr⟩ := hrel
    by_cases hlt : k < t.targets.length
    · have hd := drop_cons hlt
      obtain ⟨b5, o5, rfl, hb5, hx⟩ := HTG.out.sl.at_ hlt
      obtain ⟨x, hxx⟩ : ∃ x, t.targets[k] = x := ⟨_, rfl⟩
      rw [hxx] at hd hx
      have x0 : w1.cell? ⟨b5, o5 + k, none⟩ = some (.int .i64 x) := cell_keep HB.out (by simpa [RInt] using hx)
      by_cases hin : 0 ≤ x ∧ x < (b.blocks.length : Int)
      · have HF2 : Hid (R = if (t.targets.drop (k + 1)).all (fun k => decide (0 ≤ k ∧ k < (b.blocks.length : Int))) = true then Q else 3) := Lib.hid (by rw [hr.out, hd, List.all_cons]; simp [hin])
        have e1 : ¬ x < 0 := by omega
        have e2 : ¬ (b.blocks.length : Int) ≤ x := by omega
        clear hd hx hxx hr hin
        go_wp2_with fail
        all_goals try (exfalso; omega)
        go_round
        case rel => exact ⟨k + 1, by omega, by go_num, HF2⟩
        case measure => simp [intOf]; omega
      · have HF2 : Hid (R = 3) := Lib.hid (by rw [hr.out, hd, List.all_cons]; simp; intro h1 h2; exact absurd ⟨h1, h2⟩ hin)
        clear hd hx hxx hr
        go_wp2_with fail
        all_goals first
          | (exfalso; omega)
          | (go_ret; exact ⟨by rw [HF2.out]; rfl, HB.out⟩)
    · have HF2 : Hid (R = Q) := Lib.hid (by rw [hr.out, List.drop_eq_nil_of_le (by omega : t.targets.length ≤ k)]; rfl)
      clear hr
      go_wp2_with (first | (go_at_call 132; refine (HTT.out _ HB.out).mono ?_; rintro e' w2 ⟨rfl, hb⟩; have HB2 := Lib.hid (HB.out.trans (hb.mono HB.out.size)); have HY2 := Lib.hid (cells_kept HY.out hb); have HZ2 := Lib.hid (cells_kept HZ.out hb); clear y0 y1 y2 y3 y4 y5 y6 y7 z0 z1 z2 z3 z4 z5; have y0 := HY2.out 0 _ rfl; have y1 := HY2.out 1 _ rfl; have y2 := HY2.out 2 _ rfl; have y3 := HY2.out 3 _ rfl; have y4 := HY2.out 4 _ rfl; have y5 := HY2.out 5 _ rfl; have y6 := HY2.out 6 _ rfl; have y7 := HY2.out 7 _ rfl; have z0 := HZ2.out 0 _ rfl; have z1 := HZ2.out 1 _ rfl; have z2 := HZ2.out 2 _ rfl; have z3 := HZ2.out 3 _ rfl; have z4 := HZ2.out 4 _ rfl; have z5 := HZ2.out 5 _ rfl; clear hb) | (go_at_call 133; refine (HHD.out _ HB2.out).mono ?_; rintro e' w3 ⟨rfl, hb⟩; have HB3 := Lib.hid (HB2.out.trans (hb.mono HB2.out.size)); have HY3 := Lib.hid (cells_kept HY2.out hb); have HZ3 := Lib.hid (cells_kept HZ2.out hb); clear y0 y1 y2 y3 y4 y5 y6 y7 z0 z1 z2 z3 z4 z5; have y0 := HY3.out 0 _ rfl; have y1 := HY3.out 1 _ rfl; have y2 := HY3.out 2 _ rfl; have y3 := HY3.out 3 _ rfl; have y4 := HY3.out 4 _ rfl; have y5 := HY3.out 5 _ rfl; have y6 := HY3.out 6 _ rfl; have y7 := HY3.out 7 _ rfl; have z0 := HZ3.out 0 _ rfl; have z1 := HZ3.out 1 _ rfl; have z2 := HZ3.out 2 _ rfl; have z3 := HZ3.out 3 _ rfl; have z4 := HZ3.out 4 _ rfl; have z5 := HZ3.out 5 _ rfl; clear hb) | (go_at_call 129; refine (failed_any _ _).mono ?_; rintro e' w4 ⟨rfl, hw⟩; obtain rfl := hw.symm) | (go_at_call 118; refine (first_any [te, fail22 hdd] _ 2 _ (two_sl _ _ _ _ _ rfl)).mono ?_; rintro e' w5 ⟨rfl, hw⟩; obtain rfl := hw.symm))
      go_ret
      exact ⟨by rw [HF2.out, HQF.out]; rfl, HB3.out.alloc HB3.out.size _⟩
end Go.Proofs.YtbnljlpefpllcaaGreatDoor
namespace Go.Proofs.YtbnljlpefpllcaaGreatDoor
open Go Go.RowKit Go.Maps
set_option maxRecDepth 100000 in
set_option maxHeartbeats 16000000 in
theorem term_oth {b : Bdy} {bh : BH} {r : Nat} {w : World} (H : Ck w b bh r) (t : Trm) (A B C : Option Addr) (c d f : Nat) (ht : Slc 1 RInt w A c t.targets) (hl : Slc 4 ROp w B d t.args) (hp : Slc 2 RPj w C f t.place.proj) (hk : t.kind = 0 ∨ t.kind = 2 ∨ t.kind = 5) (hfd : fieldsT t = true) :
    Calls Tryz.prog 80 #[.agg (ckC b bh r).toArray, .agg (tmC t A c B d C f).toArray] w fun e' w' => e' = .returned (.int .i64 (tmE b t)) ∧ Below w.heap.size w w' := by
  have HFD := Lib.hid (fun W => fields_any t A B C c d f W)
  have HH := Lib.hid H
  have HTG := Lib.hid ht
  have HL := Lib.hid hl
  have HP := Lib.hid hp
  have hle := hl.le
  have hbig := hl.big
  have hle2 := ht.le
  have hbig2 := ht.big
  have hblkl := H.at_.blk.le
  have hblkb := H.at_.blk.big
  obtain ⟨R, hR⟩ : ∃ R, tmE b t = R := ⟨_, rfl⟩
  rw [hR]
  have HR := Lib.hid hR
  clear hR H ht hl hp
  obtain ⟨Q, hQ⟩ : ∃ Q, ((0 : Int)) = Q := ⟨_, rfl⟩
  have HQ := Lib.hid hQ
  have HF : Hid (R = if t.targets.all (fun k => decide (0 ≤ k ∧ k < (b.blocks.length : Int))) = true then Q else 3) := Lib.hid (by
    rw [← HR.out, tmE, if_neg (by omega), if_neg (by rw [hfd]; simp)]
    rw [← HQ.out]
    cases t.targets.all (fun k => decide (0 ≤ k ∧ k < (b.blocks.length : Int)))
    · simp
    · simp [show t.kind ≠ 1 by omega, show t.kind ≠ 3 by omega, show t.kind ≠ 4 by omega])
  rw [hfd] at HFD
  clear HR hQ hfd
  unfold ckC at *
  unfold tmC at *
  have k1 : (t.kind == 1) = false := by simp; omega
  have k3 : (t.kind == 3) = false := by simp; omega
  have k4 : (t.kind == 4) = false := by simp; omega
  go_enter Tryz.func80, Tryz.ntmps80
  go_wp2_with (go_at_call 127; refine (HFD.out _).mono ?_; rintro e' w1 ⟨rfl, hb1⟩; have HB := Lib.hid ((bel2 _ _ _).trans (hb1.mono (bel2 _ _ _).size)); obtain ⟨y, z⟩ := cells_two hb1; have HY := Lib.hid y; have HZ := Lib.hid z; have y0 := HY.out 0 _ rfl; have y1 := HY.out 1 _ rfl; have y2 := HY.out 2 _ rfl; have y3 := HY.out 3 _ rfl; have y4 := HY.out 4 _ rfl; have y5 := HY.out 5 _ rfl; have y6 := HY.out 6 _ rfl; have y7 := HY.out 7 _ rfl; have z0 := HZ.out 0 _ rfl; have z1 := HZ.out 1 _ rfl; have z2 := HZ.out 2 _ rfl; have z3 := HZ.out 3 _ rfl; have z4 := HZ.out 4 _ rfl; have z5 := HZ.out 5 _ rfl; clear y z hb1)
  all_goals try (exfalso; omega)
  go_loop [27] (fun v => ∃ k : Nat, k ≤ t.targets.length ∧ v = .int .i64 k ∧ Hid (R = if (t.targets.drop k).all (fun k => decide (0 ≤ k ∧ k < (b.blocks.length : Int))) = true then Q else 3)) (fun v => t.targets.length - (intOf v).toNat)
  case atStart => exact ⟨0, by omega, rfl, HF⟩
  case round =>
    clear HF
    obtain ⟨k, hk2, rfl, hr⟩ := hrel
    by_cases hlt : k < t.targets.length
    · have hd := drop_cons hlt
      obtain ⟨b5, o5, rfl, hb5, hx⟩ := HTG.out.sl.at_ hlt
      obtain ⟨x, hxx⟩ : ∃ x, t.targets[k] = x := ⟨_, rfl⟩
      rw [hxx] at hd hx
      have x0 : w1.cell? ⟨b5, o5 + k, none⟩ = some (.int .i64 x) := cell_keep HB.out (by simpa [RInt] using hx)
      by_cases hin : 0 ≤ x ∧ x < (b.blocks.length : Int)
      · have HF2 : Hid (R = if (t.targets.drop (k + 1)).all (fun k => decide (0 ≤ k ∧ k < (b.blocks.length : Int))) = true then Q else 3) := Lib.hid (by rw [hr.out, hd, List.all_cons]; simp [hin])
        have e1 : ¬ x < 0 := by omega
        have e2 : ¬ (b.blocks.length : Int) ≤ x := by omega
        clear hd hx hxx hr hin
        go_wp2_with fail
        all_goals try (exfalso; omega)
        go_round
        case rel => exact ⟨k + 1, by omega, by go_num, HF2⟩
        case measure => simp [intOf]; omega
      · have HF2 : Hid (R = 3) := Lib.hid (by rw [hr.out, hd, List.all_cons]; simp; intro h1 h2; exact absurd ⟨h1, h2⟩ hin)
        clear hd hx hxx hr
        go_wp2_with fail
        all_goals first
          | (exfalso; omega)
          | (go_ret; exact ⟨by rw [HF2.out]; rfl, HB.out⟩)
    · have HF2 : Hid (R = Q) := Lib.hid (by rw [hr.out, List.drop_eq_nil_of_le (by omega : t.targets.length ≤ k)]; rfl)
      clear hr
      go_wp2_with fail
      go_ret
      exact ⟨by rw [HF2.out, ← HQ.out]; rfl, HB.out⟩
end Go.Proofs.YtbnljlpefpllcaaGreatDoor
namespace Go.Proofs.YtbnljlpefpllcaaGreatDoor
open Go Go.RowKit Go.Maps
theorem term_any {b : Bdy} {bh : BH} {r : Nat} {w : World} (H : Ck w b bh r) (t : Trm) (A B C : Option Addr) (c d f : Nat) (ht : Slc 1 RInt w A c t.targets) (hl : Slc 4 ROp w B d t.args) (hp : Slc 2 RPj w C f t.place.proj) :
    Calls Tryz.prog 80 #[.agg (ckC b bh r).toArray, .agg (tmC t A c B d C f).toArray] w fun e' w' => e' = .returned (.int .i64 (tmE b t)) ∧ Below w.heap.size w w' := by
  by_cases h0 : t.kind < 0 ∨ 5 < t.kind
  · exact term_bad H t A B C c d f ht hl hp (Or.inl h0)
  obtain ⟨q, hq⟩ : ∃ q, fieldsT t = q := ⟨_, rfl⟩
  cases q
  · exact term_bad H t A B C c d f ht hl hp (Or.inr ⟨h0, hq⟩)
  rcases (show t.kind = 1 ∨ t.kind = 3 ∨ t.kind = 4 ∨ (t.kind = 0 ∨ t.kind = 2 ∨ t.kind = 5) by omega) with h | h | h | h
  · exact term_if H t A B C c d f ht hl hp h hq
  · exact term_call H t A B C c d f ht hl hp h hq
  · exact term_drop H t A B C c d f ht hl hp h hq
  · exact term_oth H t A B C c d f ht hl hp h hq
end Go.Proofs.YtbnljlpefpllcaaGreatDoor
namespace Go.Proofs.YtbnljlpefpllcaaGreatDoor
open Go Go.RowKit Go.Maps
theorem heap_setCells {k b : Nat} (hk : k ≠ b) : ∀ (vs : List Value) (o : Nat) (w : World), (w.setCells b o vs).heap[k]? = w.heap[k]?
  | [], _, _ => rfl
  | v :: vs, o, w => (heap_setCells hk vs (o + 1) _).trans (Below.heap_setCell w ⟨b, o, none⟩ v k hk)
theorem size_setCells (b : Nat) : ∀ (vs : List Value) (o : Nat) (w : World), (w.setCells b o vs).heap.size = w.heap.size
  | [], _, _ => rfl
  | v :: vs, o, w => (size_setCells b vs (o + 1) _).trans (by simp)
set_option maxRecDepth 100000 in
set_option maxHeartbeats 8000000 in
theorem newC_any (b : Bdy) (bh : BH) (w : World) (H : BdAt w b bh) (hok : DeclOk b) :
    Calls Tryz.prog 78 #[.agg (bdC b bh).toArray] w fun e' w' => ∃ r, e' = .returned (.agg (ckC b bh r).toArray) ∧ Ck w' b bh r ∧ Below w.heap.size w w' := by
  have HN := Lib.hid (fun (W : World) (hb : Below w.heap.size w W) => new_ok2 b.outl b.regions.length bh.A2 bh.c2 W (H.keep hb).out hok.outl (by have := hok.nreg; omega))
  have HH := Lib.hid H
  have HO := Lib.hid hok
  clear H hok
  unfold bdC ckC
  go_enter Tryz.func78, Tryz.ntmps78
  go_wp2_with (go_at_call 123; refine (HN.out _ (bel2 _ _ _)).mono ?_; rintro e' w1 ⟨r0, M0, c0, F0, ba0, rfl, hrel, hr0, hM0, hb1⟩; have HB := Lib.hid ((bel2 _ _ _).trans (hb1.mono (bel2 _ _ _).size)); have HREL := Lib.hid hrel; obtain ⟨y, z⟩ := cells_two hb1; have y0 := y 0 _ rfl; have y1 := y 1 _ rfl; have y2 := y 2 _ rfl; have y3 := y 3 _ rfl; have y4 := y 4 _ rfl; have y5 := y 5 _ rfl; have y6 := y 6 _ rfl; have h8 : w1.heap[w.heap.size + 1]? = some (.cells #[.string ⟨#[]⟩, .slice none 0 0, .slice none 0 0, .slice none 0 0, .slice none 0 0, .int .i64 0, .slice none 0 0, .pointer none] 137) := (hb1.block _ (by simp)).trans (by rw [alloc_at _ _ _ (by simp)]); have f8 : ∀ i, w1.frozen? ⟨w.heap.size + 1, i, none⟩ = false := (fun i => (by unfold World.frozen?; simp only [h8]; simp)); have z0 := z 0 _ rfl; have z1 := z 1 _ rfl; have z2 := z 2 _ rfl; have z3 := z 3 _ rfl; have z4 := z 4 _ rfl; have z5 := z 5 _ rfl; have z6 := z 6 _ rfl; have z7 := z 7 _ rfl; have H8 := Lib.hid h8; simp only [World.size_alloc] at hr0 hM0; clear h8 y z hb1 hrel)
  generalize hW2 : ((((((((w1.setCell ⟨w.heap.size + 1, 0, none⟩ (Value.string b.name)).setCell ⟨w.heap.size + 1, 1, none⟩ (Value.slice bh.A1 b.regions.length bh.c1)).setCell ⟨w.heap.size + 1, 2, none⟩ (Value.slice bh.A2 b.outl.length bh.c2)).setCell ⟨w.heap.size + 1, 3, none⟩ (Value.slice bh.A3 b.types.length bh.c3)).setCell ⟨w.heap.size + 1, 4, none⟩ (Value.slice bh.A4 b.locals.length bh.c4)).setCell ⟨w.heap.size + 1, 5, none⟩ (Value.int IntKind.i64 b.args)).setCell ⟨w.heap.size + 1, 6, none⟩ (Value.slice bh.A5 b.blocks.length bh.c5)).setCell ⟨w.heap.size + 1, 7, none⟩ (Value.pointer (some ⟨r0, 0, none⟩))) = W2
  have hW : w1.setCells (w.heap.size + 1) 0 (ckC b bh r0) = W2 := hW2
  have hth : w1.there (w.heap.size + 1) 0 8 := fun j hj => ⟨by
    rw [Nat.zero_add]
    match j, hj with
    | 0, _ => rw [z0]; rfl
    | 1, _ => rw [z1]; rfl
    | 2, _ => rw [z2]; rfl
    | 3, _ => rw [z3]; rfl
    | 4, _ => rw [z4]; rfl
    | 5, _ => rw [z5]; rfl
    | 6, _ => rw [z6]; rfl
    | 7, _ => rw [z7]; rfl, f8 _⟩
  have hcl := World.rangeAt_setCells_same w1 (w.heap.size + 1) 0 (ckC b bh r0) hth
  have hbo : ∀ k, k ≠ w.heap.size + 1 → W2.heap[k]? = w1.heap[k]? := fun k hk => by rw [← hW]; exact heap_setCells hk _ _ _
  have hsz : W2.heap.size = w1.heap.size := by rw [← hW]; exact size_setCells _ _ _ _
  have hGI := HREL.out.but (lo := w.heap.size + 2) hr0 hM0 (w' := W2) (fun k h1 _ => hbo k (by omega)) (by omega)
  have hBL : Below w.heap.size w W2 := by rw [← hW]; exact below_setCells (Nat.le_succ _) _ _ _ HB.out
  rw [hW] at hcl
  have v0 := hcl 0 _ rfl
  have v1 := hcl 1 _ rfl
  have v2 := hcl 2 _ rfl
  have v3 := hcl 3 _ rfl
  have v4 := hcl 4 _ rfl
  have v5 := hcl 5 _ rfl
  have v6 := hcl 6 _ rfl
  have v7 := hcl 7 _ rfl
  simp only [Nat.zero_add] at v0 v1 v2 v3 v4 v5 v6 v7
  have HCK := Lib.hid (show Ck W2 b bh r0 from ⟨HH.out.keep hBL, HO.out, hGI.rel3⟩)
  have HBL := Lib.hid hBL
  clear hGI hbo hcl hth hW hW2 hsz hBL HREL HH HO f8 z0 z1 z2 z3 z4 z5 z6 z7
  exact bodyPost_ret (v := .agg (ckC b bh r0).toArray) (by simp [results, Tryz.results78, go_sem, v0, v1, v2, v3, v4, v5, v6, v7]; rfl) rfl ⟨r0, rfl, HCK.out, HBL.out⟩
end Go.Proofs.YtbnljlpefpllcaaGreatDoor
