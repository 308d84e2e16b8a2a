/-
  Parts of the proof: V34 V35 V36 V13 V49.
-/
import Derived.Test.YtbnljlpefpllcaaGreatDoorMD16
import Derived.Test.YtbnljlpefpllcaaGreatDoorMD7
import Derived.Test.YtbnljlpefpllcaaGreatDoorMD14
import Derived.Test.YtbnljlpefpllcaaGreatDoorMD12
namespace Go.Proofs.YtbnljlpefpllcaaGreatDoor
open Go Go.RowKit Go.Maps
theorem opsE_done (b : Bdy) (fs : List Int) : opsE b [] fs = 0 := by rw [opsE]
theorem opsE_bad {b : Bdy} {o : Opd} (h : opE b o ≠ 0) (r : List Opd) (fs : List Int) : opsE b (o :: r) fs = opE b o := by
  cases fs <;> (rw [opsE, if_neg h])
theorem opsE_none {b : Bdy} {o : Opd} (h : opE b o = 0) (r : List Opd) : opsE b (o :: r) [] = opsE b r [] := by rw [opsE, if_pos h]
theorem opsE_some {b : Bdy} {o : Opd} (h : opE b o = 0) (r : List Opd) (f : Int) (fs : List Int) : opsE b (o :: r) (f :: fs) = if fitsO b o f = true then opsE b r fs else 22 := by rw [opsE, if_pos h]
theorem keepO {w W : World} {o : Obj} {p : Addr} {v : Value} (hb : Below (w.alloc o).heap.size (w.alloc o) W) (h : w.cell? p = some v) : W.cell? p = some v :=
  cell_keep hb (((((Below.refl w.heap.size w).alloc (Nat.le_refl _) o).cell (p := p) (World.block_lt_of_cell? w p h))).trans h)
theorem cells_past {W w1 : World} {n : Nat} {l : List Value} {o : Obj} (h : ∀ i v, l[i]? = some v → W.cell? ⟨n, i, none⟩ = some v) (hb : Below (W.alloc o).heap.size (W.alloc o) w1) : ∀ i v, l[i]? = some v → w1.cell? ⟨n, i, none⟩ = some v :=
  fun i v hi => keepO hb (h i v hi)
set_option maxRecDepth 100000 in
set_option maxHeartbeats 8000000 in
theorem operands_any {b : Bdy} {bh : BH} {r : Nat} {w : World} (H : Ck w b bh r) (l : List Opd) (fs : List Int) (A C : Option Addr) (d f : Nat) (hl : Slc 4 ROp w A d l) (hf : Slc 1 RInt w C f fs) (hfr : ∀ x ∈ fs, 0 ≤ x ∧ x < (b.types.length : Int)) :
    Calls Tryz.prog 131 #[.agg (ckC b bh r).toArray, .slice A l.length d, .slice C fs.length f] w fun e' w' => e' = .returned (.int .i64 (opsE b l fs)) ∧ Below w.heap.size w w' := by
  have hle := hl.le
  have hbig := hl.big
  have hle2 := hf.le
  have hbig2 := hf.big
  have HO := Lib.hid (fun (W : World) (hb : Below w.heap.size w W) (o : Opd) (A : Option Addr) (c : Nat) (hp : Slc 2 RPj w A c o.place.proj) => operand_c (H.keep hb) o A c (hp.keep RPj.keeps hb))
  have HFT := Lib.hid (fun (W : World) (hb : Below w.heap.size w W) (o : Opd) (A : Option Addr) (c : Nat) (hp : Slc 2 RPj w A c o.place.proj) (ho : opE b o = 0) (f : Int) (h0 : 0 ≤ f) (hf : f < b.types.length) => fits_c (H.keep hb) o A c (hp.keep RPj.keeps hb) ho f h0 hf)
  have HL := Lib.hid hl
  have HFS := Lib.hid hf
  obtain ⟨R, hR⟩ : ∃ R, opsE b l fs = R := ⟨_, rfl⟩
  rw [hR]
  have HR := Lib.hid hR
  have HX0 := Lib.hid (cells_new w (ckC b bh r) 137)
  clear hR hl hf H
  unfold ckC at HO HFT HX0 ⊢
  go_enter Tryz.func131, Tryz.ntmps131
  go_wp2_with fail
  go_loopw [12] (fun v wr => ∃ k : Nat, k ≤ l.length ∧ v = .int .i64 k ∧ Hid (∀ i v, [Value.string b.name, .slice bh.A1 b.regions.length bh.c1, .slice bh.A2 b.outl.length bh.c2, .slice bh.A3 b.types.length bh.c3, .slice bh.A4 b.locals.length bh.c4, .int .i64 b.args, .slice bh.A5 b.blocks.length bh.c5, .pointer (some ⟨r, 0, none⟩)][i]? = some v → wr.cell? ⟨w.heap.size, i, none⟩ = some v) ∧ Hid (Below w.heap.size w wr) ∧ w.heap.size + 1 ≤ wr.heap.size ∧ Hid (R = opsE b (l.drop k) (fs.drop k))) (fun v _ => l.length - (intOf v).toNat)
  case atStart => exact ⟨0, by omega, rfl, HX0, Lib.hid ((Below.refl _ _).alloc (Nat.le_refl _) _), by simp, Lib.hid HR.out.symm⟩
  case round =>
    clear HX0
    obtain ⟨k, hk, rfl, HX, HB, hsz, hr⟩ := hrel
    have hlw : w.heap.size < wr.heap.size := hsz
    have x0 := HX.out 0 _ rfl
    have x1 := HX.out 1 _ rfl
    have x2 := HX.out 2 _ rfl
    have x3 := HX.out 3 _ rfl
    have x4 := HX.out 4 _ rfl
    have x5 := HX.out 5 _ rfl
    have x6 := HX.out 6 _ rfl
    have x7 := HX.out 7 _ rfl
    by_cases hlt : k < l.length
    · have hd := drop_cons hlt
      obtain ⟨bb, oo, rfl, hbb, hx⟩ := HL.out.sl.at_ hlt
      obtain ⟨o, hxx⟩ : ∃ o, l[k] = o := ⟨_, rfl⟩
      rw [hxx] at hd hx
      obtain ⟨p0, ⟨p1, A2, c2, p2, hc1, hc2, hsl⟩, p3⟩ := hx
      have HPJ : Hid (Slc 2 RPj w A2 c2 o.place.proj) := Lib.hid ⟨hsl, hc1, hc2⟩
      replace p0 := cell_keep HB.out p0
      replace p1 := cell_keep HB.out p1
      replace p2 := cell_keep HB.out p2
      replace p3 := cell_keep HB.out p3
      rw [Nat.add_assoc (oo + k * 4) 1 1] at p2
      have HOK := Lib.hid (fun W hb => HO.out W hb o A2 c2 HPJ.out)
      have HQ : Hid (R = opsE b (o :: l.drop (k + 1)) (fs.drop k)) := Lib.hid (by rw [hr.out, hd])
      clear hd hxx hsl hc1 hc2 hr
      unfold opC at HOK
      by_cases he : opE b o = 0
      · have HE := Lib.hid he
        rw [he] at HOK
        have HBA := Lib.hid (HB.out.alloc (by omega) (.cells (opC o A2 c2).toArray 175))
        by_cases hkf : k < fs.length
        · obtain ⟨b3, o3, rfl, hb3, hy⟩ := HFS.out.sl.at_ hkf
          have hyr := hfr fs[k] (List.getElem_mem hkf)
          obtain ⟨y, hyy⟩ : ∃ y, fs[k] = y := ⟨_, rfl⟩
          have hd2 := drop_cons hkf
          rw [hyy] at hy hyr hd2
          have y0 : w.cell? ⟨b3, o3 + k, none⟩ = some (.int .i64 y) := by simpa [RInt] using hy
          have HY0 := Lib.hid y0
          have HQ2 : Hid (R = if fitsO b o y = true then opsE b (l.drop (k + 1)) (fs.drop (k + 1)) else 22) := Lib.hid (by rw [HQ.out, hd2, opsE_some he])
          have HFK := Lib.hid (fun W hb => HFT.out W hb o A2 c2 HPJ.out he y hyr.1 hyr.2)
          unfold opC at HFK
          have ek : decide ((k : Int) < (fs.length : Int)) = true := by simp; omega
          have EK := Lib.hid ek
          clear hy hyy hyr hd2 he HQ y0 ek
          generalize fitsO b o y = q at HFK HQ2
          go_wp2_with (go_at_call 128; refine (HOK.out _ HBA.out).mono ?_; rintro e' w1 ⟨rfl, hb1⟩; have HB1 := Lib.hid hb1; have HW1 := Lib.hid (HBA.out.trans (hb1.mono HBA.out.size)); clear hb1)
          have hS := And.intro (cells_past HX.out HB1.out) (And.intro (cells_kept (cells_new wr (opC o A2 c2) 175) HB1.out) (cell_keep HW1.out HY0.out))
          replace hS : (∀ i v, [Value.string b.name, .slice bh.A1 b.regions.length bh.c1, .slice bh.A2 b.outl.length bh.c2, .slice bh.A3 b.types.length bh.c3, .slice bh.A4 b.locals.length bh.c4, .int .i64 b.args, .slice bh.A5 b.blocks.length bh.c5, .pointer (some ⟨r, 0, none⟩)][i]? = some v → w1.drew.cell? ⟨w.heap.size, i, none⟩ = some v) ∧ (∀ i v, (opC o A2 c2)[i]? = some v → w1.drew.cell? ⟨wr.heap.size, i, none⟩ = some v) ∧ w1.drew.cell? ⟨b3, o3 + k, none⟩ = some (.int .i64 y) := hS
          clear x0 x1 x2 x3 x4 x5 x6 x7 p0 p1 p2 p3
          refine wp_region_o (S := fun X => (∀ i v, [Value.string b.name, .slice bh.A1 b.regions.length bh.c1, .slice bh.A2 b.outl.length bh.c2, .slice bh.A3 b.types.length bh.c3, .slice bh.A4 b.locals.length bh.c4, .int .i64 b.args, .slice bh.A5 b.blocks.length bh.c5, .pointer (some ⟨r, 0, none⟩)][i]? = some v → X.cell? ⟨w.heap.size, i, none⟩ = some v) ∧ (∀ i v, (opC o A2 c2)[i]? = some v → X.cell? ⟨wr.heap.size, i, none⟩ = some v) ∧ X.cell? ⟨b3, o3 + k, none⟩ = some (.int .i64 y)) [0, 1, 2, 3, 4, 5, 6, 7, 8, 9, 10, 11, 12, 13] (by kernel_rfl) ?_
          (iterate 4 (refine wpO_take (v := ?_) (by kernel_rfl) (fun _ _ _ h => h) (Or.inl ⟨by rfl, ?_⟩) hS ?_; rotate_left; (next => (rintro X -; (try simp only [List.getD_cons_zero, List.getD_cons_succ, List.getElem?_toArray, List.getElem?_cons_zero, List.getElem?_cons_succ, Option.getD_some]); go_simp; rfl)); simp only [List.getD_cons_zero, List.getD_cons_succ, List.getElem?_toArray, List.getElem?_cons_zero, List.getElem?_cons_succ, Option.getD_some, Act.put, List.setIfInBounds_toArray, List.set_cons_zero, List.set_cons_succ]))
          try rw [EK.out]
          (iterate 7 (refine wpO_take (v := ?_) (by kernel_rfl) (fun _ _ _ h => h) (Or.inl ⟨by rfl, ?_⟩) hS ?_; rotate_left; (next => (rintro X ⟨hX, hY, s8⟩; have s0 := hX 0 _ rfl; have s1 := hX 1 _ rfl; have s2 := hX 2 _ rfl; have s3 := hX 3 _ rfl; have s4 := hX 4 _ rfl; have s5 := hX 5 _ rfl; have s6 := hX 6 _ rfl; have s7 := hX 7 _ rfl; have u0 := hY 0 _ rfl; have u1 := hY 1 _ rfl; have u2 := hY 2 _ rfl; have u3 := hY 3 _ rfl; (try simp only [List.getD_cons_zero, List.getD_cons_succ, List.getElem?_toArray, List.getElem?_cons_zero, List.getElem?_cons_succ, Option.getD_some]); go_simp; rfl)); simp only [List.getD_cons_zero, List.getD_cons_succ, List.getElem?_toArray, List.getElem?_cons_zero, List.getElem?_cons_succ, Option.getD_some, Act.put, List.setIfInBounds_toArray, List.set_cons_zero, List.set_cons_succ]))
          (refine wpO_one (by kernel_rfl) (fun K1 hK1 => ?_); simp only [List.getD_cons_zero, List.getD_cons_succ, List.getElem?_toArray, List.getElem?_cons_zero, List.getElem?_cons_succ, Option.getD_some, Act.put, List.setIfInBounds_toArray, List.set_cons_zero, List.set_cons_succ]; rw [if_pos (by rfl)]; go_simp)
          refine (HFK.out _ HW1.out.drew).mono ?_
          rintro e' w2 ⟨rfl, hb⟩
          replace hS := And.intro (fun i v hi => cell_keep hb (hS.1 i v hi)) (And.intro (fun i v hi => cell_keep hb (hS.2.1 i v hi)) (cell_keep hb hS.2.2))
          have HW2 := Lib.hid (HW1.out.drew.trans (hb.mono HW1.out.size))
          have hsz2 := HW1.out.size
          have hsz3 := hb.size
          have hsz4 := HB1.out.size
          simp only [World.size_alloc] at hsz4
          clear hb
          refine hK1.out _ _ (fun _ => hS) ?_
          (iterate 2 (refine wpO_take (v := ?_) (by kernel_rfl) (fun _ _ _ h => h) (Or.inl ⟨by rfl, ?_⟩) hS ?_; rotate_left; (next => (rintro X -; (try simp only [List.getD_cons_zero, List.getD_cons_succ, List.getElem?_toArray, List.getElem?_cons_zero, List.getElem?_cons_succ, Option.getD_some]); go_simp; rfl)); simp only [List.getD_cons_zero, List.getD_cons_succ, List.getElem?_toArray, List.getElem?_cons_zero, List.getElem?_cons_succ, Option.getD_some, Act.put, List.setIfInBounds_toArray, List.set_cons_zero, List.set_cons_succ]))
          refine wpO_done (by kernel_rfl) ?_
          cases q
          · have HF : Hid (R = 22) := HQ2
            clear HQ2
            go_wp2_with fail
            go_ret
            exact ⟨by rw [HF.out]; rfl, HW2.out⟩
          · have HF : Hid (R = opsE b (l.drop (k + 1)) (fs.drop (k + 1))) := HQ2
            have HX2 := Lib.hid hS.1
            clear HQ2 hS
            go_wp2_with fail
            go_roundw
            case rel => exact ⟨k + 1, by omega, by go_num, HX2, HW2, by have : w1.drew.heap.size = w1.heap.size := rfl; omega, HF⟩
            case measure => simp [intOf]; omega
        · have ek : decide ((k : Int) < (fs.length : Int)) = false := by simp; omega
          have EK := Lib.hid ek
          have HF : Hid (R = opsE b (l.drop (k + 1)) (fs.drop (k + 1))) := Lib.hid (by rw [HQ.out, List.drop_eq_nil_of_le (by omega : fs.length ≤ k), List.drop_eq_nil_of_le (by omega : fs.length ≤ k + 1), opsE_none he])
          clear he HQ ek
          go_wp2_with (go_at_call 128; refine (HOK.out _ HBA.out).mono ?_; rintro e' w1 ⟨rfl, hb1⟩; have HB1 := Lib.hid hb1; have HW1 := Lib.hid (HBA.out.trans (hb1.mono HBA.out.size)); clear hb1)
          have hS : True := trivial
          have HX2 := Lib.hid (cells_past HX.out HB1.out)
          have hsz4 := HB1.out.size
          simp only [World.size_alloc] at hsz4
          clear x0 x1 x2 x3 x4 x5 x6 x7 p0 p1 p2 p3
          refine wp_region_o (S := fun _ => True) [0, 1, 2, 3, 4, 5, 6, 7, 8, 9, 10, 11, 12, 13] (by kernel_rfl) ?_
          (iterate 4 (refine wpO_take (v := ?_) (by kernel_rfl) (fun _ _ _ h => h) (Or.inl ⟨by rfl, ?_⟩) hS ?_; rotate_left; (next => (rintro X -; (try simp only [List.getD_cons_zero, List.getD_cons_succ, List.getElem?_toArray, List.getElem?_cons_zero, List.getElem?_cons_succ, Option.getD_some]); go_simp; rfl)); simp only [List.getD_cons_zero, List.getD_cons_succ, List.getElem?_toArray, List.getElem?_cons_zero, List.getElem?_cons_succ, Option.getD_some, Act.put, List.setIfInBounds_toArray, List.set_cons_zero, List.set_cons_succ]))
          try rw [EK.out]
          (iterate 1 (refine wpO_take (v := ?_) (by kernel_rfl) (fun _ _ _ h => h) (Or.inl ⟨by rfl, ?_⟩) hS ?_; rotate_left; (next => (rintro X -; (try simp only [List.getD_cons_zero, List.getD_cons_succ, List.getElem?_toArray, List.getElem?_cons_zero, List.getElem?_cons_succ, Option.getD_some]); go_simp; rfl)); simp only [List.getD_cons_zero, List.getD_cons_succ, List.getElem?_toArray, List.getElem?_cons_zero, List.getElem?_cons_succ, Option.getD_some, Act.put, List.setIfInBounds_toArray, List.set_cons_zero, List.set_cons_succ]))
          (iterate 8 (refine wpO_take (v := undef) (by kernel_rfl) (fun _ _ _ h => h) (Or.inr ⟨by rfl, rfl⟩) hS ?_; simp only [List.getD_cons_zero, List.getD_cons_succ, List.getElem?_toArray, List.getElem?_cons_zero, List.getElem?_cons_succ, Option.getD_some, Act.put, List.setIfInBounds_toArray, List.set_cons_zero, List.set_cons_succ]))
          (iterate 1 (refine wpO_take (v := ?_) (by kernel_rfl) (fun _ _ _ h => h) (Or.inl ⟨by rfl, ?_⟩) hS ?_; rotate_left; (next => (rintro X -; (try simp only [List.getD_cons_zero, List.getD_cons_succ, List.getElem?_toArray, List.getElem?_cons_zero, List.getElem?_cons_succ, Option.getD_some]); go_simp; rfl)); simp only [List.getD_cons_zero, List.getD_cons_succ, List.getElem?_toArray, List.getElem?_cons_zero, List.getElem?_cons_succ, Option.getD_some, Act.put, List.setIfInBounds_toArray, List.set_cons_zero, List.set_cons_succ]))
          refine wpO_done (by kernel_rfl) ?_
          go_wp2_with fail
          go_roundw
          case rel => exact ⟨k + 1, by omega, by go_num, HX2, Lib.hid HW1.out.drew, by have : w1.drew.heap.size = w1.heap.size := rfl; omega, HF⟩
          case measure => simp [intOf]; omega
      · have HF : Hid (R = opE b o) := Lib.hid (by rw [HQ.out, opsE_bad he])
        generalize opE b o = eo at HOK HF he
        have e1 : (eo != 0) = true := by simp [he]
        have HBA := Lib.hid (HB.out.alloc (by omega) (.cells (opC o A2 c2).toArray 175))
        clear he HQ
        go_wp2_with (go_at_call 128; refine (HOK.out _ HBA.out).mono ?_; rintro e' w1 ⟨rfl, hb1⟩; have HW1 := Lib.hid (HBA.out.trans (hb1.mono HBA.out.size)); clear hb1)
        go_ret
        exact ⟨by rw [HF.out]; rfl, HW1.out⟩
    · have HF : Hid (R = 0) := Lib.hid (by rw [hr.out, List.drop_eq_nil_of_le (by omega : l.length ≤ k), opsE_done])
      clear hr
      go_wp2_with fail
      go_ret
      exact ⟨by rw [HF.out]; rfl, HB.out⟩
end Go.Proofs.YtbnljlpefpllcaaGreatDoor
namespace Go.Proofs.YtbnljlpefpllcaaGreatDoor
open Go Go.RowKit Go.Maps
theorem opsE_all {b : Bdy} : ∀ {l : List Opd}, opsE b l [] = 0 → ∀ o ∈ l, opE b o = 0
  | [], _ => by simp
  | o :: r, h => by
    by_cases he : opE b o = 0
    · rw [opsE_none he] at h
      intro x hx
      rcases List.mem_cons.1 hx with rfl | hx
      · exact he
      · exact opsE_all h x hx
    · rw [opsE_bad he] at h
      exact absurd h he
theorem two_cells (w : World) (x y : Value) (t : TypeId) (k : Nat) (hk : k = w.heap.size) : (w.alloc (.cells #[x, y] t)).cell? ⟨k, 0, none⟩ = some x ∧ (w.alloc (.cells #[x, y] t)).cell? ⟨k, 1, none⟩ = some y := by
  subst hk
  exact ⟨cells_new w [x, y] t 0 _ rfl, cells_new w [x, y] t 1 _ rfl⟩
set_option maxRecDepth 100000 in
set_option maxHeartbeats 8000000 in
theorem operation_any {b : Bdy} {bh : BH} {r : Nat} {w : World} (H : Ck w b bh r) (rv : Rvl) (t : Nat) (ht : t < b.types.length) (tab : List (Int × Int)) (A B T : Option Addr) (c d tc : Nat) (hl : Slc 4 ROp w B d rv.args) (hT : Slc 2 RPr w T tc tab) :
    Calls Tryz.prog 178 #[.agg (ckC b bh r).toArray, .agg (rvC rv A c B d).toArray, .int .i64 t, .slice T tab.length tc] w fun e' w' => e' = .returned (.int .i64 (operE b rv t tab)) ∧ Below w.heap.size w w' := by
  have hle := hl.le
  have hbig := hl.big
  have hle2 := hT.le
  have hbig2 := hT.big
  have HP := Lib.hid (fun (W : World) (hb : Below w.heap.size w W) => operands_any (H.keep hb) rv.args [] B none d 0 (hl.keep ROp.keeps hb) ⟨Sl.nil, by simp, by omega⟩ (by simp))
  have HK := Lib.hid (fun (W : World) (hb : Below w.heap.size w W) (o : Opd) (A : Option Addr) (c : Nat) (hp : Slc 2 RPj w A c o.place.proj) (ho : opE b o = 0) => kindOf_c (H.keep hb) o A c (hp.keep RPj.keeps hb) ho)
  have HL := Lib.hid hl
  have HTB := Lib.hid hT
  have HTY := Lib.hid H.at_.typ
  obtain ⟨R, hR⟩ : ∃ R, operE b rv t tab = R := ⟨_, rfl⟩
  rw [hR]
  have HR := Lib.hid hR
  clear hR hl hT H
  unfold operE at HR
  unfold ckC at HP HK ⊢
  unfold rvC
  by_cases h0 : rv.op < 0 ∨ (tab.length : Int) ≤ rv.op
  · have HF : Hid (R = 14) := Lib.hid (by rw [← HR.out, if_pos h0])
    clear HR HP HK
    go_enter Tryz.func178, Tryz.ntmps178
    go_wp2_with fail
    all_goals first
      | (exfalso; omega)
      | (go_ret; exact ⟨by rw [HF.out]; rfl, by (repeat (first | exact Below.refl _ _ | assumption | refine Below.alloc ?_ (by first | omega | (simp; done) | (simp; omega)) _ | refine below_drewN ?_ _ | refine Below.drew ?_ | refine Below.setCell ?_ (by first | omega | (simp; done) | (simp; omega)) _))⟩)
  have h1 : ¬ rv.op < 0 := by omega
  have h2 : ¬ (tab.length : Int) ≤ rv.op := by omega
  obtain ⟨n, hn⟩ := Int.eq_ofNat_of_zero_le (show 0 ≤ rv.op by omega)
  have hnl : n < tab.length := by omega
  by_cases he : opsE b rv.args [] = 0
  case neg =>
    have HF : Hid (R = opsE b rv.args []) := Lib.hid (by rw [← HR.out, if_neg h0, if_pos he])
    generalize opsE b rv.args [] = eo at HP HF he
    have e1 : (eo != 0) = true := by simp [he]
    clear HR HK he h0
    go_enter Tryz.func178, Tryz.ntmps178
    go_wp2_with (go_at_call 131; refine (HP.out _ (bel2 _ _ _)).mono ?_; rintro e' w1 ⟨rfl, hb1⟩; have HB := Lib.hid ((bel2 _ _ _).trans (hb1.mono (bel2 _ _ _).size)); clear hb1)
    go_ret
    exact ⟨by rw [HF.out]; rfl, HB.out⟩
  case pos =>
  obtain ⟨bt, ot, rfl, hbt, hxt⟩ := HTB.out.sl.at_ hnl
  obtain ⟨bb, oo, hA3, hbb, hxx⟩ := HTY.out.sl.at_ ht
  obtain ⟨ty, hty⟩ : ∃ ty, b.types[t] = ty := ⟨_, rfl⟩
  obtain ⟨x, hx⟩ : ∃ x, tab[n] = x := ⟨_, rfl⟩
  rw [hty] at hxx
  rw [hx] at hxt
  obtain ⟨q0, -⟩ := hxx
  obtain ⟨u0, u1⟩ := hxt
  have HE := Lib.hid (opsE_all he)
  have hkt : kindT b (t : Int) = ty.kind := by unfold kindT; simp [ht, hty]
  have HF : Hid (R = if rv.args.all (fun o => decide (kindO b o = x.1)) = true then fail22 (decide (ty.kind ≠ x.2)) else 22) := Lib.hid (by
    rw [← HR.out, if_neg h0, if_neg (by simpa using he), hn]
    simp only [Int.toNat_natCast]
    rw [List.getElem?_eq_getElem hnl, hx]
    simp only [hkt])
  rw [he] at HP
  have Q0 := Lib.hid q0
  clear HR h0 he hx hty hkt
  obtain ⟨x1, x2⟩ := x
  simp only at u0 u1 HF
  rw [hA3] at HP HK ⊢
  rw [hn]
  rw [hn] at h1 h2
  go_enter Tryz.func178, Tryz.ntmps178
  go_wp2_with (go_at_call 131; refine (HP.out _ (bel2 _ _ _)).mono ?_; rintro e' w1 ⟨rfl, hb1⟩; have HB := Lib.hid ((bel2 _ _ _).trans (hb1.mono (bel2 _ _ _).size)); obtain ⟨y, z⟩ := cells_two hb1; have HY := Lib.hid y; have HZ := Lib.hid z; have y3 := y 3 _ rfl; have z1 := z 1 _ rfl; have z5 := z 6 _ rfl; have v0 := cell_keep HB.out u0; have v1 := cell_keep HB.out u1; have hlw := hb1.size; simp only [World.size_alloc] at hlw; have hlw1 : w.heap.size + 1 < w1.heap.size := hlw; have hlw0 : w.heap.size < w1.heap.size := Nat.lt_of_succ_lt hlw; clear y z hb1)
  have HXC := Lib.hid (two_cells w1 (.int .i64 x1) (.int .i64 x2) 248 _ rfl)
  have HY1 : Hid (∀ i v, [Value.string b.name, .slice bh.A1 b.regions.length bh.c1, .slice bh.A2 b.outl.length bh.c2, .slice (some ⟨bb, oo, none⟩) b.types.length bh.c3, .slice bh.A4 b.locals.length bh.c4, .int .i64 b.args, .slice bh.A5 b.blocks.length bh.c5, .pointer (some ⟨r, 0, none⟩)][i]? = some v → (w1.alloc (.cells #[.int .i64 x1, .int .i64 x2] 248)).cell? ⟨w.heap.size, i, none⟩ = some v) := Lib.hid (fun i v hi => cell_keep ((Below.refl _ _).alloc (Nat.le_refl _) _) (HY.out i v hi))
  have HBL := Lib.hid (HB.out.alloc HB.out.size (.cells #[.int .i64 x1, .int .i64 x2] 248))
  clear HY HZ
  go_loopw [38] (fun v wr => ∃ k : Nat, k ≤ rv.args.length ∧ v = .int .i64 k ∧ Hid (∀ i v, [Value.string b.name, .slice bh.A1 b.regions.length bh.c1, .slice bh.A2 b.outl.length bh.c2, .slice (some ⟨bb, oo, none⟩) b.types.length bh.c3, .slice bh.A4 b.locals.length bh.c4, .int .i64 b.args, .slice bh.A5 b.blocks.length bh.c5, .pointer (some ⟨r, 0, none⟩)][i]? = some v → wr.cell? ⟨w.heap.size, i, none⟩ = some v) ∧ Hid (wr.cell? ⟨w1.heap.size, 0, none⟩ = some (.int .i64 x1) ∧ wr.cell? ⟨w1.heap.size, 1, none⟩ = some (.int .i64 x2)) ∧ Hid (Below w.heap.size w wr) ∧ w1.heap.size + 1 ≤ wr.heap.size ∧ Hid (R = if (rv.args.drop k).all (fun o => decide (kindO b o = x1)) = true then fail22 (decide (ty.kind ≠ x2)) else 22)) (fun v _ => rv.args.length - (intOf v).toNat)
  case atStart => exact ⟨0, by omega, rfl, HY1, HXC, HBL, by simp, HF⟩
  case round =>
    clear HY1 HXC HBL HF
    obtain ⟨k, hk, rfl, HX, HXC, HBR, hsz, hr⟩ := hrel
    by_cases hlt : k < rv.args.length
    · have hd := drop_cons hlt
      obtain ⟨b5, o5, rfl, hb5, hx⟩ := HL.out.sl.at_ hlt
      have he := HE.out _ (List.getElem_mem hlt)
      obtain ⟨o, hxx⟩ : ∃ o, rv.args[k] = o := ⟨_, rfl⟩
      rw [hxx] at hd hx he
      obtain ⟨p0, ⟨p1, A2, c2, p2, hc1, hc2, hsl⟩, p3⟩ := hx
      have HPJ : Hid (Slc 2 RPj w A2 c2 o.place.proj) := Lib.hid ⟨hsl, hc1, hc2⟩
      replace p0 := cell_keep HBR.out p0
      replace p1 := cell_keep HBR.out p1
      replace p2 := cell_keep HBR.out p2
      replace p3 := cell_keep HBR.out p3
      rw [Nat.add_assoc (o5 + k * 4) 1 1] at p2
      have HKK := Lib.hid (fun W hb => HK.out W hb o A2 c2 HPJ.out he)
      have HQ : Hid (R = if kindO b o = x1 then (if (rv.args.drop (k + 1)).all (fun o => decide (kindO b o = x1)) = true then fail22 (decide (ty.kind ≠ x2)) else 22) else 22) := Lib.hid (by rw [hr.out, hd, List.all_cons]; by_cases h : kindO b o = x1 <;> simp [h])
      clear hd hxx hsl hc1 hc2 hr he
      unfold opC at HKK
      generalize kindO b o = ko at HKK HQ
      have HBA := Lib.hid ((HBR.out.alloc HBR.out.size (.cells (opC o A2 c2).toArray 175)).drew)
      have HQ2 : Hid ((ko = x1 → R = (if (rv.args.drop (k + 1)).all (fun o => decide (kindO b o = x1)) = true then fail22 (decide (ty.kind ≠ x2)) else 22)) ∧ (ko ≠ x1 → R = 22)) := Lib.hid ⟨fun h => by rw [HQ.out, if_pos h], fun h => by rw [HQ.out, if_neg h]⟩
      clear HQ
      go_wp2_with fail
      have hS : (∀ i v, [Value.string b.name, .slice bh.A1 b.regions.length bh.c1, .slice bh.A2 b.outl.length bh.c2, .slice (some ⟨bb, oo, none⟩) b.types.length bh.c3, .slice bh.A4 b.locals.length bh.c4, .int .i64 b.args, .slice bh.A5 b.blocks.length bh.c5, .pointer (some ⟨r, 0, none⟩)][i]? = some v → (wr.alloc (.cells (opC o A2 c2).toArray 175)).drew.cell? ⟨w.heap.size, i, none⟩ = some v) ∧ (∀ i v, (opC o A2 c2)[i]? = some v → (wr.alloc (.cells (opC o A2 c2).toArray 175)).drew.cell? ⟨wr.heap.size, i, none⟩ = some v) ∧ (wr.alloc (.cells (opC o A2 c2).toArray 175)).drew.cell? ⟨w1.heap.size, 0, none⟩ = some (.int .i64 x1) ∧ (wr.alloc (.cells (opC o A2 c2).toArray 175)).drew.cell? ⟨w1.heap.size, 1, none⟩ = some (.int .i64 x2) :=
        ⟨fun i v hi => cell_keep (((Below.refl _ _).alloc (Nat.le_refl _) _).drew) (HX.out i v hi), cells_new wr (opC o A2 c2) 175, cell_keep (((Below.refl _ _).alloc (Nat.le_refl _) _).drew) HXC.out.1, cell_keep (((Below.refl _ _).alloc (Nat.le_refl _) _).drew) HXC.out.2⟩
      clear p0 p1 p2 p3
      refine wp_region_o (S := fun X => (∀ i v, [Value.string b.name, .slice bh.A1 b.regions.length bh.c1, .slice bh.A2 b.outl.length bh.c2, .slice (some ⟨bb, oo, none⟩) b.types.length bh.c3, .slice bh.A4 b.locals.length bh.c4, .int .i64 b.args, .slice bh.A5 b.blocks.length bh.c5, .pointer (some ⟨r, 0, none⟩)][i]? = some v → X.cell? ⟨w.heap.size, i, none⟩ = some v) ∧ (∀ i v, (opC o A2 c2)[i]? = some v → X.cell? ⟨wr.heap.size, i, none⟩ = some v) ∧ X.cell? ⟨w1.heap.size, 0, none⟩ = some (.int .i64 x1) ∧ X.cell? ⟨w1.heap.size, 1, none⟩ = some (.int .i64 x2)) [0, 1, 3, 4, 2, 5] (by kernel_rfl) ?_
      (iterate 4 (refine wpO_take (v := ?_) (by kernel_rfl) (fun _ _ _ h => h) (Or.inl ⟨by rfl, ?_⟩) hS ?_; rotate_left; (next => (rintro X ⟨hX, hY, s8, s9⟩; have s0 := hX 0 _ rfl; have s1 := hX 1 _ rfl; have s2 := hX 2 _ rfl; have s3 := hX 3 _ rfl; have s4 := hX 4 _ rfl; have s5 := hX 5 _ rfl; have s6 := hX 6 _ rfl; have s7 := hX 7 _ rfl; have u0 := hY 0 _ rfl; have u1 := hY 1 _ rfl; have u2 := hY 2 _ rfl; have u3 := hY 3 _ rfl; (try simp only [List.getD_cons_zero, List.getD_cons_succ, List.getElem?_toArray, List.getElem?_cons_zero, List.getElem?_cons_succ, Option.getD_some]); go_simp; rfl)); simp only [List.getD_cons_zero, List.getD_cons_succ, List.getElem?_toArray, List.getElem?_cons_zero, List.getElem?_cons_succ, Option.getD_some, Act.put, List.setIfInBounds_toArray, List.set_cons_zero, List.set_cons_succ]))
      (refine wpO_one (by kernel_rfl) (fun K1 hK1 => ?_); simp only [List.getD_cons_zero, List.getD_cons_succ, List.getElem?_toArray, List.getElem?_cons_zero, List.getElem?_cons_succ, Option.getD_some, Act.put, List.setIfInBounds_toArray, List.set_cons_zero, List.set_cons_succ]; rw [if_pos (by rfl)]; go_simp)
      refine (HKK.out _ HBA.out).mono ?_
      rintro e' w2 ⟨rfl, hb⟩
      replace hS := And.intro (fun i v hi => cell_keep hb (hS.1 i v hi)) (And.intro (fun i v hi => cell_keep hb (hS.2.1 i v hi)) (And.intro (cell_keep hb hS.2.2.1) (cell_keep hb hS.2.2.2)))
      have HW2 := Lib.hid (HBA.out.trans (hb.mono HBA.out.size))
      have hsz3 := hb.size
      have hsz4 : wr.heap.size + 1 ≤ w2.heap.size := by simpa using hsz3
      clear hb hsz3
      refine hK1.out _ _ (fun _ => hS) ?_
      clear hK1
      have HX2 := Lib.hid hS.1
      have HXC2 := Lib.hid hS.2.2
      (iterate 1 (refine wpO_take (v := ?_) (by kernel_rfl) (fun _ _ _ h => h) (Or.inl ⟨by rfl, ?_⟩) hS ?_; rotate_left; (next => (rintro X -; (try simp only [List.getD_cons_zero, List.getD_cons_succ, List.getElem?_toArray, List.getElem?_cons_zero, List.getElem?_cons_succ, Option.getD_some]); go_simp; rfl)); simp only [List.getD_cons_zero, List.getD_cons_succ, List.getElem?_toArray, List.getElem?_cons_zero, List.getElem?_cons_succ, Option.getD_some, Act.put, List.setIfInBounds_toArray, List.set_cons_zero, List.set_cons_succ]))
      refine wpO_done (by kernel_rfl) ?_
      clear hS
      by_cases hkx : ko = x1
      · have e1 : (ko != x1) = false := by simp [hkx]
        have HF := Lib.hid (HQ2.out.1 hkx)
        clear HQ2 hkx
        go_wp2_with fail
        go_roundw
        case rel => exact ⟨k + 1, by omega, by go_num, HX2, HXC2, HW2, by omega, HF⟩
        case measure => simp [intOf]; omega
      · have e1 : (ko != x1) = true := by simp [hkx]
        have HF := Lib.hid (HQ2.out.2 hkx)
        clear HQ2 hkx
        go_wp2_with fail
        go_ret
        exact ⟨by rw [HF.out]; rfl, HW2.out⟩
    · have HF : Hid (R = fail22 (decide (ty.kind ≠ x2))) := Lib.hid (by rw [hr.out, List.drop_eq_nil_of_le (by omega : rv.args.length ≤ k)]; rfl)
      clear hr
      go_wp2_with fail
      have hS := And.intro HX.out (And.intro HXC.out (cell_keep HBR.out Q0.out))
      refine wp_region_o (S := fun X => (∀ i v, [Value.string b.name, .slice bh.A1 b.regions.length bh.c1, .slice bh.A2 b.outl.length bh.c2, .slice (some ⟨bb, oo, none⟩) b.types.length bh.c3, .slice bh.A4 b.locals.length bh.c4, .int .i64 b.args, .slice bh.A5 b.blocks.length bh.c5, .pointer (some ⟨r, 0, none⟩)][i]? = some v → X.cell? ⟨w.heap.size, i, none⟩ = some v) ∧ (X.cell? ⟨w1.heap.size, 0, none⟩ = some (.int .i64 x1) ∧ X.cell? ⟨w1.heap.size, 1, none⟩ = some (.int .i64 x2)) ∧ X.cell? ⟨bb, oo + t * 5, none⟩ = some (.int .i64 ty.kind)) [0, 1, 2, 3, 4, 5, 6, 7, 8, 9, 10, 11] (by kernel_rfl) ?_
      (iterate 10 (refine wpO_take (v := ?_) (by kernel_rfl) (fun _ _ _ h => h) (Or.inl ⟨by rfl, ?_⟩) hS ?_; rotate_left; (next => (rintro X ⟨hX, ⟨s8, s9⟩, sT⟩; have s3 := hX 3 _ rfl; (try simp only [List.getD_cons_zero, List.getD_cons_succ, List.getElem?_toArray, List.getElem?_cons_zero, List.getElem?_cons_succ, Option.getD_some]); go_simp; rfl)); simp only [List.getD_cons_zero, List.getD_cons_succ, List.getElem?_toArray, List.getElem?_cons_zero, List.getElem?_cons_succ, Option.getD_some, Act.put, List.setIfInBounds_toArray, List.set_cons_zero, List.set_cons_succ]))
      (refine wpO_one (by kernel_rfl) (fun K1 hK1 => ?_); simp only [List.getD_cons_zero, List.getD_cons_succ, List.getElem?_toArray, List.getElem?_cons_zero, List.getElem?_cons_succ, Option.getD_some, Act.put, List.setIfInBounds_toArray, List.set_cons_zero, List.set_cons_succ]; rw [if_pos (by rfl)]; go_simp)
      refine (failed_any _ _).mono ?_
      rintro e' w3 ⟨rfl, hw⟩
      obtain rfl := hw.symm
      refine hK1.out _ _ (fun _ => hS) ?_
      (iterate 1 (refine wpO_take (v := ?_) (by kernel_rfl) (fun _ _ _ h => h) (Or.inl ⟨by rfl, ?_⟩) hS ?_; rotate_left; (next => (rintro X -; (try simp only [List.getD_cons_zero, List.getD_cons_succ, List.getElem?_toArray, List.getElem?_cons_zero, List.getElem?_cons_succ, Option.getD_some]); go_simp; rfl)); simp only [List.getD_cons_zero, List.getD_cons_succ, List.getElem?_toArray, List.getElem?_cons_zero, List.getElem?_cons_succ, Option.getD_some, Act.put, List.setIfInBounds_toArray, List.set_cons_zero, List.set_cons_succ]))
      refine wpO_done (by kernel_rfl) ?_
      go_wp2_with fail
      go_ret
      exact ⟨by rw [HF.out]; show Ending.returned (.int .i64 (fail22 (ty.kind != x2))) = _; have e : (ty.kind != x2) = decide (ty.kind ≠ x2) := (by rw [Bool.eq_iff_iff]; simp); rw [e], HBR.out.drew⟩
end Go.Proofs.YtbnljlpefpllcaaGreatDoor
namespace Go.Proofs.YtbnljlpefpllcaaGreatDoor
open Go Go.RowKit Go.Maps
set_option maxRecDepth 100000 in
set_option maxHeartbeats 8000000 in
theorem borrow_any {b : Bdy} {bh : BH} {r : Nat} {w : World} (H : Ck w b bh r) (rv : Rvl) (t : Nat) (ht : t < b.types.length) (A B : Option Addr) (c d : Nat) (hp : Slc 2 RPj w A c rv.place.proj) :
    Calls Tryz.prog 177 #[.agg (ckC b bh r).toArray, .agg (rvC rv A c B d).toArray, .int .i64 t] w fun e' w' => e' = .returned (.int .i64 (borE b rv t)) ∧ Below w.heap.size w w' := by
  have HT := Lib.hid (fun W (hb : Below w.heap.size w W) => ctypeOf_any b bh r rv.place A c W (H.keep hb).at_ (hp.keep RPj.keeps hb) H.ok.okay)
  have HM := Lib.hid (fun W (hb : Below w.heap.size w W) => mutable_any b.types b.locals rv.place.loc rv.place.proj bh.A3 bh.A4 A bh.c3 bh.c4 c W (H.keep hb).at_.typ (H.keep hb).at_.loc (hp.keep RPj.keeps hb) H.ok.okay)
  have HG := Lib.hid (fun W (hb : Below w.heap.size w W) => regions_any b.types b.locals rv.place.loc rv.place.proj bh.A3 bh.A4 A bh.c3 bh.c4 c W (H.keep hb).at_.typ (H.keep hb).at_.loc (hp.keep RPj.keeps hb) H.ok.okay)
  have HO := Lib.hid (fun W (hb : Below w.heap.size w W) (x : Int) => outl_any b.outl b.regions.length x rv.reg r W (H.keep hb).rel H.ok.pairs (by have := H.ok.nreg; omega) H.ok.nout)
  change Hid (∀ W, Below w.heap.size w W → Calls Tryz.prog 175 _ W fun e' w' => e' = .returned (.bool (mutB b rv.place)) ∧ Below W.heap.size W w') at HM
  have hbl := H.at_.reg.le
  have hbg := H.at_.reg.big
  obtain ⟨bb, oo, hA3, hbb, hxx⟩ := H.at_.typ.sl.at_ ht
  have hle3 := H.at_.typ.le
  have hbig3 := H.at_.typ.big
  obtain ⟨ty, hty⟩ : ∃ ty, b.types[t] = ty := ⟨_, rfl⟩
  rw [hty] at hxx
  obtain ⟨q0, q1, q2, q3, A5, c5, q4, -, -, -⟩ := hxx
  obtain ⟨R, hR⟩ : ∃ R, borE b rv t = R := ⟨_, rfl⟩
  rw [hR]
  have HR : Hid (R = if (tyB b rv.place).2 ≠ 0 then (tyB b rv.place).2 else if rv.reg < 0 ∨ (b.regions.length : Int) ≤ rv.reg then 3 else if ty.kind ≠ 3 ∨ ty.reg ≠ rv.reg ∨ ty.mu ≠ rv.mu ∨ ty.elem ≠ (tyB b rv.place).1 then 22 else if rv.mu = true ∧ mutB b rv.place = false then 22 else if ((refsOf b.types b.locals rv.place.loc rv.place.proj).1.map (·.reg)).all (fun x => outB b.outl b.regions.length x rv.reg) = true then 0 else 22) := Lib.hid (by
    rw [← hR, borE]
    simp only [Int.toNat_natCast]
    rw [List.getElem?_eq_getElem ht, hty, List.all_map]
    rfl)
  have HLN : Hid (((refsOf b.types b.locals rv.place.loc rv.place.proj).1.map (·.reg)).length = (refsOf b.types b.locals rv.place.loc rv.place.proj).1.length) := Lib.hid (List.length_map _)
  generalize (refsOf b.types b.locals rv.place.loc rv.place.proj).1.length = nl at HLN HG
  generalize (refsOf b.types b.locals rv.place.loc rv.place.proj).1.map (·.reg) = rs at HG HR HLN
  generalize tyB b rv.place = q at HT HR
  generalize mutB b rv.place = mb at HM HR
  obtain ⟨ti, te⟩ := q
  simp only at HR HT
  clear hR hty H hp
  unfold ckC at HT ⊢
  unfold rvC
  rw [hA3] at HT HM HG ⊢
  by_cases he : te = 0
  case neg =>
    have HF : Hid (R = te) := Lib.hid (by rw [HR.out, if_pos he])
    have e1 : (te != 0) = true := by simp [he]
    clear HR he HM HG HO
    go_enter Tryz.func177, Tryz.ntmps177
    go_wp2_with (go_at_call 132; refine (HT.out _ (bel2 _ _ _)).mono ?_; rintro e' w1 ⟨rfl, hb1⟩; have HB := Lib.hid ((bel2 _ _ _).trans (hb1.mono (bel2 _ _ _).size)); obtain ⟨y, z⟩ := cells_two hb1; have HY := Lib.hid y; have HZ := Lib.hid z; have y0 := HY.out 0 _ rfl; have y1 := HY.out 1 _ rfl; have y2 := HY.out 2 _ rfl; have y3 := HY.out 3 _ rfl; have y4 := HY.out 4 _ rfl; have y5 := HY.out 5 _ rfl; have y6 := HY.out 6 _ rfl; have y7 := HY.out 7 _ rfl; have z0 := HZ.out 0 _ rfl; have z1 := HZ.out 1 _ rfl; have z2 := HZ.out 2 _ rfl; have z3 := HZ.out 3 _ rfl; have z4 := HZ.out 4 _ rfl; have z5 := HZ.out 5 _ rfl; have z6 := HZ.out 6 _ rfl; have v0 := cell_keep HB.out q0; have v1 := cell_keep HB.out q1; have v2 := cell_keep HB.out q2; have v3 := cell_keep HB.out q3; have v4 := cell_keep HB.out q4; have hlw := hb1.size; simp only [World.size_alloc] at hlw; have hlw1 : w.heap.size + 1 < w1.heap.size := hlw; have hlw0 : w.heap.size < w1.heap.size := Nat.lt_of_succ_lt hlw; clear y z hb1)
    go_ret
    exact ⟨by rw [HF.out]; rfl, HB.out.alloc HB.out.size _⟩
  case pos =>
  subst he
  by_cases h0 : rv.reg < 0 ∨ (b.regions.length : Int) ≤ rv.reg
  case pos =>
    have HF : Hid (R = 3) := Lib.hid (by rw [HR.out, if_neg (by simp), if_pos h0])
    clear HR HM HG HO
    go_enter Tryz.func177, Tryz.ntmps177
    go_wp2_with (go_at_call 132; refine (HT.out _ (bel2 _ _ _)).mono ?_; rintro e' w1 ⟨rfl, hb1⟩; have HB := Lib.hid ((bel2 _ _ _).trans (hb1.mono (bel2 _ _ _).size)); obtain ⟨y, z⟩ := cells_two hb1; have HY := Lib.hid y; have HZ := Lib.hid z; have y0 := HY.out 0 _ rfl; have y1 := HY.out 1 _ rfl; have y2 := HY.out 2 _ rfl; have y3 := HY.out 3 _ rfl; have y4 := HY.out 4 _ rfl; have y5 := HY.out 5 _ rfl; have y6 := HY.out 6 _ rfl; have y7 := HY.out 7 _ rfl; have z0 := HZ.out 0 _ rfl; have z1 := HZ.out 1 _ rfl; have z2 := HZ.out 2 _ rfl; have z3 := HZ.out 3 _ rfl; have z4 := HZ.out 4 _ rfl; have z5 := HZ.out 5 _ rfl; have z6 := HZ.out 6 _ rfl; have v0 := cell_keep HB.out q0; have v1 := cell_keep HB.out q1; have v2 := cell_keep HB.out q2; have v3 := cell_keep HB.out q3; have v4 := cell_keep HB.out q4; have hlw := hb1.size; simp only [World.size_alloc] at hlw; have hlw1 : w.heap.size + 1 < w1.heap.size := hlw; have hlw0 : w.heap.size < w1.heap.size := Nat.lt_of_succ_lt hlw; clear y z hb1)
    all_goals first
      | (exfalso; omega)
      | (go_ret; exact ⟨by rw [HF.out]; rfl, HB.out.alloc HB.out.size _⟩)
  case neg =>
  have h1 : ¬ rv.reg < 0 := by omega
  have h2 : ¬ (b.regions.length : Int) ≤ rv.reg := by omega
  have HR2 : Hid (R = if ty.kind ≠ 3 ∨ ty.reg ≠ rv.reg ∨ ty.mu ≠ rv.mu ∨ ty.elem ≠ ti then 22 else if rv.mu = true ∧ mb = false then 22 else if rs.all (fun x => outB b.outl b.regions.length x rv.reg) = true then 0 else 22) := Lib.hid (by rw [HR.out, if_neg (by simp), if_neg h0])
  clear HR h0
  obtain ⟨p1, hp1⟩ : ∃ p, (ty.kind != 3) = p := ⟨_, rfl⟩
  obtain ⟨p2, hp2⟩ : ∃ p, (ty.reg != rv.reg) = p := ⟨_, rfl⟩
  obtain ⟨p3, hp3⟩ : ∃ p, (ty.mu != rv.mu) = p := ⟨_, rfl⟩
  obtain ⟨p4, hp4⟩ : ∃ p, (ty.elem != ti) = p := ⟨_, rfl⟩
  have HR3 : Hid (R = if p1 = true ∨ p2 = true ∨ p3 = true ∨ p4 = true then 22 else if rv.mu = true ∧ mb = false then 22 else if rs.all (fun x => outB b.outl b.regions.length x rv.reg) = true then 0 else 22) := Lib.hid (by
    rw [HR2.out, ← hp1, ← hp2, ← hp3, ← hp4]
    simp only [bne_iff_ne])
  clear HR2
  by_cases hor : p1 = true ∨ p2 = true ∨ p3 = true ∨ p4 = true
  · have HF : Hid (R = 22) := Lib.hid (by rw [HR3.out, if_pos hor])
    rcases (show p1 = true ∨ (p1 = false ∧ p2 = true) ∨ (p1 = false ∧ p2 = false ∧ p3 = true) ∨ (p1 = false ∧ p2 = false ∧ p3 = false ∧ p4 = true) by revert hor; cases p1 <;> cases p2 <;> cases p3 <;> cases p4 <;> simp) with rfl | ⟨rfl, rfl⟩ | ⟨rfl, rfl, rfl⟩ | ⟨rfl, rfl, rfl, rfl⟩
    all_goals
      clear hor HR3 HM HG HO
      go_enter Tryz.func177, Tryz.ntmps177
      go_wp2_with (go_at_call 132; refine (HT.out _ (bel2 _ _ _)).mono ?_; rintro e' w1 ⟨rfl, hb1⟩; have HB := Lib.hid ((bel2 _ _ _).trans (hb1.mono (bel2 _ _ _).size)); obtain ⟨y, z⟩ := cells_two hb1; have HY := Lib.hid y; have HZ := Lib.hid z; have y0 := HY.out 0 _ rfl; have y1 := HY.out 1 _ rfl; have y2 := HY.out 2 _ rfl; have y3 := HY.out 3 _ rfl; have y4 := HY.out 4 _ rfl; have y5 := HY.out 5 _ rfl; have y6 := HY.out 6 _ rfl; have y7 := HY.out 7 _ rfl; have z0 := HZ.out 0 _ rfl; have z1 := HZ.out 1 _ rfl; have z2 := HZ.out 2 _ rfl; have z3 := HZ.out 3 _ rfl; have z4 := HZ.out 4 _ rfl; have z5 := HZ.out 5 _ rfl; have z6 := HZ.out 6 _ rfl; have v0 := cell_keep HB.out q0; have v1 := cell_keep HB.out q1; have v2 := cell_keep HB.out q2; have v3 := cell_keep HB.out q3; have v4 := cell_keep HB.out q4; have hlw := hb1.size; simp only [World.size_alloc] at hlw; have hlw1 : w.heap.size + 1 < w1.heap.size := hlw; have hlw0 : w.heap.size < w1.heap.size := Nat.lt_of_succ_lt hlw; clear y z hb1)
      all_goals first
        | (exfalso; omega)
        | (go_ret; exact ⟨by rw [HF.out]; rfl, HB.out.alloc HB.out.size _⟩)
        | (exfalso; simp_all; done)
  have HR4 : Hid (R = if rv.mu = true ∧ mb = false then 22 else if rs.all (fun x => outB b.outl b.regions.length x rv.reg) = true then 0 else 22) := Lib.hid (by rw [HR3.out, if_neg hor])
  obtain ⟨rfl, rfl, rfl, rfl⟩ : p1 = false ∧ p2 = false ∧ p3 = false ∧ p4 = false := by revert hor; cases p1 <;> cases p2 <;> cases p3 <;> cases p4 <;> simp
  clear HR3 hor
  obtain ⟨mu, hmu⟩ : ∃ mu, rv.mu = mu := ⟨_, rfl⟩
  rw [hmu] at HR4 hp3 ⊢
  have hm3 : ty.mu = mu := by revert hp3; cases ty.mu <;> cases mu <;> simp
  clear hp3 hmu
  by_cases hbad : mu = true ∧ mb = false
  · obtain ⟨rfl, rfl⟩ := hbad
    have HF : Hid (R = 22) := Lib.hid (by rw [HR4.out]; simp)
    clear HR4 HG HO
    go_enter Tryz.func177, Tryz.ntmps177
    go_wp2_with (first | (go_at_call 132; refine (HT.out _ (bel2 _ _ _)).mono ?_; rintro e' w1 ⟨rfl, hb1⟩; have HB := Lib.hid ((bel2 _ _ _).trans (hb1.mono (bel2 _ _ _).size)); obtain ⟨y, z⟩ := cells_two hb1; have HY := Lib.hid y; have HZ := Lib.hid z; have y0 := HY.out 0 _ rfl; have y1 := HY.out 1 _ rfl; have y2 := HY.out 2 _ rfl; have y3 := HY.out 3 _ rfl; have y4 := HY.out 4 _ rfl; have y5 := HY.out 5 _ rfl; have y6 := HY.out 6 _ rfl; have y7 := HY.out 7 _ rfl; have z0 := HZ.out 0 _ rfl; have z1 := HZ.out 1 _ rfl; have z2 := HZ.out 2 _ rfl; have z3 := HZ.out 3 _ rfl; have z4 := HZ.out 4 _ rfl; have z5 := HZ.out 5 _ rfl; have z6 := HZ.out 6 _ rfl; have v0 := cell_keep HB.out q0; have v1 := cell_keep HB.out q1; have v2 := cell_keep HB.out q2; have v3 := cell_keep HB.out q3; have v4 := cell_keep HB.out q4; have hlw := hb1.size; simp only [World.size_alloc] at hlw; have hlw1 : w.heap.size + 1 < w1.heap.size := hlw; have hlw0 : w.heap.size < w1.heap.size := Nat.lt_of_succ_lt hlw; clear y z hb1) | (go_at_call 175; refine (HM.out _ (HB.out.alloc HB.out.size _)).mono ?_; rintro e' w2 ⟨rfl, hb2⟩; have HB2 := Lib.hid ((HB.out.alloc HB.out.size _).trans (hb2.mono (HB.out.alloc HB.out.size _).size)); clear hb2))
    all_goals try (exfalso; omega)
    go_ret
    exact ⟨by rw [HF.out]; rfl, HB2.out⟩
  have HQ : Hid (R = if rs.all (fun x => outB b.outl b.regions.length x rv.reg) = true then 0 else 22) := Lib.hid (by rw [HR4.out, if_neg hbad])
  clear HR4
  rcases (show mu = false ∨ (mu = true ∧ mb = true) by revert hbad; cases mu <;> cases mb <;> simp) with rfl | ⟨rfl, rfl⟩
  · clear hbad HM
    go_enter Tryz.func177, Tryz.ntmps177
    go_wp2_with (first | (go_at_call 132; refine (HT.out _ (bel2 _ _ _)).mono ?_; rintro e' w1 ⟨rfl, hb1⟩; have HB := Lib.hid ((bel2 _ _ _).trans (hb1.mono (bel2 _ _ _).size)); obtain ⟨y, z⟩ := cells_two hb1; have HY := Lib.hid y; have HZ := Lib.hid z; have y0 := HY.out 0 _ rfl; have y1 := HY.out 1 _ rfl; have y2 := HY.out 2 _ rfl; have y3 := HY.out 3 _ rfl; have y4 := HY.out 4 _ rfl; have y5 := HY.out 5 _ rfl; have y6 := HY.out 6 _ rfl; have y7 := HY.out 7 _ rfl; have z0 := HZ.out 0 _ rfl; have z1 := HZ.out 1 _ rfl; have z2 := HZ.out 2 _ rfl; have z3 := HZ.out 3 _ rfl; have z4 := HZ.out 4 _ rfl; have z5 := HZ.out 5 _ rfl; have z6 := HZ.out 6 _ rfl; have v0 := cell_keep HB.out q0; have v1 := cell_keep HB.out q1; have v2 := cell_keep HB.out q2; have v3 := cell_keep HB.out q3; have v4 := cell_keep HB.out q4; have hlw := hb1.size; simp only [World.size_alloc] at hlw; have hlw1 : w.heap.size + 1 < w1.heap.size := hlw; have hlw0 : w.heap.size < w1.heap.size := Nat.lt_of_succ_lt hlw; clear y z hb1) | (go_at_call 213; refine (HG.out _ (HB.out.alloc HB.out.size _)).mono ?_; rintro e' w3 ⟨A8, c8, rfl, hs8, hb2⟩; have HB3 := Lib.hid ((HB.out.alloc HB.out.size _).trans (hb2.mono (HB.out.alloc HB.out.size _).size)); have HY3 := Lib.hid (cells_past HY.out hb2); have HZ3 := Lib.hid (cells_past HZ.out hb2); have HS8 := Lib.hid hs8; have hs8l := hs8.le; have hs8b := hs8.big; have hsz3 := hb2.size; simp only [World.size_alloc] at hsz3; clear hb2 hs8))
    all_goals try (exfalso; omega)
    rw [HLN.out] at hs8l
    go_loopw [91] (fun v wr => ∃ k : Nat, k ≤ nl ∧ v = .int .i64 k ∧ Hid (∀ i v, [Value.string b.name, .slice bh.A1 b.regions.length bh.c1, .slice bh.A2 b.outl.length bh.c2, .slice (some ⟨bb, oo, none⟩) b.types.length bh.c3, .slice bh.A4 b.locals.length bh.c4, .int .i64 b.args, .slice bh.A5 b.blocks.length bh.c5, .pointer (some ⟨r, 0, none⟩)][i]? = some v → wr.cell? ⟨w.heap.size, i, none⟩ = some v) ∧ Hid (∀ i v, [Value.int .i64 rv.kind, .int .i64 rv.op, .int .i64 rv.reg, .bool false, .int .i64 rv.place.loc, .slice A rv.place.proj.length c, .slice B rv.args.length d][i]? = some v → wr.cell? ⟨w.heap.size + 1, i, none⟩ = some v) ∧ Hid (Below w.heap.size w wr) ∧ Hid (Below w3.heap.size w3 wr) ∧ Hid (R = if (rs.drop k).all (fun x => outB b.outl b.regions.length x rv.reg) = true then 0 else 22)) (fun v _ => nl - (intOf v).toNat)
    case atStart => exact ⟨0, by omega, rfl, HY3, HZ3, HB3, Lib.hid (Below.refl _ _), HQ⟩
    case round =>
      clear HQ HY3 HZ3 HB3
      obtain ⟨k, hk, rfl, HYR, HZR, HBR, HB9, hr⟩ := hrel
      have y7 := HYR.out 7 _ rfl
      have z2 := HZR.out 2 _ rfl
      by_cases hlt : k < nl
      · have hlt2 : k < rs.length := by rw [HLN.out]; exact hlt
        have hd := drop_cons hlt2
        obtain ⟨b8, o8, rfl, hb8, hx⟩ := (HS8.out.keep RInt.keeps HB9.out).sl.at_ hlt2
        obtain ⟨x, hxx⟩ : ∃ x, rs[k] = x := ⟨_, rfl⟩
        rw [hxx] at hx hd
        have x0 : wr.cell? ⟨b8, o8 + k, none⟩ = some (.int .i64 x) := by simpa [RInt] using hx
        have HOX := Lib.hid (HO.out wr HBR.out x)
        have HQX : Hid (R = if outB b.outl b.regions.length x rv.reg = true then (if (rs.drop (k + 1)).all (fun x => outB b.outl b.regions.length x rv.reg) = true then 0 else 22) else 22) := Lib.hid (by rw [hr.out, hd, List.all_cons]; cases outB b.outl b.regions.length x rv.reg <;> rfl)
        clear hx hd hxx hr hlt2
        generalize outB b.outl b.regions.length x rv.reg = ob at HOX HQX
        cases ob
        · have HF : Hid (R = 22) := HQX
          go_wp2_with (go_at_call 214; refine HOX.out.mono ?_; rintro e' w4 ⟨rfl, hb4⟩; have HB4 := Lib.hid (HBR.out.trans (hb4.mono HBR.out.size)); clear hb4)
          go_ret
          exact ⟨by rw [HF.out]; rfl, HB4.out⟩
        · have HF : Hid (R = if (rs.drop (k + 1)).all (fun x => outB b.outl b.regions.length x rv.reg) = true then 0 else 22) := HQX
          go_wp2_with (go_at_call 214; refine HOX.out.mono ?_; rintro e' w4 ⟨rfl, hb4⟩; have HB4 := Lib.hid (HBR.out.trans (hb4.mono HBR.out.size)); have HB5 := Lib.hid (HB9.out.trans (hb4.mono HB9.out.size)); have HY5 := Lib.hid (cells_kept HYR.out hb4); have HZ5 := Lib.hid (cells_kept HZR.out hb4); clear hb4)
          go_roundw
          case rel => exact ⟨k + 1, by omega, by go_num, HY5, HZ5, HB4, HB5, HF⟩
          case measure => simp [intOf]; omega
      · have HF : Hid (R = 0) := Lib.hid (by rw [hr.out, List.drop_eq_nil_of_le (by rw [HLN.out]; omega : rs.length ≤ k)]; rfl)
        clear hr
        go_wp2_with fail
        go_ret
        exact ⟨by rw [HF.out]; rfl, HBR.out⟩
  · clear hbad
    go_enter Tryz.func177, Tryz.ntmps177
    go_wp2_with (first | (go_at_call 132; refine (HT.out _ (bel2 _ _ _)).mono ?_; rintro e' w1 ⟨rfl, hb1⟩; have HB := Lib.hid ((bel2 _ _ _).trans (hb1.mono (bel2 _ _ _).size)); obtain ⟨y, z⟩ := cells_two hb1; have HY := Lib.hid y; have HZ := Lib.hid z; have y0 := HY.out 0 _ rfl; have y1 := HY.out 1 _ rfl; have y2 := HY.out 2 _ rfl; have y3 := HY.out 3 _ rfl; have y4 := HY.out 4 _ rfl; have y5 := HY.out 5 _ rfl; have y6 := HY.out 6 _ rfl; have y7 := HY.out 7 _ rfl; have z0 := HZ.out 0 _ rfl; have z1 := HZ.out 1 _ rfl; have z2 := HZ.out 2 _ rfl; have z3 := HZ.out 3 _ rfl; have z4 := HZ.out 4 _ rfl; have z5 := HZ.out 5 _ rfl; have z6 := HZ.out 6 _ rfl; have v0 := cell_keep HB.out q0; have v1 := cell_keep HB.out q1; have v2 := cell_keep HB.out q2; have v3 := cell_keep HB.out q3; have v4 := cell_keep HB.out q4; have hlw := hb1.size; simp only [World.size_alloc] at hlw; have hlw1 : w.heap.size + 1 < w1.heap.size := hlw; have hlw0 : w.heap.size < w1.heap.size := Nat.lt_of_succ_lt hlw; clear y z hb1) | (go_at_call 175; refine (HM.out _ (HB.out.alloc HB.out.size _)).mono ?_; rintro e' w2 ⟨rfl, hb2⟩; have HB2 := Lib.hid ((HB.out.alloc HB.out.size _).trans (hb2.mono (HB.out.alloc HB.out.size _).size)); have HY2 := Lib.hid (cells_past HY.out hb2); have HZ2 := Lib.hid (cells_past HZ.out hb2); clear HY HZ; have HY := HY2; have HZ := HZ2; have y0 := HY.out 0 _ rfl; have y1 := HY.out 1 _ rfl; have y2 := HY.out 2 _ rfl; have y3 := HY.out 3 _ rfl; have y4 := HY.out 4 _ rfl; have y5 := HY.out 5 _ rfl; have y6 := HY.out 6 _ rfl; have y7 := HY.out 7 _ rfl; have z0 := HZ.out 0 _ rfl; have z1 := HZ.out 1 _ rfl; have z2 := HZ.out 2 _ rfl; have z3 := HZ.out 3 _ rfl; have z4 := HZ.out 4 _ rfl; have z5 := HZ.out 5 _ rfl; have z6 := HZ.out 6 _ rfl; have hsz2 := hb2.size; simp only [World.size_alloc] at hsz2; clear hb2) | (go_at_call 213; refine (HG.out _ HB2.out).mono ?_; rintro e' w3 ⟨A8, c8, rfl, hs8, hb2⟩; have HB3 := Lib.hid (HB2.out.trans (hb2.mono HB2.out.size)); have HY3 := Lib.hid (cells_kept HY2.out hb2); have HZ3 := Lib.hid (cells_kept HZ2.out hb2); have HS8 := Lib.hid hs8; have hs8l := hs8.le; have hs8b := hs8.big; have hsz3 := hb2.size; clear hb2 hs8))
    all_goals try (exfalso; omega)
    rw [HLN.out] at hs8l
    go_loopw [91] (fun v wr => ∃ k : Nat, k ≤ nl ∧ v = .int .i64 k ∧ Hid (∀ i v, [Value.string b.name, .slice bh.A1 b.regions.length bh.c1, .slice bh.A2 b.outl.length bh.c2, .slice (some ⟨bb, oo, none⟩) b.types.length bh.c3, .slice bh.A4 b.locals.length bh.c4, .int .i64 b.args, .slice bh.A5 b.blocks.length bh.c5, .pointer (some ⟨r, 0, none⟩)][i]? = some v → wr.cell? ⟨w.heap.size, i, none⟩ = some v) ∧ Hid (∀ i v, [Value.int .i64 rv.kind, .int .i64 rv.op, .int .i64 rv.reg, .bool true, .int .i64 rv.place.loc, .slice A rv.place.proj.length c, .slice B rv.args.length d][i]? = some v → wr.cell? ⟨w.heap.size + 1, i, none⟩ = some v) ∧ Hid (Below w.heap.size w wr) ∧ Hid (Below w3.heap.size w3 wr) ∧ Hid (R = if (rs.drop k).all (fun x => outB b.outl b.regions.length x rv.reg) = true then 0 else 22)) (fun v _ => nl - (intOf v).toNat)
    case atStart => exact ⟨0, by omega, rfl, HY3, HZ3, HB3, Lib.hid (Below.refl _ _), HQ⟩
    case round =>
      clear HQ HY3 HZ3 HB3
      obtain ⟨k, hk, rfl, HYR, HZR, HBR, HB9, hr⟩ := hrel
      have y7 := HYR.out 7 _ rfl
      have z2 := HZR.out 2 _ rfl
      by_cases hlt : k < nl
      · have hlt2 : k < rs.length := by rw [HLN.out]; exact hlt
        have hd := drop_cons hlt2
        obtain ⟨b8, o8, rfl, hb8, hx⟩ := (HS8.out.keep RInt.keeps HB9.out).sl.at_ hlt2
        obtain ⟨x, hxx⟩ : ∃ x, rs[k] = x := ⟨_, rfl⟩
        rw [hxx] at hx hd
        have x0 : wr.cell? ⟨b8, o8 + k, none⟩ = some (.int .i64 x) := by simpa [RInt] using hx
        have HOX := Lib.hid (HO.out wr HBR.out x)
        have HQX : Hid (R = if outB b.outl b.regions.length x rv.reg = true then (if (rs.drop (k + 1)).all (fun x => outB b.outl b.regions.length x rv.reg) = true then 0 else 22) else 22) := Lib.hid (by rw [hr.out, hd, List.all_cons]; cases outB b.outl b.regions.length x rv.reg <;> rfl)
        clear hx hd hxx hr hlt2
        generalize outB b.outl b.regions.length x rv.reg = ob at HOX HQX
        cases ob
        · have HF : Hid (R = 22) := HQX
          go_wp2_with (go_at_call 214; refine HOX.out.mono ?_; rintro e' w4 ⟨rfl, hb4⟩; have HB4 := Lib.hid (HBR.out.trans (hb4.mono HBR.out.size)); clear hb4)
          go_ret
          exact ⟨by rw [HF.out]; rfl, HB4.out⟩
        · have HF : Hid (R = if (rs.drop (k + 1)).all (fun x => outB b.outl b.regions.length x rv.reg) = true then 0 else 22) := HQX
          go_wp2_with (go_at_call 214; refine HOX.out.mono ?_; rintro e' w4 ⟨rfl, hb4⟩; have HB4 := Lib.hid (HBR.out.trans (hb4.mono HBR.out.size)); have HB5 := Lib.hid (HB9.out.trans (hb4.mono HB9.out.size)); have HY5 := Lib.hid (cells_kept HYR.out hb4); have HZ5 := Lib.hid (cells_kept HZR.out hb4); clear hb4)
          go_roundw
          case rel => exact ⟨k + 1, by omega, by go_num, HY5, HZ5, HB4, HB5, HF⟩
          case measure => simp [intOf]; omega
      · have HF : Hid (R = 0) := Lib.hid (by rw [hr.out, List.drop_eq_nil_of_le (by rw [HLN.out]; omega : rs.length ≤ k)]; rfl)
        clear hr
        go_wp2_with fail
        go_ret
        exact ⟨by rw [HF.out]; rfl, HBR.out⟩
end Go.Proofs.YtbnljlpefpllcaaGreatDoor
namespace Go.Proofs.YtbnljlpefpllcaaGreatDoor
open Go Go.RowKit
/-- A body's cells at block n. -/
def BxC (w : World) (n : Nat) (b : Bdy) (bh : BH) : Prop := ∀ i v, (bdC b bh)[i]? = some v → w.cell? ⟨n, i, none⟩ = some v
theorem BxC.new (w : World) (b : Bdy) (bh : BH) : BxC (bxW w b bh) w.heap.size b bh := fun i v hi => bx_cell (Below.refl _ _) i v hi
theorem BxC.keep {w w' : World} {n : Nat} {b : Bdy} {bh : BH} (h : BxC w n b bh) (hb : Below w.heap.size w w') : BxC w' n b bh := fun i v hi => cell_keep hb (h i v hi)
theorem four_new (W : World) (x y z u : Int) (T : TypeId) (k : Nat) (hk : k = W.heap.size) : Slc 1 RInt (W.alloc (.cells #[.int .i64 x, .int .i64 y, .int .i64 z, .int .i64 u] T)) (some ⟨k, 0, none⟩) 4 [x, y, z, u] := by
  subst hk
  refine ⟨fun _ => ⟨_, _, rfl, by simp, fun i q hi => ?_⟩, by simp, by omega⟩
  show (W.alloc _).cell? ⟨W.heap.size, 0 + i * 1, none⟩ = _
  rw [World.cell?_alloc_at _ _ _ _ (by simp), Nat.zero_add, Nat.mul_one]
  match i, hi with
  | 0, hi => simp at hi; subst hi; rfl
  | 1, hi => simp at hi; subst hi; rfl
  | 2, hi => simp at hi; subst hi; rfl
  | 3, hi => simp at hi; subst hi; rfl
  | i + 4, hi => simp at hi
set_option maxRecDepth 100000 in
set_option maxHeartbeats 8000000 in
theorem decl_any (b : Bdy) (bh : BH) (w : World) (H : BdAt w b bh) :
    Calls Tryz.prog 77 #[.agg (bdC b bh).toArray] w fun e' w' => e' = .returned (.int .i64 (declC b)) ∧ Below w.heap.size w w' := by
  have HX := Lib.hid (BxC.new w b bh)
  have HH := Lib.hid H
  have HB0 := Lib.hid (bxW_below w b bh)
  have r1 := H.reg.le
  have r2 := H.reg.big
  have b1 := H.blk.le
  have b2 := H.blk.big
  have HID := Lib.hid (isIdent_any b.name (bxW w b bh))
  unfold declC
  obtain ⟨Q, hQ⟩ : ∃ Q, (if isIdent b.name = false then 12 else if firstE [namesC b.regions, pairsC b.regions.length b.outl, typesC b.regions.length b.types, localsC b] = 0 then (if b.blocks.length = 0 ∨ 65535 < b.blocks.length then 15 else 0) else firstE [namesC b.regions, pairsC b.regions.length b.outl, typesC b.regions.length b.types, localsC b]) = Q := ⟨_, rfl⟩
  rw [hQ]
  have HQ := Lib.hid hQ
  clear hQ H
  cases hid : isIdent b.name
  · rw [hid] at HID HQ
    have HF : Hid (Q = 12) := Lib.hid HQ.out.symm
    clear hid HQ
    unfold bdC
    go_enter Tryz.func77, Tryz.ntmps77
    go_wp2_with (go_at_call 68; refine HID.out.mono ?_; rintro e' w1 ⟨rfl, hb1⟩)
    go_ret
    exact ⟨by rw [HF.out]; rfl, HB0.out.trans (hb1.mono HB0.out.size)⟩
  rw [hid] at HID HQ
  have HQ' : Hid (Q = if firstE [namesC b.regions, pairsC b.regions.length b.outl, typesC b.regions.length b.types, localsC b] = 0 then (if b.blocks.length = 0 ∨ 65535 < b.blocks.length then 15 else 0) else firstE [namesC b.regions, pairsC b.regions.length b.outl, typesC b.regions.length b.types, localsC b]) := Lib.hid HQ.out.symm
  clear hid HQ
  have HN := Lib.hid (fun W (hb : Below w.heap.size w W) => names_any b.regions bh.A1 bh.c1 W (HH.out.keep hb).reg)
  have HP := Lib.hid (fun W (hb : Below w.heap.size w W) => pairsC_any b.outl b.regions.length bh.A2 bh.c2 W (HH.out.keep hb).out)
  have HT := Lib.hid (fun W (hb : Below w.heap.size w W) => typesC_any b.types b.regions.length bh.A3 bh.c3 W (HH.out.keep hb).typ)
  have HL := Lib.hid (fun W (hb : Below w.heap.size w W) => locals_any b bh W (HH.out.keep hb))
  generalize namesC b.regions = E1 at HN HQ'
  generalize pairsC b.regions.length b.outl = E2 at HP HQ'
  generalize typesC b.regions.length b.types = E3 at HT HQ'
  generalize localsC b = E4 at HL HQ'
  have HFI := Lib.hid (first_any [E1, E2, E3, E4])
  generalize firstE [E1, E2, E3, E4] = E at HFI HQ'
  unfold bdC at HL ⊢
  go_enter Tryz.func77, Tryz.ntmps77
  go_wp2_with (go_at_call 68; refine HID.out.mono ?_; rintro e' w1 ⟨rfl, hb1⟩; have x1 := HX.out.keep hb1 1 _ rfl)
  have hX1 : BxC w1.drew w.heap.size b bh := (HX.out.keep hb1).keep ((Below.refl _ _).drew)
  have hB1 : Below w.heap.size w w1.drew := (HB0.out.trans (hb1.mono HB0.out.size)).drew
  have HB1 := Lib.hid hB1
  have hS := hX1
  clear hX1 hB1 hb1
  refine wp_region_o (S := fun X => BxC X w.heap.size b bh) [0, 1, 3, 4, 5, 7, 8, 9, 11, 2, 6, 10, 12, 13, 14, 15] (by kernel_rfl) ?_
  (iterate 9 (refine wpO_take (v := ?_) (by kernel_rfl) (fun _ _ _ h => h) (Or.inl ⟨by rfl, ?_⟩) hS ?_; rotate_left; (next => (rintro X hX; have s0 := hX 0 _ rfl; have s1 := hX 1 _ rfl; have s2 := hX 2 _ rfl; have s3 := hX 3 _ rfl; have s4 := hX 4 _ rfl; have s5 := hX 5 _ rfl; have s6 := hX 6 _ rfl; (try simp only [List.getD_cons_zero, List.getD_cons_succ, List.getElem?_toArray, List.getElem?_cons_zero, List.getElem?_cons_succ, Option.getD_some]); go_simp; rfl)); simp only [List.getD_cons_zero, List.getD_cons_succ, List.getElem?_toArray, List.getElem?_cons_zero, List.getElem?_cons_succ, Option.getD_some, Act.put, List.setIfInBounds_toArray, List.set_cons_zero, List.set_cons_succ]))
  (refine wpO_one (by kernel_rfl) (fun K1 hK1 => ?_); simp only [List.getD_cons_zero, List.getD_cons_succ, List.getElem?_toArray, List.getElem?_cons_zero, List.getElem?_cons_succ, Option.getD_some, Act.put, List.setIfInBounds_toArray, List.set_cons_zero, List.set_cons_succ]; rw [if_pos (by rfl)]; go_simp)
  refine (HN.out _ HB1.out).mono ?_
  rintro e' w2 ⟨rfl, hb⟩
  replace hS := hS.keep hb
  have HB2 := Lib.hid (HB1.out.trans (hb.mono HB1.out.size))
  clear hb HB1
  refine hK1.out _ _ (fun _ => hS) ?_
  clear HN
  (refine wpO_one (by kernel_rfl) (fun K1 hK1 => ?_); simp only [List.getD_cons_zero, List.getD_cons_succ, List.getElem?_toArray, List.getElem?_cons_zero, List.getElem?_cons_succ, Option.getD_some, Act.put, List.setIfInBounds_toArray, List.set_cons_zero, List.set_cons_succ]; rw [if_pos (by rfl)]; go_simp)
  refine (HP.out _ HB2.out).mono ?_
  rintro e' w3 ⟨rfl, hb⟩
  replace hS := hS.keep hb
  have HB3 := Lib.hid (HB2.out.trans (hb.mono HB2.out.size))
  clear hb HB2
  refine hK1.out _ _ (fun _ => hS) ?_
  clear HP
  (refine wpO_one (by kernel_rfl) (fun K1 hK1 => ?_); simp only [List.getD_cons_zero, List.getD_cons_succ, List.getElem?_toArray, List.getElem?_cons_zero, List.getElem?_cons_succ, Option.getD_some, Act.put, List.setIfInBounds_toArray, List.set_cons_zero, List.set_cons_succ]; rw [if_pos (by rfl)]; go_simp)
  refine (HT.out _ HB3.out).mono ?_
  rintro e' w4 ⟨rfl, hb⟩
  replace hS := hS.keep hb
  have HB4 := Lib.hid (HB3.out.trans (hb.mono HB3.out.size))
  clear hb HB3
  refine hK1.out _ _ (fun _ => hS) ?_
  clear HT
  (refine wpO_one (by kernel_rfl) (fun K1 hK1 => ?_); simp only [List.getD_cons_zero, List.getD_cons_succ, List.getElem?_toArray, List.getElem?_cons_zero, List.getElem?_cons_succ, Option.getD_some, Act.put, List.setIfInBounds_toArray, List.set_cons_zero, List.set_cons_succ]; rw [if_pos (by rfl)]; go_simp)
  refine (HL.out _ HB4.out).mono ?_
  rintro e' w5 ⟨rfl, hb⟩
  replace hS := hS.keep hb
  have HB5 := Lib.hid (HB4.out.trans (hb.mono HB4.out.size))
  clear hb HB4
  refine hK1.out _ _ (fun _ => hS) ?_
  clear HL
  (refine wpO_one (by kernel_rfl) (fun K1 hK1 => ?_); simp only [List.getD_cons_zero, List.getD_cons_succ, List.getElem?_toArray, List.getElem?_cons_zero, List.getElem?_cons_succ, Option.getD_some, Act.put, List.setIfInBounds_toArray, List.set_cons_zero, List.set_cons_succ]; rw [if_pos (by rfl)]; go_simp)
  have HNW := Lib.hid (four_new w5 E1 E2 E3 E4 35 _ rfl)
  have hbn : Below w5.heap.size w5 (w5.alloc (.cells #[.int .i64 E1, .int .i64 E2, .int .i64 E3, .int .i64 E4] 35)) := (Below.refl _ _).alloc (Nat.le_refl _) _
  replace hS := hS.keep hbn
  have HB6 := Lib.hid (HB5.out.trans (hbn.mono HB5.out.size))
  clear hbn
  refine hK1.out _ _ (fun _ => hS) ?_
  (refine wpO_one (by kernel_rfl) (fun K1 hK1 => ?_); simp only [List.getD_cons_zero, List.getD_cons_succ, List.getElem?_toArray, List.getElem?_cons_zero, List.getElem?_cons_succ, Option.getD_some, Act.put, List.setIfInBounds_toArray, List.set_cons_zero, List.set_cons_succ]; rw [if_pos (by rfl)]; go_simp)
  refine (HFI.out _ 4 _ HNW.out).mono ?_
  rintro e' w6 ⟨rfl, hw⟩
  obtain rfl := hw.symm
  refine hK1.out _ _ (fun _ => hS) ?_
  (iterate 1 (refine wpO_take (v := ?_) (by kernel_rfl) (fun _ _ _ h => h) (Or.inl ⟨by rfl, ?_⟩) hS ?_; rotate_left; (next => (rintro X hX; have s0 := hX 0 _ rfl; (try simp only [List.getD_cons_zero, List.getD_cons_succ, List.getElem?_toArray, List.getElem?_cons_zero, List.getElem?_cons_succ, Option.getD_some]); go_simp; rfl)); simp only [List.getD_cons_zero, List.getD_cons_succ, List.getElem?_toArray, List.getElem?_cons_zero, List.getElem?_cons_succ, Option.getD_some, Act.put, List.setIfInBounds_toArray, List.set_cons_zero, List.set_cons_succ]))
  refine wpO_done (by kernel_rfl) ?_
  have x6 := hS 6 _ rfl
  clear hS HH HX HB0 HNW
  by_cases he : E = 0
  · have HF : Hid (Q = if b.blocks.length = 0 ∨ 65535 < b.blocks.length then 15 else 0) := Lib.hid (by rw [HQ'.out, if_pos he])
    subst he
    clear HQ'
    obtain ⟨m, hm⟩ : ∃ m, b.blocks.length = m := ⟨_, rfl⟩
    rw [hm] at HF x6 b1
    rw [hm]
    clear hm
    by_cases hbl : m = 0 ∨ 65535 < m
    · rw [if_pos hbl] at HF
      rcases hbl with rfl | hbl
      · go_wp2_with fail
        go_ret
        exact ⟨by rw [HF.out]; rfl, HB6.out⟩
      · have e1 : ((m : Int) == 0) = false := by simp; omega
        go_wp2_with fail
        go_ret
        exact ⟨by rw [HF.out]; rfl, HB6.out⟩
    · rw [if_neg hbl] at HF
      have e1 : ((m : Int) == 0) = false := by simp; omega
      have e2 : ¬ (65535 : Int) < m := by omega
      clear hbl
      go_wp2_with fail
      go_ret
      exact ⟨by rw [HF.out]; rfl, HB6.out⟩
  · have HF : Hid (Q = E) := Lib.hid (by rw [HQ'.out, if_neg he])
    have e1 : (E != 0) = true := by simp [he]
    clear HQ'
    go_wp2_with fail
    go_ret
    exact ⟨by rw [HF.out]; rfl, HB6.out⟩
end Go.Proofs.YtbnljlpefpllcaaGreatDoor
namespace Go.Proofs.YtbnljlpefpllcaaGreatDoor
open Go Go.RowKit
set_option maxRecDepth 100000 in
set_option maxHeartbeats 16000000 in
theorem req6_any (s t : Ty) (A B : Option Addr) (c d : Nat) (w : World) (hs : Slc 1 RInt w A c s.flds) (ht : Slc 1 RInt w B d t.flds) :
    Calls Tryz.prog 59 #[tyAgg s A c, tyAgg t B d] w fun e' w' => e' = .returned (.bool (decide (s = t))) ∧ Below w.heap.size w w' := by
  have hle := hs.le
  have hbig := hs.big
  have hle2 := ht.le
  have hbig2 := ht.big
  have HA := Lib.hid hs
  have HB := Lib.hid ht
  obtain ⟨k, mu, rg, el, fl⟩ := s
  obtain ⟨k2, mu2, rg2, el2, fl2⟩ := t
  simp only at HA HB hle hle2
  clear hs ht
  unfold tyAgg
  simp only
  obtain ⟨R, hR⟩ : ∃ R, decide ((⟨k, mu, rg, el, fl⟩ : Ty) = ⟨k2, mu2, rg2, el2, fl2⟩) = R := ⟨_, rfl⟩
  rw [hR]
  have HR : Hid (R = (decide (k = k2) && decide (mu = mu2) && decide (rg = rg2) && decide (el = el2) && decide (fl = fl2))) := Lib.hid (by
    rw [← hR, Bool.eq_iff_iff]
    simp [and_assoc])
  clear hR
  have HB0 := Lib.hid (bel2 w)
  by_cases h1 : k = k2
  case neg =>
    have HF : Hid (R = false) := Lib.hid (by rw [HR.out]; simp [h1])
    have e1 : (k != k2) = true := by simp [h1]
    clear HR h1
    go_enter Tryz.func59, Tryz.ntmps59
    go_wp2_with fail
    go_ret
    exact ⟨by rw [HF.out]; rfl, HB0.out _ _⟩
  subst h1
  by_cases h2 : mu = mu2
  case neg =>
    have HF : Hid (R = false) := Lib.hid (by rw [HR.out]; simp [h2])
    have hmm : (mu = true ∧ mu2 = false) ∨ (mu = false ∧ mu2 = true) := by revert h2; cases mu <;> cases mu2 <;> simp
    clear HR h2
    rcases hmm with ⟨rfl, rfl⟩ | ⟨rfl, rfl⟩
    all_goals
      go_enter Tryz.func59, Tryz.ntmps59
      go_wp2_with fail
      go_ret
      exact ⟨by rw [HF.out]; rfl, HB0.out _ _⟩
  subst h2
  by_cases h3 : rg = rg2
  case neg =>
    have HF : Hid (R = false) := Lib.hid (by rw [HR.out]; simp [h3])
    have e1 : (rg != rg2) = true := by simp [h3]
    clear HR h3
    go_enter Tryz.func59, Tryz.ntmps59
    go_wp2_with fail
    go_ret
    exact ⟨by rw [HF.out]; rfl, HB0.out _ _⟩
  subst h3
  by_cases h4 : el = el2
  case neg =>
    have HF : Hid (R = false) := Lib.hid (by rw [HR.out]; simp [h4])
    have e1 : (el != el2) = true := by simp [h4]
    clear HR h4
    go_enter Tryz.func59, Tryz.ntmps59
    go_wp2_with fail
    go_ret
    exact ⟨by rw [HF.out]; rfl, HB0.out _ _⟩
  subst h4
  obtain ⟨n, hn⟩ : ∃ n, fl.length = n := ⟨_, rfl⟩
  obtain ⟨n2, hn2⟩ : ∃ n, fl2.length = n := ⟨_, rfl⟩
  have HN := Lib.hid hn
  have HN2 := Lib.hid hn2
  rw [hn] at hle ⊢
  rw [hn2] at hle2 ⊢
  by_cases h5 : n = n2
  case neg =>
    have HF : Hid (R = false) := Lib.hid (by rw [HR.out]; have : fl ≠ fl2 := fun h => h5 (by rw [← hn, ← hn2, h]); simp [this])
    have e1 : ((n : Int) != (n2 : Int)) = true := by simp; omega
    clear HR h5 hn hn2
    go_enter Tryz.func59, Tryz.ntmps59
    go_wp2_with fail
    go_ret
    exact ⟨by rw [HF.out]; rfl, HB0.out _ _⟩
  subst h5
  have HQ : Hid (R = decide (fl.drop 0 = fl2.drop 0)) := Lib.hid (by rw [HR.out]; simp)
  have hcc := cells_two (w := w) (l1 := [Value.int .i64 k, .bool mu, .int .i64 rg, .int .i64 el, .slice A n c]) (l2 := [Value.int .i64 k, .bool mu, .int .i64 rg, .int .i64 el, .slice B n d]) (t1 := 83) (t2 := 83) (Below.refl _ _)
  have HCC := Lib.hid hcc
  have HBW := Lib.hid (bel2 w (.cells #[.int .i64 k, .bool mu, .int .i64 rg, .int .i64 el, .slice A n c] 83) (.cells #[.int .i64 k, .bool mu, .int .i64 rg, .int .i64 el, .slice B n d] 83))
  clear HR hn hn2 hcc
  go_enter Tryz.func59, Tryz.ntmps59
  go_wp2_with fail
  go_loopw [5] (fun v wr => ∃ j : Nat, j ≤ n ∧ v = .int .i64 j ∧ Hid (∀ i v, [Value.int .i64 k, .bool mu, .int .i64 rg, .int .i64 el, .slice A n c][i]? = some v → wr.cell? ⟨w.heap.size, i, none⟩ = some v) ∧ Hid (∀ i v, [Value.int .i64 k, .bool mu, .int .i64 rg, .int .i64 el, .slice B n d][i]? = some v → wr.cell? ⟨w.heap.size + 1, i, none⟩ = some v) ∧ Hid (Below w.heap.size w wr) ∧ Hid (R = decide (fl.drop j = fl2.drop j))) (fun v _ => n - (intOf v).toNat)
  case atStart => exact ⟨0, by omega, rfl, Lib.hid HCC.out.1, Lib.hid HCC.out.2, HBW, HQ⟩
  case round =>
    clear HCC HBW HQ
    obtain ⟨j, hj, rfl, HX, HY, HBR, hr⟩ := hrel
    have x4 := HX.out 4 _ rfl
    have y4 := HY.out 4 _ rfl
    by_cases hlt : j < n
    · have hl1 : j < fl.length := by rw [HN.out]; exact hlt
      have hl2 : j < fl2.length := by rw [HN2.out]; exact hlt
      obtain ⟨ba, oa, rfl, hba, hxa⟩ := HA.out.sl.at_ hl1
      obtain ⟨b8, o8, rfl, hb8, hxb⟩ := HB.out.sl.at_ hl2
      have HV : Hid (R = (decide (fl[j] = fl2[j]) && decide (fl.drop (j + 1) = fl2.drop (j + 1)))) := Lib.hid (by
        rw [hr.out, drop_cons hl1, drop_cons hl2, Bool.eq_iff_iff]
        simp only [List.cons.injEq, decide_eq_true_eq, Bool.and_eq_true])
      obtain ⟨x, hxx⟩ : ∃ x, fl[j] = x := ⟨_, rfl⟩
      obtain ⟨y, hyy⟩ : ∃ y, fl2[j] = y := ⟨_, rfl⟩
      rw [hxx] at hxa HV
      rw [hyy] at hxb HV
      have xa : wr.cell? ⟨ba, oa + j, none⟩ = some (.int .i64 x) := cell_keep HBR.out (by simpa [RInt] using hxa)
      have xb : wr.cell? ⟨b8, o8 + j, none⟩ = some (.int .i64 y) := cell_keep HBR.out (by simpa [RInt] using hxb)
      clear hxa hxb hxx hyy hr hl1 hl2
      by_cases hxy : x = y
      · have e1 : (x != y) = false := by simp [hxy]
        have HF : Hid (R = decide (fl.drop (j + 1) = fl2.drop (j + 1))) := Lib.hid (by rw [HV.out]; simp [hxy])
        clear HV hxy
        go_wp2_with fail
        go_quiet (fail)
        all_goals go_wp2_with fail
        go_roundw
        case rel => exact ⟨j + 1, by omega, by go_num, Lib.hid (fun i v hi => HX.out i v hi), Lib.hid (fun i v hi => HY.out i v hi), Lib.hid (below_drewN HBR.out _), HF⟩
        case measure => simp [intOf]; omega
      · have e1 : (x != y) = true := by simp [hxy]
        have HF : Hid (R = false) := Lib.hid (by rw [HV.out]; simp [hxy])
        clear HV hxy
        go_wp2_with fail
        go_quiet (fail)
        all_goals go_wp2_with fail
        go_ret
        exact ⟨by rw [HF.out]; rfl, below_drewN HBR.out _⟩
    · have HF : Hid (R = true) := Lib.hid (by
        rw [hr.out, List.drop_eq_nil_of_le (by rw [HN.out]; omega), List.drop_eq_nil_of_le (by rw [HN2.out]; omega)]
        simp)
      clear hr
      go_wp2_with fail
      go_ret
      exact ⟨by rw [HF.out]; rfl, HBR.out⟩
end Go.Proofs.YtbnljlpefpllcaaGreatDoor
