/-
  Parts of the proof: V37 V38 V38A V38B V38C V38D V39A.
-/
import Derived.Test.YtbnljlpefpllcaaGreatDoorMD17
import Derived.Test.YtbnljlpefpllcaaGreatDoorMD15
import Derived.Test.YtbnljlpefpllcaaGreatDoorMD5
namespace Go.Proofs.YtbnljlpefpllcaaGreatDoor
open Go Go.RowKit Go.Maps
/-- The tables of operators. -/
structure TabsOk (w : World) : Prop where
  un : Slc 2 RPr w (some ⟨0, 0, none⟩) 2 unaryT
  bi : Slc 2 RPr w (some ⟨1, 0, none⟩) 6 binaryT
theorem TabsOk.keep {w w' : World} (h : TabsOk w) (hb : Below w.heap.size w w') : TabsOk w' := ⟨h.un.keep RPr.keeps hb, h.bi.keep RPr.keeps hb⟩
theorem slc_new1 (W : World) (x : Int) (T : TypeId) (k : Nat) (hk : k = W.heap.size) : Slc 1 RInt (W.alloc (.cells #[.int .i64 x] T)) (some ⟨k, 0, none⟩) 1 [x] := by
  subst hk
  refine ⟨fun _ => ⟨_, _, rfl, by simp, fun i q hi => ?_⟩, by simp, by omega⟩
  show (W.alloc _).cell? ⟨W.heap.size, 0 + i * 1, none⟩ = _
  rw [World.cell?_alloc_at _ _ _ _ (by simp), Nat.zero_add, Nat.mul_one]
  match i, hi with
  | 0, hi => simp at hi; subst hi; rfl
  | i + 1, hi => simp at hi
set_option maxRecDepth 100000 in
set_option maxHeartbeats 8000000 in
theorem rvalue_any {b : Bdy} {bh : BH} {r : Nat} {w : World} (H : Ck w b bh r) (hT : TabsOk w) (rv : Rvl) (t : Nat) (ht : t < b.types.length) (A B : Option Addr) (c d : Nat) (hp : Slc 2 RPj w A c rv.place.proj) (hl : Slc 4 ROp w B d rv.args) :
    Calls Tryz.prog 126 #[.agg (ckC b bh r).toArray, .agg (rvC rv A c B d).toArray, .int .i64 t] w fun e' w' => e' = .returned (.int .i64 (rvE b rv t)) ∧ Below w.heap.size w w' := by
  have HU := Lib.hid (fun W => unused_any rv A B c d W)
  obtain ⟨R, hR⟩ : ∃ R, rvE b rv t = R := ⟨_, rfl⟩
  rw [hR]
  have HR : Hid (R = if rv.kind < 0 ∨ 4 < rv.kind then 14 else if unusedR rv = false then 2 else if rv.kind = 0 then opsE b rv.args [(t : Int)] else if rv.kind = 1 then borE b rv t else if rv.kind = 2 then operE b rv t unaryT else if rv.kind = 3 then operE b rv t binaryT else if b.types[t].kind ≠ 4 ∨ b.types[t].flds.length ≠ rv.args.length then 22 else opsE b rv.args b.types[t].flds) := Lib.hid (by
    rw [← hR, rvE]
    simp only [Int.toNat_natCast]
    rw [List.getElem?_eq_getElem ht])
  have HH := Lib.hid H
  have HT := Lib.hid hT
  have HL := Lib.hid hl
  have HP := Lib.hid hp
  have hle := hl.le
  have hbig := hl.big
  clear hR H hT hl hp
  unfold ckC
  by_cases h0 : rv.kind < 0 ∨ 4 < rv.kind
  · have HF : Hid (R = 14) := Lib.hid (by rw [HR.out, if_pos h0])
    clear HR HU
    unfold rvC
    go_enter Tryz.func126, Tryz.ntmps126
    go_wp2_with fail
    all_goals first
      | (exfalso; omega)
      | (go_ret; exact ⟨by rw [HF.out]; rfl, by (repeat (first | exact Below.refl _ _ | assumption | refine Below.alloc ?_ (by first | omega | (simp; done) | (simp; omega)) _ | refine below_drewN ?_ _ | refine Below.drew ?_ | refine Below.setCell ?_ (by first | omega | (simp; done) | (simp; omega)) _))⟩)
  obtain ⟨u, hu⟩ : ∃ u, unusedR rv = u := ⟨_, rfl⟩
  rw [hu] at HU HR
  cases u
  · have HF : Hid (R = 2) := Lib.hid (by rw [HR.out, if_neg h0, if_pos rfl])
    have h1 : ¬ rv.kind < 0 := by omega
    have h2 : ¬ 4 < rv.kind := by omega
    clear HR h0
    unfold rvC at HU ⊢
    go_enter Tryz.func126, Tryz.ntmps126
    go_wp2_with (go_at_call 176; refine (HU.out _).mono ?_; rintro e' w1 ⟨rfl, hb1⟩; have HB := Lib.hid ((bel2 _ _ _).trans (hb1.mono (bel2 _ _ _).size)); obtain ⟨y, z⟩ := cells_two hb1; have HY := Lib.hid y; have HZ := Lib.hid z; have y0 := HY.out 0 _ rfl; have y1 := HY.out 1 _ rfl; have y2 := HY.out 2 _ rfl; have y3 := HY.out 3 _ rfl; have y4 := HY.out 4 _ rfl; have y5 := HY.out 5 _ rfl; have y6 := HY.out 6 _ rfl; have y7 := HY.out 7 _ rfl; have z0 := HZ.out 0 _ rfl; have z1 := HZ.out 1 _ rfl; have z2 := HZ.out 2 _ rfl; have z3 := HZ.out 3 _ rfl; have z4 := HZ.out 4 _ rfl; have z5 := HZ.out 5 _ rfl; have z6 := HZ.out 6 _ rfl; have hlw := hb1.size; simp only [World.size_alloc] at hlw; have hlw1 : w.heap.size + 1 < w1.heap.size := hlw; have hlw0 : w.heap.size < w1.heap.size := Nat.lt_of_succ_lt hlw; clear y z hb1)
    all_goals first
      | (exfalso; omega)
      | (go_ret; exact ⟨by rw [HF.out]; rfl, HB.out⟩)
  have HR2 : Hid (R = if rv.kind = 0 then opsE b rv.args [(t : Int)] else if rv.kind = 1 then borE b rv t else if rv.kind = 2 then operE b rv t unaryT else if rv.kind = 3 then operE b rv t binaryT else if b.types[t].kind ≠ 4 ∨ b.types[t].flds.length ≠ rv.args.length then 22 else opsE b rv.args b.types[t].flds) := Lib.hid (by rw [HR.out, if_neg h0, if_neg (by simp)])
  clear HR
  rcases (show rv.kind = 0 ∨ rv.kind = 1 ∨ rv.kind = 2 ∨ rv.kind = 3 ∨ rv.kind = 4 by omega) with hk | hk | hk | hk | hk
  · have HF : Hid (R = opsE b rv.args [(t : Int)]) := Lib.hid (by rw [HR2.out, if_pos hk])
    have HC := Lib.hid (fun (W : World) (hb : Below w.heap.size w W) (C : Option Addr) (f : Nat) (hf : Slc 1 RInt W C f [(t : Int)]) => operands_any (HH.out.keep hb) rv.args [(t : Int)] B C d f (HL.out.keep ROp.keeps hb) hf (by simp; omega))
    clear HR2 hu h0
    unfold rvC at HU ⊢
    unfold ckC at HC
    rw [hk] at HU ⊢
    go_enter Tryz.func126, Tryz.ntmps126
    go_wp2_with (first | (go_at_call 176; refine (HU.out _).mono ?_; rintro e' w1 ⟨rfl, hb1⟩; have HB := Lib.hid ((bel2 _ _ _).trans (hb1.mono (bel2 _ _ _).size)); obtain ⟨y, z⟩ := cells_two hb1; have HY := Lib.hid y; have HZ := Lib.hid z; have y0 := HY.out 0 _ rfl; have y1 := HY.out 1 _ rfl; have y2 := HY.out 2 _ rfl; have y3 := HY.out 3 _ rfl; have y4 := HY.out 4 _ rfl; have y5 := HY.out 5 _ rfl; have y6 := HY.out 6 _ rfl; have y7 := HY.out 7 _ rfl; have z0 := HZ.out 0 _ rfl; have z1 := HZ.out 1 _ rfl; have z2 := HZ.out 2 _ rfl; have z3 := HZ.out 3 _ rfl; have z4 := HZ.out 4 _ rfl; have z5 := HZ.out 5 _ rfl; have z6 := HZ.out 6 _ rfl; have hlw := hb1.size; simp only [World.size_alloc] at hlw; have hlw1 : w.heap.size + 1 < w1.heap.size := hlw; have hlw0 : w.heap.size < w1.heap.size := Nat.lt_of_succ_lt hlw; clear y z hb1) | (go_at_call 131; refine (HC.out _ (HB.out.alloc HB.out.size _) _ _ (slc_new1 _ _ _ _ rfl)).mono ?_; rintro e' w2 ⟨rfl, hb2⟩; have HB2 := Lib.hid ((HB.out.alloc HB.out.size _).trans (hb2.mono (HB.out.alloc HB.out.size _).size)); clear hb2))
    go_ret
    exact ⟨by rw [HF.out]; rfl, HB2.out⟩
  · have HF : Hid (R = borE b rv t) := Lib.hid (by rw [HR2.out, if_neg (by omega), if_pos hk])
    have HC := Lib.hid (fun (W : World) (hb : Below w.heap.size w W) => borrow_any (HH.out.keep hb) rv t ht A B c d (HP.out.keep RPj.keeps hb))
    clear HR2 hu h0
    unfold rvC at HU HC ⊢
    unfold ckC at HC
    rw [hk] at HU HC ⊢
    go_enter Tryz.func126, Tryz.ntmps126
    go_wp2_with (first | (go_at_call 176; refine (HU.out _).mono ?_; rintro e' w1 ⟨rfl, hb1⟩; have HB := Lib.hid ((bel2 _ _ _).trans (hb1.mono (bel2 _ _ _).size)); obtain ⟨y, z⟩ := cells_two hb1; have HY := Lib.hid y; have HZ := Lib.hid z; have y0 := HY.out 0 _ rfl; have y1 := HY.out 1 _ rfl; have y2 := HY.out 2 _ rfl; have y3 := HY.out 3 _ rfl; have y4 := HY.out 4 _ rfl; have y5 := HY.out 5 _ rfl; have y6 := HY.out 6 _ rfl; have y7 := HY.out 7 _ rfl; have z0 := HZ.out 0 _ rfl; have z1 := HZ.out 1 _ rfl; have z2 := HZ.out 2 _ rfl; have z3 := HZ.out 3 _ rfl; have z4 := HZ.out 4 _ rfl; have z5 := HZ.out 5 _ rfl; have z6 := HZ.out 6 _ rfl; have hlw := hb1.size; simp only [World.size_alloc] at hlw; have hlw1 : w.heap.size + 1 < w1.heap.size := hlw; have hlw0 : w.heap.size < w1.heap.size := Nat.lt_of_succ_lt hlw; clear y z hb1) | (go_at_call 177; refine (HC.out _ HB.out).mono ?_; rintro e' w2 ⟨rfl, hb2⟩; have HB2 := Lib.hid (HB.out.trans (hb2.mono HB.out.size)); clear hb2))
    go_ret
    exact ⟨by rw [HF.out]; rfl, HB2.out⟩
  · have HF : Hid (R = operE b rv t unaryT) := Lib.hid (by rw [HR2.out, if_neg (by omega), if_neg (by omega), if_pos hk])
    have HC := Lib.hid (fun (W : World) (hb : Below w.heap.size w W) => operation_any (HH.out.keep hb) rv t ht unaryT A B _ c d 2 (HL.out.keep ROp.keeps hb) (HT.out.keep hb).un)
    clear HR2 hu h0
    unfold rvC at HU HC ⊢
    unfold ckC at HC
    rw [hk] at HU HC ⊢
    go_enter Tryz.func126, Tryz.ntmps126
    go_wp2_with (go_at_call 176; refine (HU.out _).mono ?_; rintro e' w1 ⟨rfl, hb1⟩; have HB := Lib.hid ((bel2 _ _ _).trans (hb1.mono (bel2 _ _ _).size)); obtain ⟨y, z⟩ := cells_two hb1; have HY := Lib.hid y; have HZ := Lib.hid z; have y0 := HY.out 0 _ rfl; have y1 := HY.out 1 _ rfl; have y2 := HY.out 2 _ rfl; have y3 := HY.out 3 _ rfl; have y4 := HY.out 4 _ rfl; have y5 := HY.out 5 _ rfl; have y6 := HY.out 6 _ rfl; have y7 := HY.out 7 _ rfl; have z0 := HZ.out 0 _ rfl; have z1 := HZ.out 1 _ rfl; have z2 := HZ.out 2 _ rfl; have z3 := HZ.out 3 _ rfl; have z4 := HZ.out 4 _ rfl; have z5 := HZ.out 5 _ rfl; have z6 := HZ.out 6 _ rfl; have hlw := hb1.size; simp only [World.size_alloc] at hlw; have hlw1 : w.heap.size + 1 < w1.heap.size := hlw; have hlw0 : w.heap.size < w1.heap.size := Nat.lt_of_succ_lt hlw; clear y z hb1)
    clear y0 y1 y2 y3 y4 y5 y6 y7 z0 z1 z2 z3 z4 z5 z6
    have hS : (∀ i v, [Value.string b.name, .slice bh.A1 b.regions.length bh.c1, .slice bh.A2 b.outl.length bh.c2, .slice bh.A3 b.types.length bh.c3, .slice bh.A4 b.locals.length bh.c4, .int .i64 b.args, .slice bh.A5 b.blocks.length bh.c5, .pointer (some ⟨r, 0, none⟩)][i]? = some v → w1.drew.cell? ⟨w.heap.size, i, none⟩ = some v) ∧ (∀ i v, [Value.int .i64 2, .int .i64 rv.op, .int .i64 rv.reg, .bool rv.mu, .int .i64 rv.place.loc, .slice A rv.place.proj.length c, .slice B rv.args.length d][i]? = some v → w1.drew.cell? ⟨w.heap.size + 1, i, none⟩ = some v) := ⟨HY.out, HZ.out⟩
    refine wp_region_o (S := fun X => (∀ i v, [Value.string b.name, .slice bh.A1 b.regions.length bh.c1, .slice bh.A2 b.outl.length bh.c2, .slice bh.A3 b.types.length bh.c3, .slice bh.A4 b.locals.length bh.c4, .int .i64 b.args, .slice bh.A5 b.blocks.length bh.c5, .pointer (some ⟨r, 0, none⟩)][i]? = some v → X.cell? ⟨w.heap.size, i, none⟩ = some v) ∧ (∀ i v, [Value.int .i64 2, .int .i64 rv.op, .int .i64 rv.reg, .bool rv.mu, .int .i64 rv.place.loc, .slice A rv.place.proj.length c, .slice B rv.args.length d][i]? = some v → X.cell? ⟨w.heap.size + 1, i, none⟩ = some v)) [0, 1, 2, 3, 4, 5] (by kernel_rfl) ?_
    (iterate 4 (refine wpO_take (v := ?_) (by kernel_rfl) (fun _ _ _ h => h) (Or.inl ⟨by rfl, ?_⟩) hS ?_; rotate_left; (next => (rintro X ⟨hX, hY⟩; have s0 := hX 0 _ rfl; have s1 := hX 1 _ rfl; have s2 := hX 2 _ rfl; have s3 := hX 3 _ rfl; have s4 := hX 4 _ rfl; have s5 := hX 5 _ rfl; have s6 := hX 6 _ rfl; have s7 := hX 7 _ rfl; have u0 := hY 0 _ rfl; have u1 := hY 1 _ rfl; have u2 := hY 2 _ rfl; have u3 := hY 3 _ rfl; have u4 := hY 4 _ rfl; have u5 := hY 5 _ rfl; have u6 := hY 6 _ rfl; (try simp only [List.getD_cons_zero, List.getD_cons_succ, List.getElem?_toArray, List.getElem?_cons_zero, List.getElem?_cons_succ, Option.getD_some]); go_simp; rfl)); simp only [List.getD_cons_zero, List.getD_cons_succ, List.getElem?_toArray, List.getElem?_cons_zero, List.getElem?_cons_succ, Option.getD_some, Act.put, List.setIfInBounds_toArray, List.set_cons_zero, List.set_cons_succ]))
    (refine wpO_one (by kernel_rfl) (fun K1 hK1 => ?_); simp only [List.getD_cons_zero, List.getD_cons_succ, List.getElem?_toArray, List.getElem?_cons_zero, List.getElem?_cons_succ, Option.getD_some, Act.put, List.setIfInBounds_toArray, List.set_cons_zero, List.set_cons_succ]; rw [if_pos (by rfl)]; go_simp)
    refine (HC.out _ HB.out.drew).mono ?_
    rintro e' w2 ⟨rfl, hb⟩
    replace hS := And.intro (cells_kept hS.1 hb) (cells_kept hS.2 hb)
    have HB2 := Lib.hid (HB.out.drew.trans (hb.mono HB.out.size))
    clear hb
    refine hK1.out _ _ (fun _ => hS) ?_
    (iterate 1 (refine wpO_take (v := ?_) (by kernel_rfl) (fun _ _ _ h => h) (Or.inl ⟨by rfl, ?_⟩) hS ?_; rotate_left; (next => (rintro X -; (try simp only [List.getD_cons_zero, List.getD_cons_succ, List.getElem?_toArray, List.getElem?_cons_zero, List.getElem?_cons_succ, Option.getD_some]); go_simp; rfl)); simp only [List.getD_cons_zero, List.getD_cons_succ, List.getElem?_toArray, List.getElem?_cons_zero, List.getElem?_cons_succ, Option.getD_some, Act.put, List.setIfInBounds_toArray, List.set_cons_zero, List.set_cons_succ]))
    refine wpO_done (by kernel_rfl) ?_
    go_wp2_with fail
    go_ret
    exact ⟨by rw [HF.out]; rfl, HB2.out⟩
  · have HF : Hid (R = operE b rv t binaryT) := Lib.hid (by rw [HR2.out, if_neg (by omega), if_neg (by omega), if_neg (by omega), if_pos hk])
    have HC := Lib.hid (fun (W : World) (hb : Below w.heap.size w W) => operation_any (HH.out.keep hb) rv t ht binaryT A B _ c d 6 (HL.out.keep ROp.keeps hb) (HT.out.keep hb).bi)
    clear HR2 hu h0
    unfold rvC at HU HC ⊢
    unfold ckC at HC
    rw [hk] at HU HC ⊢
    go_enter Tryz.func126, Tryz.ntmps126
    go_wp2_with (go_at_call 176; refine (HU.out _).mono ?_; rintro e' w1 ⟨rfl, hb1⟩; have HB := Lib.hid ((bel2 _ _ _).trans (hb1.mono (bel2 _ _ _).size)); obtain ⟨y, z⟩ := cells_two hb1; have HY := Lib.hid y; have HZ := Lib.hid z; have y0 := HY.out 0 _ rfl; have y1 := HY.out 1 _ rfl; have y2 := HY.out 2 _ rfl; have y3 := HY.out 3 _ rfl; have y4 := HY.out 4 _ rfl; have y5 := HY.out 5 _ rfl; have y6 := HY.out 6 _ rfl; have y7 := HY.out 7 _ rfl; have z0 := HZ.out 0 _ rfl; have z1 := HZ.out 1 _ rfl; have z2 := HZ.out 2 _ rfl; have z3 := HZ.out 3 _ rfl; have z4 := HZ.out 4 _ rfl; have z5 := HZ.out 5 _ rfl; have z6 := HZ.out 6 _ rfl; have hlw := hb1.size; simp only [World.size_alloc] at hlw; have hlw1 : w.heap.size + 1 < w1.heap.size := hlw; have hlw0 : w.heap.size < w1.heap.size := Nat.lt_of_succ_lt hlw; clear y z hb1)
    clear y0 y1 y2 y3 y4 y5 y6 y7 z0 z1 z2 z3 z4 z5 z6
    have hS : (∀ i v, [Value.string b.name, .slice bh.A1 b.regions.length bh.c1, .slice bh.A2 b.outl.length bh.c2, .slice bh.A3 b.types.length bh.c3, .slice bh.A4 b.locals.length bh.c4, .int .i64 b.args, .slice bh.A5 b.blocks.length bh.c5, .pointer (some ⟨r, 0, none⟩)][i]? = some v → w1.drew.cell? ⟨w.heap.size, i, none⟩ = some v) ∧ (∀ i v, [Value.int .i64 3, .int .i64 rv.op, .int .i64 rv.reg, .bool rv.mu, .int .i64 rv.place.loc, .slice A rv.place.proj.length c, .slice B rv.args.length d][i]? = some v → w1.drew.cell? ⟨w.heap.size + 1, i, none⟩ = some v) := ⟨HY.out, HZ.out⟩
    refine wp_region_o (S := fun X => (∀ i v, [Value.string b.name, .slice bh.A1 b.regions.length bh.c1, .slice bh.A2 b.outl.length bh.c2, .slice bh.A3 b.types.length bh.c3, .slice bh.A4 b.locals.length bh.c4, .int .i64 b.args, .slice bh.A5 b.blocks.length bh.c5, .pointer (some ⟨r, 0, none⟩)][i]? = some v → X.cell? ⟨w.heap.size, i, none⟩ = some v) ∧ (∀ i v, [Value.int .i64 3, .int .i64 rv.op, .int .i64 rv.reg, .bool rv.mu, .int .i64 rv.place.loc, .slice A rv.place.proj.length c, .slice B rv.args.length d][i]? = some v → X.cell? ⟨w.heap.size + 1, i, none⟩ = some v)) [0, 1, 2, 3, 4, 5] (by kernel_rfl) ?_
    (iterate 4 (refine wpO_take (v := ?_) (by kernel_rfl) (fun _ _ _ h => h) (Or.inl ⟨by rfl, ?_⟩) hS ?_; rotate_left; (next => (rintro X ⟨hX, hY⟩; have s0 := hX 0 _ rfl; have s1 := hX 1 _ rfl; have s2 := hX 2 _ rfl; have s3 := hX 3 _ rfl; have s4 := hX 4 _ rfl; have s5 := hX 5 _ rfl; have s6 := hX 6 _ rfl; have s7 := hX 7 _ rfl; have u0 := hY 0 _ rfl; have u1 := hY 1 _ rfl; have u2 := hY 2 _ rfl; have u3 := hY 3 _ rfl; have u4 := hY 4 _ rfl; have u5 := hY 5 _ rfl; have u6 := hY 6 _ rfl; (try simp only [List.getD_cons_zero, List.getD_cons_succ, List.getElem?_toArray, List.getElem?_cons_zero, List.getElem?_cons_succ, Option.getD_some]); go_simp; rfl)); simp only [List.getD_cons_zero, List.getD_cons_succ, List.getElem?_toArray, List.getElem?_cons_zero, List.getElem?_cons_succ, Option.getD_some, Act.put, List.setIfInBounds_toArray, List.set_cons_zero, List.set_cons_succ]))
    (refine wpO_one (by kernel_rfl) (fun K1 hK1 => ?_); simp only [List.getD_cons_zero, List.getD_cons_succ, List.getElem?_toArray, List.getElem?_cons_zero, List.getElem?_cons_succ, Option.getD_some, Act.put, List.setIfInBounds_toArray, List.set_cons_zero, List.set_cons_succ]; rw [if_pos (by rfl)]; go_simp)
    refine (HC.out _ HB.out.drew).mono ?_
    rintro e' w2 ⟨rfl, hb⟩
    replace hS := And.intro (cells_kept hS.1 hb) (cells_kept hS.2 hb)
    have HB2 := Lib.hid (HB.out.drew.trans (hb.mono HB.out.size))
    clear hb
    refine hK1.out _ _ (fun _ => hS) ?_
    (iterate 1 (refine wpO_take (v := ?_) (by kernel_rfl) (fun _ _ _ h => h) (Or.inl ⟨by rfl, ?_⟩) hS ?_; rotate_left; (next => (rintro X -; (try simp only [List.getD_cons_zero, List.getD_cons_succ, List.getElem?_toArray, List.getElem?_cons_zero, List.getElem?_cons_succ, Option.getD_some]); go_simp; rfl)); simp only [List.getD_cons_zero, List.getD_cons_succ, List.getElem?_toArray, List.getElem?_cons_zero, List.getElem?_cons_succ, Option.getD_some, Act.put, List.setIfInBounds_toArray, List.set_cons_zero, List.set_cons_succ]))
    refine wpO_done (by kernel_rfl) ?_
    go_wp2_with fail
    go_ret
    exact ⟨by rw [HF.out]; rfl, HB2.out⟩
  · obtain ⟨bb, oo, hA3, hbb, hxx⟩ := HH.out.at_.typ.sl.at_ ht
    have hgd := HH.out.ok.tyok t ht
    obtain ⟨ty, hty⟩ : ∃ ty, b.types[t] = ty := ⟨_, rfl⟩
    have hle3 := HH.out.at_.typ.le
    have hbig3 := HH.out.at_.typ.big
    rw [hty] at hxx hgd HR2
    obtain ⟨q0, q1, q2, q3, A5, c5, q4, q6, q7, q8⟩ := hxx
    have HFS : Hid (Slc 1 RInt w A5 c5 ty.flds) := Lib.hid ⟨q8, q6, q7⟩
    have HF0 : Hid (R = if ty.kind ≠ 4 ∨ ty.flds.length ≠ rv.args.length then 22 else opsE b rv.args ty.flds) := Lib.hid (by rw [HR2.out, if_neg (by omega), if_neg (by omega), if_neg (by omega), if_neg (by omega)])
    have HC := Lib.hid (fun (W : World) (hb : Below w.heap.size w W) => operands_any (HH.out.keep hb) rv.args ty.flds B A5 d c5 (HL.out.keep ROp.keeps hb) (HFS.out.keep RInt.keeps hb) (fun x hx => by have := hgd.2 x hx; omega))
    obtain ⟨p1, hp1⟩ : ∃ p, (ty.kind != 4) = p := ⟨_, rfl⟩
    obtain ⟨p2, hp2⟩ : ∃ p, ((ty.flds.length : Int) != (rv.args.length : Int)) = p := ⟨_, rfl⟩
    have HF1 : Hid (R = if p1 = true ∨ p2 = true then 22 else opsE b rv.args ty.flds) := Lib.hid (by
      rw [HF0.out, ← hp1, ← hp2]
      simp only [bne_iff_ne, ne_eq, Int.ofNat_inj])
    generalize opsE b rv.args ty.flds = oe at HC HF1
    have HF : Hid (R = firstE [fail22 (p1 || p2), oe]) := Lib.hid (by rw [HF1.out]; cases p1 <;> cases p2 <;> simp [firstE, fail22])
    have HP1 := Lib.hid hp1
    have HP2 := Lib.hid hp2
    clear HR2 HF0 HF1 hu h0 hty hgd q8
    unfold rvC at HU ⊢
    unfold ckC at HC
    rw [hA3] at HC ⊢
    rw [hk] at HU ⊢
    go_enter Tryz.func126, Tryz.ntmps126
    go_wp2_with (go_at_call 176; refine (HU.out _).mono ?_; rintro e' w1 ⟨rfl, hb1⟩; have HB := Lib.hid ((bel2 _ _ _).trans (hb1.mono (bel2 _ _ _).size)); obtain ⟨y, z⟩ := cells_two hb1; have HY := Lib.hid y; have HZ := Lib.hid z; have y0 := HY.out 0 _ rfl; have y1 := HY.out 1 _ rfl; have y2 := HY.out 2 _ rfl; have y3 := HY.out 3 _ rfl; have y4 := HY.out 4 _ rfl; have y5 := HY.out 5 _ rfl; have y6 := HY.out 6 _ rfl; have y7 := HY.out 7 _ rfl; have z0 := HZ.out 0 _ rfl; have z1 := HZ.out 1 _ rfl; have z2 := HZ.out 2 _ rfl; have z3 := HZ.out 3 _ rfl; have z4 := HZ.out 4 _ rfl; have z5 := HZ.out 5 _ rfl; have z6 := HZ.out 6 _ rfl; have v0 := cell_keep HB.out q0; have v1 := cell_keep HB.out q1; have v2 := cell_keep HB.out q2; have v3 := cell_keep HB.out q3; have v4 := cell_keep HB.out q4; have hlw := hb1.size; simp only [World.size_alloc] at hlw; have hlw1 : w.heap.size + 1 < w1.heap.size := hlw; have hlw0 : w.heap.size < w1.heap.size := Nat.lt_of_succ_lt hlw; clear y z hb1)
    have HBX := Lib.hid ((HB.out.alloc HB.out.size (.cells (tyL ty A5 c5).toArray 83)).drew)
    have hS : (∀ i v, [Value.string b.name, .slice bh.A1 b.regions.length bh.c1, .slice bh.A2 b.outl.length bh.c2, .slice (some ⟨bb, oo, none⟩) b.types.length bh.c3, .slice bh.A4 b.locals.length bh.c4, .int .i64 b.args, .slice bh.A5 b.blocks.length bh.c5, .pointer (some ⟨r, 0, none⟩)][i]? = some v → (w1.alloc (.cells (tyL ty A5 c5).toArray 83)).drew.cell? ⟨w.heap.size, i, none⟩ = some v) ∧ (∀ i v, [Value.int .i64 4, .int .i64 rv.op, .int .i64 rv.reg, .bool rv.mu, .int .i64 rv.place.loc, .slice A rv.place.proj.length c, .slice B rv.args.length d][i]? = some v → (w1.alloc (.cells (tyL ty A5 c5).toArray 83)).drew.cell? ⟨w.heap.size + 1, i, none⟩ = some v) ∧ (∀ i v, (tyL ty A5 c5)[i]? = some v → (w1.alloc (.cells (tyL ty A5 c5).toArray 83)).drew.cell? ⟨w1.heap.size, i, none⟩ = some v) :=
      ⟨fun i v hi => cell_keep (((Below.refl _ _).alloc (Nat.le_refl _) _).drew) (HY.out i v hi), fun i v hi => cell_keep (((Below.refl _ _).alloc (Nat.le_refl _) _).drew) (HZ.out i v hi), cells_new w1 (tyL ty A5 c5) _⟩
    clear y0 y1 y2 y3 y4 y5 y6 y7 z0 z1 z2 z3 z4 z5 z6 v0 v1 v2 v3 v4 q0 q1 q2 q3 q4
    refine wp_region_o (S := fun X => (∀ i v, [Value.string b.name, .slice bh.A1 b.regions.length bh.c1, .slice bh.A2 b.outl.length bh.c2, .slice (some ⟨bb, oo, none⟩) b.types.length bh.c3, .slice bh.A4 b.locals.length bh.c4, .int .i64 b.args, .slice bh.A5 b.blocks.length bh.c5, .pointer (some ⟨r, 0, none⟩)][i]? = some v → X.cell? ⟨w.heap.size, i, none⟩ = some v) ∧ (∀ i v, [Value.int .i64 4, .int .i64 rv.op, .int .i64 rv.reg, .bool rv.mu, .int .i64 rv.place.loc, .slice A rv.place.proj.length c, .slice B rv.args.length d][i]? = some v → X.cell? ⟨w.heap.size + 1, i, none⟩ = some v) ∧ (∀ i v, (tyL ty A5 c5)[i]? = some v → X.cell? ⟨w1.heap.size, i, none⟩ = some v)) [0, 1, 2, 3, 4, 5, 6, 7, 8, 9, 10, 11, 13, 14, 15, 16, 17, 12, 18, 19, 20, 21] (by kernel_rfl) ?_
    (iterate 3 (refine wpO_take (v := ?_) (by kernel_rfl) (fun _ _ _ h => h) (Or.inl ⟨by rfl, ?_⟩) hS ?_; rotate_left; (next => (rintro X ⟨hX, hY, hZ⟩; have u0 := hZ 0 _ rfl; (try simp only [List.getD_cons_zero, List.getD_cons_succ, List.getElem?_toArray, List.getElem?_cons_zero, List.getElem?_cons_succ, Option.getD_some]); go_simp; rfl)); simp only [List.getD_cons_zero, List.getD_cons_succ, List.getElem?_toArray, List.getElem?_cons_zero, List.getElem?_cons_succ, Option.getD_some, Act.put, List.setIfInBounds_toArray, List.set_cons_zero, List.set_cons_succ]))
    try rw [HP1.out]
    cases p1
    · (iterate 1 (refine wpO_take (v := ?_) (by kernel_rfl) (fun _ _ _ h => h) (Or.inl ⟨by rfl, ?_⟩) hS ?_; rotate_left; (next => (rintro X -; (try simp only [List.getD_cons_zero, List.getD_cons_succ, List.getElem?_toArray, List.getElem?_cons_zero, List.getElem?_cons_succ, Option.getD_some]); go_simp; rfl)); simp only [List.getD_cons_zero, List.getD_cons_succ, List.getElem?_toArray, List.getElem?_cons_zero, List.getElem?_cons_succ, Option.getD_some, Act.put, List.setIfInBounds_toArray, List.set_cons_zero, List.set_cons_succ]))
      (iterate 6 (refine wpO_take (v := ?_) (by kernel_rfl) (fun _ _ _ h => h) (Or.inl ⟨by rfl, ?_⟩) hS ?_; rotate_left; (next => (rintro X ⟨hX, hY, hZ⟩; have u4 := hZ 4 _ rfl; have u6 := hY 6 _ rfl; (try simp only [List.getD_cons_zero, List.getD_cons_succ, List.getElem?_toArray, List.getElem?_cons_zero, List.getElem?_cons_succ, Option.getD_some]); go_simp; rfl)); simp only [List.getD_cons_zero, List.getD_cons_succ, List.getElem?_toArray, List.getElem?_cons_zero, List.getElem?_cons_succ, Option.getD_some, Act.put, List.setIfInBounds_toArray, List.set_cons_zero, List.set_cons_succ]))
      (iterate 1 (refine wpO_take (v := ?_) (by kernel_rfl) (fun _ _ _ h => h) (Or.inl ⟨by rfl, ?_⟩) hS ?_; rotate_left; (next => (rintro X -; (try simp only [List.getD_cons_zero, List.getD_cons_succ, List.getElem?_toArray, List.getElem?_cons_zero, List.getElem?_cons_succ, Option.getD_some]); go_simp; rfl)); simp only [List.getD_cons_zero, List.getD_cons_succ, List.getElem?_toArray, List.getElem?_cons_zero, List.getElem?_cons_succ, Option.getD_some, Act.put, List.setIfInBounds_toArray, List.set_cons_zero, List.set_cons_succ]))
      try rw [HP2.out]
      (iterate 1 (refine wpO_take (v := ?_) (by kernel_rfl) (fun _ _ _ h => h) (Or.inl ⟨by rfl, ?_⟩) hS ?_; rotate_left; (next => (rintro X -; (try simp only [List.getD_cons_zero, List.getD_cons_succ, List.getElem?_toArray, List.getElem?_cons_zero, List.getElem?_cons_succ, Option.getD_some]); go_simp; rfl)); simp only [List.getD_cons_zero, List.getD_cons_succ, List.getElem?_toArray, List.getElem?_cons_zero, List.getElem?_cons_succ, Option.getD_some, Act.put, List.setIfInBounds_toArray, List.set_cons_zero, List.set_cons_succ]))
      (iterate 5 (refine wpO_take (v := ?_) (by kernel_rfl) (fun _ _ _ h => h) (Or.inl ⟨by rfl, ?_⟩) hS ?_; rotate_left; (next => (rintro X ⟨hX, hY, hZ⟩; have s0 := hX 0 _ rfl; have s1 := hX 1 _ rfl; have s2 := hX 2 _ rfl; have s3 := hX 3 _ rfl; have s4 := hX 4 _ rfl; have s5 := hX 5 _ rfl; have s6 := hX 6 _ rfl; have s7 := hX 7 _ rfl; have u4 := hZ 4 _ rfl; have u6 := hY 6 _ rfl; (try simp only [List.getD_cons_zero, List.getD_cons_succ, List.getElem?_toArray, List.getElem?_cons_zero, List.getElem?_cons_succ, Option.getD_some]); go_simp; rfl)); simp only [List.getD_cons_zero, List.getD_cons_succ, List.getElem?_toArray, List.getElem?_cons_zero, List.getElem?_cons_succ, Option.getD_some, Act.put, List.setIfInBounds_toArray, List.set_cons_zero, List.set_cons_succ]))
      (refine wpO_one (by kernel_rfl) (fun K1 hK1 => ?_); simp only [List.getD_cons_zero, List.getD_cons_succ, List.getElem?_toArray, List.getElem?_cons_zero, List.getElem?_cons_succ, Option.getD_some, Act.put, List.setIfInBounds_toArray, List.set_cons_zero, List.set_cons_succ]; rw [if_pos (by rfl)]; go_simp)
      refine (failed_any _ _).mono ?_
      rintro e' w3 ⟨rfl, hw⟩
      obtain rfl := hw.symm
      refine hK1.out _ _ (fun _ => hS) ?_
      clear hK1
      (refine wpO_one (by kernel_rfl) (fun K1 hK1 => ?_); simp only [List.getD_cons_zero, List.getD_cons_succ, List.getElem?_toArray, List.getElem?_cons_zero, List.getElem?_cons_succ, Option.getD_some, Act.put, List.setIfInBounds_toArray, List.set_cons_zero, List.set_cons_succ]; rw [if_pos (by rfl)]; go_simp)
      refine (HC.out _ HBX.out).mono ?_
      rintro e' w2 ⟨rfl, hb⟩
      replace hS := And.intro (cells_kept hS.1 hb) (And.intro (cells_kept hS.2.1 hb) (cells_kept hS.2.2 hb))
      have HB2 := Lib.hid (HBX.out.trans (hb.mono HBX.out.size))
      clear hb
      refine hK1.out _ _ (fun _ => hS) ?_
      clear hK1
      (refine wpO_one (by kernel_rfl) (fun K1 hK1 => ?_); simp only [List.getD_cons_zero, List.getD_cons_succ, List.getElem?_toArray, List.getElem?_cons_zero, List.getElem?_cons_succ, Option.getD_some, Act.put, List.setIfInBounds_toArray, List.set_cons_zero, List.set_cons_succ]; rw [if_pos (by rfl)]; go_simp)
      replace hS := And.intro (fun i v hi => cell_keep ((Below.refl _ _).alloc (Nat.le_refl _) (.cells #[Value.int .i64 (fail22 p2), .int .i64 oe] 35)) (hS.1 i v hi)) (And.intro (fun i v hi => cell_keep ((Below.refl _ _).alloc (Nat.le_refl _) (.cells #[Value.int .i64 (fail22 p2), .int .i64 oe] 35)) (hS.2.1 i v hi)) (fun i v hi => cell_keep ((Below.refl _ _).alloc (Nat.le_refl _) (.cells #[Value.int .i64 (fail22 p2), .int .i64 oe] 35)) (hS.2.2 i v hi)))
      refine hK1.out _ _ (fun _ => hS) ?_
      clear hK1
      (refine wpO_one (by kernel_rfl) (fun K1 hK1 => ?_); simp only [List.getD_cons_zero, List.getD_cons_succ, List.getElem?_toArray, List.getElem?_cons_zero, List.getElem?_cons_succ, Option.getD_some, Act.put, List.setIfInBounds_toArray, List.set_cons_zero, List.set_cons_succ]; rw [if_pos (by rfl)]; go_simp)
      refine (first_any [fail22 p2, oe] _ 2 _ (two_sl _ _ _ _ _ rfl)).mono ?_
      rintro e' w4 ⟨rfl, hw⟩
      obtain rfl := hw.symm
      refine hK1.out _ _ (fun _ => hS) ?_
      clear hK1
      (iterate 1 (refine wpO_take (v := ?_) (by kernel_rfl) (fun _ _ _ h => h) (Or.inl ⟨by rfl, ?_⟩) hS ?_; rotate_left; (next => (rintro X -; (try simp only [List.getD_cons_zero, List.getD_cons_succ, List.getElem?_toArray, List.getElem?_cons_zero, List.getElem?_cons_succ, Option.getD_some]); go_simp; rfl)); simp only [List.getD_cons_zero, List.getD_cons_succ, List.getElem?_toArray, List.getElem?_cons_zero, List.getElem?_cons_succ, Option.getD_some, Act.put, List.setIfInBounds_toArray, List.set_cons_zero, List.set_cons_succ]))
      refine wpO_done (by kernel_rfl) ?_
      go_wp2_with fail
      go_ret
      exact ⟨by rw [HF.out]; rfl, HB2.out.alloc HB2.out.size _⟩
    · (iterate 1 (refine wpO_take (v := ?_) (by kernel_rfl) (fun _ _ _ h => h) (Or.inl ⟨by rfl, ?_⟩) hS ?_; rotate_left; (next => (rintro X -; (try simp only [List.getD_cons_zero, List.getD_cons_succ, List.getElem?_toArray, List.getElem?_cons_zero, List.getElem?_cons_succ, Option.getD_some]); go_simp; rfl)); simp only [List.getD_cons_zero, List.getD_cons_succ, List.getElem?_toArray, List.getElem?_cons_zero, List.getElem?_cons_succ, Option.getD_some, Act.put, List.setIfInBounds_toArray, List.set_cons_zero, List.set_cons_succ]))
      (iterate 7 (refine wpO_take (v := undef) (by kernel_rfl) (fun _ _ _ h => h) (Or.inr ⟨by rfl, rfl⟩) hS ?_; simp only [List.getD_cons_zero, List.getD_cons_succ, List.getElem?_toArray, List.getElem?_cons_zero, List.getElem?_cons_succ, Option.getD_some, Act.put, List.setIfInBounds_toArray, List.set_cons_zero, List.set_cons_succ]))
      (iterate 1 (refine wpO_take (v := ?_) (by kernel_rfl) (fun _ _ _ h => h) (Or.inl ⟨by rfl, ?_⟩) hS ?_; rotate_left; (next => (rintro X -; (try simp only [List.getD_cons_zero, List.getD_cons_succ, List.getElem?_toArray, List.getElem?_cons_zero, List.getElem?_cons_succ, Option.getD_some]); go_simp; rfl)); simp only [List.getD_cons_zero, List.getD_cons_succ, List.getElem?_toArray, List.getElem?_cons_zero, List.getElem?_cons_succ, Option.getD_some, Act.put, List.setIfInBounds_toArray, List.set_cons_zero, List.set_cons_succ]))
      (iterate 5 (refine wpO_take (v := ?_) (by kernel_rfl) (fun _ _ _ h => h) (Or.inl ⟨by rfl, ?_⟩) hS ?_; rotate_left; (next => (rintro X ⟨hX, hY, hZ⟩; have s0 := hX 0 _ rfl; have s1 := hX 1 _ rfl; have s2 := hX 2 _ rfl; have s3 := hX 3 _ rfl; have s4 := hX 4 _ rfl; have s5 := hX 5 _ rfl; have s6 := hX 6 _ rfl; have s7 := hX 7 _ rfl; have u4 := hZ 4 _ rfl; have u6 := hY 6 _ rfl; (try simp only [List.getD_cons_zero, List.getD_cons_succ, List.getElem?_toArray, List.getElem?_cons_zero, List.getElem?_cons_succ, Option.getD_some]); go_simp; rfl)); simp only [List.getD_cons_zero, List.getD_cons_succ, List.getElem?_toArray, List.getElem?_cons_zero, List.getElem?_cons_succ, Option.getD_some, Act.put, List.setIfInBounds_toArray, List.set_cons_zero, List.set_cons_succ]))
      (refine wpO_one (by kernel_rfl) (fun K1 hK1 => ?_); simp only [List.getD_cons_zero, List.getD_cons_succ, List.getElem?_toArray, List.getElem?_cons_zero, List.getElem?_cons_succ, Option.getD_some, Act.put, List.setIfInBounds_toArray, List.set_cons_zero, List.set_cons_succ]; rw [if_pos (by rfl)]; go_simp)
      refine (failed_any _ _).mono ?_
      rintro e' w3 ⟨rfl, hw⟩
      obtain rfl := hw.symm
      refine hK1.out _ _ (fun _ => hS) ?_
      clear hK1
      (refine wpO_one (by kernel_rfl) (fun K1 hK1 => ?_); simp only [List.getD_cons_zero, List.getD_cons_succ, List.getElem?_toArray, List.getElem?_cons_zero, List.getElem?_cons_succ, Option.getD_some, Act.put, List.setIfInBounds_toArray, List.set_cons_zero, List.set_cons_succ]; rw [if_pos (by rfl)]; go_simp)
      refine (HC.out _ HBX.out).mono ?_
      rintro e' w2 ⟨rfl, hb⟩
      replace hS := And.intro (cells_kept hS.1 hb) (And.intro (cells_kept hS.2.1 hb) (cells_kept hS.2.2 hb))
      have HB2 := Lib.hid (HBX.out.trans (hb.mono HBX.out.size))
      clear hb
      refine hK1.out _ _ (fun _ => hS) ?_
      clear hK1
      (refine wpO_one (by kernel_rfl) (fun K1 hK1 => ?_); simp only [List.getD_cons_zero, List.getD_cons_succ, List.getElem?_toArray, List.getElem?_cons_zero, List.getElem?_cons_succ, Option.getD_some, Act.put, List.setIfInBounds_toArray, List.set_cons_zero, List.set_cons_succ]; rw [if_pos (by rfl)]; go_simp)
      replace hS := And.intro (fun i v hi => cell_keep ((Below.refl _ _).alloc (Nat.le_refl _) (.cells #[Value.int .i64 (fail22 true), .int .i64 oe] 35)) (hS.1 i v hi)) (And.intro (fun i v hi => cell_keep ((Below.refl _ _).alloc (Nat.le_refl _) (.cells #[Value.int .i64 (fail22 true), .int .i64 oe] 35)) (hS.2.1 i v hi)) (fun i v hi => cell_keep ((Below.refl _ _).alloc (Nat.le_refl _) (.cells #[Value.int .i64 (fail22 true), .int .i64 oe] 35)) (hS.2.2 i v hi)))
      refine hK1.out _ _ (fun _ => hS) ?_
      clear hK1
      (refine wpO_one (by kernel_rfl) (fun K1 hK1 => ?_); simp only [List.getD_cons_zero, List.getD_cons_succ, List.getElem?_toArray, List.getElem?_cons_zero, List.getElem?_cons_succ, Option.getD_some, Act.put, List.setIfInBounds_toArray, List.set_cons_zero, List.set_cons_succ]; rw [if_pos (by rfl)]; go_simp)
      refine (first_any [fail22 true, oe] _ 2 _ (two_sl _ _ _ _ _ rfl)).mono ?_
      rintro e' w4 ⟨rfl, hw⟩
      obtain rfl := hw.symm
      refine hK1.out _ _ (fun _ => hS) ?_
      clear hK1
      (iterate 1 (refine wpO_take (v := ?_) (by kernel_rfl) (fun _ _ _ h => h) (Or.inl ⟨by rfl, ?_⟩) hS ?_; rotate_left; (next => (rintro X -; (try simp only [List.getD_cons_zero, List.getD_cons_succ, List.getElem?_toArray, List.getElem?_cons_zero, List.getElem?_cons_succ, Option.getD_some]); go_simp; rfl)); simp only [List.getD_cons_zero, List.getD_cons_succ, List.getElem?_toArray, List.getElem?_cons_zero, List.getElem?_cons_succ, Option.getD_some, Act.put, List.setIfInBounds_toArray, List.set_cons_zero, List.set_cons_succ]))
      refine wpO_done (by kernel_rfl) ?_
      go_wp2_with fail
      go_ret
      exact ⟨by rw [HF.out]; rfl, HB2.out.alloc HB2.out.size _⟩
end Go.Proofs.YtbnljlpefpllcaaGreatDoor
namespace Go.Proofs.YtbnljlpefpllcaaGreatDoor
open Go Go.RowKit Go.Maps
/-- A statement's cells. -/
def stC (s : Stm) (A0 : Option Addr) (c0 : Nat) (A : Option Addr) (c : Nat) (B : Option Addr) (d : Nat) : List Value := [.int .i64 s.kind, .int .i64 s.place.loc, .slice A0 s.place.proj.length c0, .int .i64 s.rv.kind, .int .i64 s.rv.op, .int .i64 s.rv.reg, .bool s.rv.mu, .int .i64 s.rv.place.loc, .slice A s.rv.place.proj.length c, .slice B s.rv.args.length d, .int .i64 s.loc]
theorem bel3 (w : World) (x y z : Obj) : Below w.heap.size w (((w.alloc x).alloc y).alloc z) := by (repeat (first | exact Below.refl _ _ | assumption | refine Below.alloc ?_ (by first | omega | (simp; done) | (simp; omega)) _ | refine below_drewN ?_ _ | refine Below.drew ?_ | refine Below.setCell ?_ (by first | omega | (simp; done) | (simp; omega)) _))
theorem cells_three {w w1 : World} {l1 l2 l3 : List Value} {t1 t2 t3 : TypeId} (hb : Below (((w.alloc (.cells l1.toArray t1)).alloc (.cells l2.toArray t2)).alloc (.cells l3.toArray t3)).heap.size (((w.alloc (.cells l1.toArray t1)).alloc (.cells l2.toArray t2)).alloc (.cells l3.toArray t3)) w1) :
    (∀ i v, l1[i]? = some v → w1.cell? ⟨w.heap.size, i, none⟩ = some v) ∧ (∀ i v, l2[i]? = some v → w1.cell? ⟨w.heap.size + 1, i, none⟩ = some v) ∧ (∀ i v, l3[i]? = some v → w1.cell? ⟨w.heap.size + 1 + 1, i, none⟩ = some v) := by
  refine ⟨fun i v hi => cell_keep hb ?_, fun i v hi => cell_keep hb ?_, fun i v hi => cell_keep hb ?_⟩
  · exact cell_keep (((Below.refl _ _).alloc (Nat.le_refl _) _).alloc (by simp) _) (cells_new w l1 t1 i v hi)
  · have := cells_new (w.alloc (.cells l1.toArray t1)) l2 t2 i v hi
    rw [World.size_alloc] at this
    exact cell_keep ((Below.refl _ _).alloc (Nat.le_refl _) _) this
  · have := cells_new ((w.alloc (.cells l1.toArray t1)).alloc (.cells l2.toArray t2)) l3 t3 i v hi
    simp only [World.size_alloc] at this
    exact this
end Go.Proofs.YtbnljlpefpllcaaGreatDoor
namespace Go.Proofs.YtbnljlpefpllcaaGreatDoor
open Go Go.RowKit Go.Maps
set_option maxRecDepth 100000 in
set_option maxHeartbeats 16000000 in
theorem stmt_loc {b : Bdy} {bh : BH} {r : Nat} {w : World} (H : Ck w b bh r) (hT : TabsOk w) (s : Stm) (A0 A B : Option Addr) (c0 c d : Nat) (hp0 : Slc 2 RPj w A0 c0 s.place.proj) (hp : Slc 2 RPj w A c s.rv.place.proj) (hl : Slc 4 ROp w B d s.rv.args) (hk : s.kind = 0) (hloc : s.loc ≠ 0) :
    Calls Tryz.prog 79 #[.agg (ckC b bh r).toArray, .agg (stC s A0 c0 A c B d).toArray] w fun e' w' => e' = .returned (.int .i64 (stE b s)) ∧ Below w.heap.size w w' := by
  have HZZ := Lib.hid zero_any
  have HH := Lib.hid H
  have HT := Lib.hid hT
  have HP0 := Lib.hid hp0
  have HP := Lib.hid hp
  have HL := Lib.hid hl
  have hle := hl.le
  have hbig := hl.big
  have hlocl := H.at_.loc.le
  have hlocb := H.at_.loc.big
  obtain ⟨R, hR⟩ : ∃ R, stE b s = R := ⟨_, rfl⟩
  rw [hR]
  have HR := Lib.hid hR
  obtain ⟨q1, hq1⟩ : ∃ q, zeroP s.place = q := ⟨_, rfl⟩
  obtain ⟨q2, hq2⟩ : ∃ q, (s.rv.kind == 0) = q := ⟨_, rfl⟩
  obtain ⟨q3, hq3⟩ : ∃ q, (s.rv.op == 0) = q := ⟨_, rfl⟩
  obtain ⟨q4, hq4⟩ : ∃ q, ((s.rv.args.length : Int) == 0) = q := ⟨_, rfl⟩
  obtain ⟨q5, hq5⟩ : ∃ q, (s.rv.reg == 0) = q := ⟨_, rfl⟩
  obtain ⟨q6, hq6⟩ : ∃ q, s.rv.mu = q := ⟨_, rfl⟩
  obtain ⟨q7, hq7⟩ : ∃ q, zeroP s.rv.place = q := ⟨_, rfl⟩
  have HBL : Hid (blankR s.rv = (q2 && q3 && q4 && q5 && !q6 && q7)) := Lib.hid (by
    unfold blankR
    rw [← hq2, ← hq3, ← hq4, ← hq5, ← hq6, ← hq7, nat_beq0]
    rfl)
  have HQ1 := Lib.hid hq1
  have HQ7 := Lib.hid hq7
  have HQ2 := Lib.hid hq2
  have HQ3 := Lib.hid hq3
  have HQ4 := Lib.hid hq4
  have HQ5 := Lib.hid hq5
  have HQ6 := Lib.hid hq6
  clear hq1 hq2 hq3 hq4 hq5 hq7
  have HF : Hid (R = 2) := Lib.hid (by rw [← HR.out, stE, if_pos hk, if_pos hloc])
  have e1 : (s.loc != 0) = true := by simp [hloc]
  clear HBL
  clear HR hR H hT hp0 hp hl
  clear hloc
  rcases (show q1 = false ∨ (q1 = true ∧ q2 = false) ∨ (q1 = true ∧ q2 = true ∧ q3 = false) ∨ (q1 = true ∧ q2 = true ∧ q3 = true ∧ q4 = false) ∨ (q1 = true ∧ q2 = true ∧ q3 = true ∧ q4 = true ∧ q5 = false) ∨ (q1 = true ∧ q2 = true ∧ q3 = true ∧ q4 = true ∧ q5 = true ∧ q6 = true) ∨ (q1 = true ∧ q2 = true ∧ q3 = true ∧ q4 = true ∧ q5 = true ∧ q6 = false) by cases q1 <;> cases q2 <;> cases q3 <;> cases q4 <;> cases q5 <;> cases q6 <;> simp) with rfl | ⟨rfl, rfl⟩ | ⟨rfl, rfl, rfl⟩ | ⟨rfl, rfl, rfl, rfl⟩ | ⟨rfl, rfl, rfl, rfl, rfl⟩ | ⟨rfl, rfl, rfl, rfl, rfl, rfl⟩ | ⟨rfl, rfl, rfl, rfl, rfl, rfl⟩
  all_goals
    have g2 := HQ2.out
    have g3 := HQ3.out
    have g4 := HQ4.out
    have g5 := HQ5.out
    have g6 := HQ6.out
    unfold ckC at *
    unfold stC
    rw [hk]
    go_enter Tryz.func79, Tryz.ntmps79
    go_wp2_with (first | (go_at_call 124; refine (HZZ.out _ _ _ _).mono ?_; rintro e' w2 ⟨rfl, hb2⟩; rw [HQ7.out]; have HB2 := Lib.hid (HB.out.trans (hb2.mono HB.out.size)); have HY2 := Lib.hid (cells_kept HY.out hb2); have HZ3 := Lib.hid (cells_kept HZ.out hb2); have HU2 := Lib.hid (cells_kept HU.out hb2); clear y0 y1 y2 y3 y4 y5 y6 y7 z0 z1 z2 z10 u0 u1 u2 u3 u4 u5 u6 HY HZ HU HB; have HB := HB2; have HY := HY2; have HZ := HZ3; have HU := HU2; have y0 := HY.out 0 _ rfl; have y1 := HY.out 1 _ rfl; have y2 := HY.out 2 _ rfl; have y3 := HY.out 3 _ rfl; have y4 := HY.out 4 _ rfl; have y5 := HY.out 5 _ rfl; have y6 := HY.out 6 _ rfl; have y7 := HY.out 7 _ rfl; have z0 := HZ.out 0 _ rfl; have z1 := HZ.out 1 _ rfl; have z2 := HZ.out 2 _ rfl; have z10 := HZ.out 10 _ rfl; have u0 := HU.out 0 _ rfl; have u1 := HU.out 1 _ rfl; have u2 := HU.out 2 _ rfl; have u3 := HU.out 3 _ rfl; have u4 := HU.out 4 _ rfl; have u5 := HU.out 5 _ rfl; have u6 := HU.out 6 _ rfl; clear hb2 HB2 HY2 HZ3 HU2) | (go_at_call 124; refine (HZZ.out _ _ _ _).mono ?_; rintro e' w1 ⟨rfl, hb1⟩; rw [HQ1.out]; have HB := Lib.hid ((bel3 _ _ _ _).trans (hb1.mono (bel3 _ _ _ _).size)); obtain ⟨y, z, u⟩ := cells_three hb1; have HY := Lib.hid y; have HZ := Lib.hid z; have HU := Lib.hid u; have y0 := HY.out 0 _ rfl; have y1 := HY.out 1 _ rfl; have y2 := HY.out 2 _ rfl; have y3 := HY.out 3 _ rfl; have y4 := HY.out 4 _ rfl; have y5 := HY.out 5 _ rfl; have y6 := HY.out 6 _ rfl; have y7 := HY.out 7 _ rfl; have z0 := HZ.out 0 _ rfl; have z1 := HZ.out 1 _ rfl; have z2 := HZ.out 2 _ rfl; have z10 := HZ.out 10 _ rfl; have u0 := HU.out 0 _ rfl; have u1 := HU.out 1 _ rfl; have u2 := HU.out 2 _ rfl; have u3 := HU.out 3 _ rfl; have u4 := HU.out 4 _ rfl; have u5 := HU.out 5 _ rfl; have u6 := HU.out 6 _ rfl; clear y z u hb1))
    all_goals first
      | (exfalso; omega)
      | (go_ret; exact ⟨by rw [HF.out]; rfl, by first | exact HBW2.out | exact HBW.out | exact HB.out⟩)
end Go.Proofs.YtbnljlpefpllcaaGreatDoor
namespace Go.Proofs.YtbnljlpefpllcaaGreatDoor
open Go Go.RowKit Go.Maps
set_option maxRecDepth 100000 in
set_option maxHeartbeats 16000000 in
theorem stmt_wri {b : Bdy} {bh : BH} {r : Nat} {w : World} (H : Ck w b bh r) (hT : TabsOk w) (s : Stm) (A0 A B : Option Addr) (c0 c d : Nat) (hp0 : Slc 2 RPj w A0 c0 s.place.proj) (hp : Slc 2 RPj w A c s.rv.place.proj) (hl : Slc 4 ROp w B d s.rv.args) (hk : s.kind = 0) (hloc : s.loc = 0) (hw : writE b s.place ≠ 0) :
    Calls Tryz.prog 79 #[.agg (ckC b bh r).toArray, .agg (stC s A0 c0 A c B d).toArray] w fun e' w' => e' = .returned (.int .i64 (stE b s)) ∧ Below w.heap.size w w' := by
  have HZZ := Lib.hid zero_any
  have HH := Lib.hid H
  have HT := Lib.hid hT
  have HP0 := Lib.hid hp0
  have HP := Lib.hid hp
  have HL := Lib.hid hl
  have hle := hl.le
  have hbig := hl.big
  have hlocl := H.at_.loc.le
  have hlocb := H.at_.loc.big
  obtain ⟨R, hR⟩ : ∃ R, stE b s = R := ⟨_, rfl⟩
  rw [hR]
  have HR := Lib.hid hR
  obtain ⟨q1, hq1⟩ : ∃ q, zeroP s.place = q := ⟨_, rfl⟩
  obtain ⟨q2, hq2⟩ : ∃ q, (s.rv.kind == 0) = q := ⟨_, rfl⟩
  obtain ⟨q3, hq3⟩ : ∃ q, (s.rv.op == 0) = q := ⟨_, rfl⟩
  obtain ⟨q4, hq4⟩ : ∃ q, ((s.rv.args.length : Int) == 0) = q := ⟨_, rfl⟩
  obtain ⟨q5, hq5⟩ : ∃ q, (s.rv.reg == 0) = q := ⟨_, rfl⟩
  obtain ⟨q6, hq6⟩ : ∃ q, s.rv.mu = q := ⟨_, rfl⟩
  obtain ⟨q7, hq7⟩ : ∃ q, zeroP s.rv.place = q := ⟨_, rfl⟩
  have HBL : Hid (blankR s.rv = (q2 && q3 && q4 && q5 && !q6 && q7)) := Lib.hid (by
    unfold blankR
    rw [← hq2, ← hq3, ← hq4, ← hq5, ← hq6, ← hq7, nat_beq0]
    rfl)
  have HQ1 := Lib.hid hq1
  have HQ7 := Lib.hid hq7
  have HQ2 := Lib.hid hq2
  have HQ3 := Lib.hid hq3
  have HQ4 := Lib.hid hq4
  have HQ5 := Lib.hid hq5
  have HQ6 := Lib.hid hq6
  clear hq1 hq2 hq3 hq4 hq5 hq7
  have HF : Hid (R = writE b s.place) := Lib.hid (by rw [← HR.out, stE, if_pos hk, if_neg (by simp [hloc]), if_pos hw])
  have e1 : (s.loc != 0) = false := by simp [hloc]
  have HW := Lib.hid (fun (W : World) (hb : Below w.heap.size w W) => writable_any b bh r s.place A0 c0 W (HH.out.keep hb).at_ (HP0.out.keep RPj.keeps hb) HH.out.ok.okay)
  generalize writE b s.place = we at HF HW hw
  have e2 : (we != 0) = true := by simp [hw]
  clear HBL hloc hw
  clear HR hR H hT hp0 hp hl
  rcases (show q1 = false ∨ (q1 = true ∧ q2 = false) ∨ (q1 = true ∧ q2 = true ∧ q3 = false) ∨ (q1 = true ∧ q2 = true ∧ q3 = true ∧ q4 = false) ∨ (q1 = true ∧ q2 = true ∧ q3 = true ∧ q4 = true ∧ q5 = false) ∨ (q1 = true ∧ q2 = true ∧ q3 = true ∧ q4 = true ∧ q5 = true ∧ q6 = true) ∨ (q1 = true ∧ q2 = true ∧ q3 = true ∧ q4 = true ∧ q5 = true ∧ q6 = false) by cases q1 <;> cases q2 <;> cases q3 <;> cases q4 <;> cases q5 <;> cases q6 <;> simp) with rfl | ⟨rfl, rfl⟩ | ⟨rfl, rfl, rfl⟩ | ⟨rfl, rfl, rfl, rfl⟩ | ⟨rfl, rfl, rfl, rfl, rfl⟩ | ⟨rfl, rfl, rfl, rfl, rfl, rfl⟩ | ⟨rfl, rfl, rfl, rfl, rfl, rfl⟩
  all_goals
    have g2 := HQ2.out
    have g3 := HQ3.out
    have g4 := HQ4.out
    have g5 := HQ5.out
    have g6 := HQ6.out
    unfold ckC at *
    unfold stC
    rw [hk]
    go_enter Tryz.func79, Tryz.ntmps79
    go_wp2_with (first | (go_at_call 124; refine (HZZ.out _ _ _ _).mono ?_; rintro e' w2 ⟨rfl, hb2⟩; rw [HQ7.out]; have HB2 := Lib.hid (HB.out.trans (hb2.mono HB.out.size)); have HY2 := Lib.hid (cells_kept HY.out hb2); have HZ3 := Lib.hid (cells_kept HZ.out hb2); have HU2 := Lib.hid (cells_kept HU.out hb2); clear y0 y1 y2 y3 y4 y5 y6 y7 z0 z1 z2 z10 u0 u1 u2 u3 u4 u5 u6 HY HZ HU HB; have HB := HB2; have HY := HY2; have HZ := HZ3; have HU := HU2; have y0 := HY.out 0 _ rfl; have y1 := HY.out 1 _ rfl; have y2 := HY.out 2 _ rfl; have y3 := HY.out 3 _ rfl; have y4 := HY.out 4 _ rfl; have y5 := HY.out 5 _ rfl; have y6 := HY.out 6 _ rfl; have y7 := HY.out 7 _ rfl; have z0 := HZ.out 0 _ rfl; have z1 := HZ.out 1 _ rfl; have z2 := HZ.out 2 _ rfl; have z10 := HZ.out 10 _ rfl; have u0 := HU.out 0 _ rfl; have u1 := HU.out 1 _ rfl; have u2 := HU.out 2 _ rfl; have u3 := HU.out 3 _ rfl; have u4 := HU.out 4 _ rfl; have u5 := HU.out 5 _ rfl; have u6 := HU.out 6 _ rfl; clear hb2 HB2 HY2 HZ3 HU2) | (go_at_call 124; refine (HZZ.out _ _ _ _).mono ?_; rintro e' w1 ⟨rfl, hb1⟩; rw [HQ1.out]; have HB := Lib.hid ((bel3 _ _ _ _).trans (hb1.mono (bel3 _ _ _ _).size)); obtain ⟨y, z, u⟩ := cells_three hb1; have HY := Lib.hid y; have HZ := Lib.hid z; have HU := Lib.hid u; have y0 := HY.out 0 _ rfl; have y1 := HY.out 1 _ rfl; have y2 := HY.out 2 _ rfl; have y3 := HY.out 3 _ rfl; have y4 := HY.out 4 _ rfl; have y5 := HY.out 5 _ rfl; have y6 := HY.out 6 _ rfl; have y7 := HY.out 7 _ rfl; have z0 := HZ.out 0 _ rfl; have z1 := HZ.out 1 _ rfl; have z2 := HZ.out 2 _ rfl; have z10 := HZ.out 10 _ rfl; have u0 := HU.out 0 _ rfl; have u1 := HU.out 1 _ rfl; have u2 := HU.out 2 _ rfl; have u3 := HU.out 3 _ rfl; have u4 := HU.out 4 _ rfl; have u5 := HU.out 5 _ rfl; have u6 := HU.out 6 _ rfl; clear y z u hb1) | (go_at_call 125; refine (HW.out _ HB.out).mono ?_; rintro e' w3 ⟨rfl, hb3⟩; have HBW := Lib.hid (HB.out.trans (hb3.mono HB.out.size)); have HY3 := Lib.hid (cells_kept HY.out hb3); have HU3 := Lib.hid (cells_kept HU.out hb3); clear y0 y1 y2 y3 y4 y5 y6 y7 u0 u1 u2 u3 u4 u5 u6; have y0 := HY3.out 0 _ rfl; have y1 := HY3.out 1 _ rfl; have y2 := HY3.out 2 _ rfl; have y3 := HY3.out 3 _ rfl; have y4 := HY3.out 4 _ rfl; have y5 := HY3.out 5 _ rfl; have y6 := HY3.out 6 _ rfl; have y7 := HY3.out 7 _ rfl; have u0 := HU3.out 0 _ rfl; have u1 := HU3.out 1 _ rfl; have u2 := HU3.out 2 _ rfl; have u3 := HU3.out 3 _ rfl; have u4 := HU3.out 4 _ rfl; have u5 := HU3.out 5 _ rfl; have u6 := HU3.out 6 _ rfl; clear hb3))
    all_goals first
      | (exfalso; omega)
      | (go_ret; exact ⟨by rw [HF.out]; rfl, by first | exact HBW2.out | exact HBW.out | exact HB.out⟩)
end Go.Proofs.YtbnljlpefpllcaaGreatDoor
namespace Go.Proofs.YtbnljlpefpllcaaGreatDoor
open Go Go.RowKit Go.Maps
set_option maxRecDepth 100000 in
set_option maxHeartbeats 16000000 in
theorem stmt_asg {b : Bdy} {bh : BH} {r : Nat} {w : World} (H : Ck w b bh r) (hT : TabsOk w) (s : Stm) (A0 A B : Option Addr) (c0 c d : Nat) (hp0 : Slc 2 RPj w A0 c0 s.place.proj) (hp : Slc 2 RPj w A c s.rv.place.proj) (hl : Slc 4 ROp w B d s.rv.args) (hk : s.kind = 0) (hloc : s.loc = 0) (hw : writE b s.place = 0) :
    Calls Tryz.prog 79 #[.agg (ckC b bh r).toArray, .agg (stC s A0 c0 A c B d).toArray] w fun e' w' => e' = .returned (.int .i64 (stE b s)) ∧ Below w.heap.size w w' := by
  have HZZ := Lib.hid zero_any
  have HH := Lib.hid H
  have HT := Lib.hid hT
  have HP0 := Lib.hid hp0
  have HP := Lib.hid hp
  have HL := Lib.hid hl
  have hle := hl.le
  have hbig := hl.big
  have hlocl := H.at_.loc.le
  have hlocb := H.at_.loc.big
  obtain ⟨R, hR⟩ : ∃ R, stE b s = R := ⟨_, rfl⟩
  rw [hR]
  have HR := Lib.hid hR
  obtain ⟨q1, hq1⟩ : ∃ q, zeroP s.place = q := ⟨_, rfl⟩
  obtain ⟨q2, hq2⟩ : ∃ q, (s.rv.kind == 0) = q := ⟨_, rfl⟩
  obtain ⟨q3, hq3⟩ : ∃ q, (s.rv.op == 0) = q := ⟨_, rfl⟩
  obtain ⟨q4, hq4⟩ : ∃ q, ((s.rv.args.length : Int) == 0) = q := ⟨_, rfl⟩
  obtain ⟨q5, hq5⟩ : ∃ q, (s.rv.reg == 0) = q := ⟨_, rfl⟩
  obtain ⟨q6, hq6⟩ : ∃ q, s.rv.mu = q := ⟨_, rfl⟩
  obtain ⟨q7, hq7⟩ : ∃ q, zeroP s.rv.place = q := ⟨_, rfl⟩
  have HBL : Hid (blankR s.rv = (q2 && q3 && q4 && q5 && !q6 && q7)) := Lib.hid (by
    unfold blankR
    rw [← hq2, ← hq3, ← hq4, ← hq5, ← hq6, ← hq7, nat_beq0]
    rfl)
  have HQ1 := Lib.hid hq1
  have HQ7 := Lib.hid hq7
  have HQ2 := Lib.hid hq2
  have HQ3 := Lib.hid hq3
  have HQ4 := Lib.hid hq4
  have HQ5 := Lib.hid hq5
  have HQ6 := Lib.hid hq6
  clear hq1 hq2 hq3 hq4 hq5 hq7
  have HF : Hid (R = rvE b s.rv (tyB b s.place).1) := Lib.hid (by rw [← HR.out, stE, if_pos hk, if_neg (by simp [hloc]), if_neg (by simp [hw])])
  have e1 : (s.loc != 0) = false := by simp [hloc]
  have HW := Lib.hid (fun (W : World) (hb : Below w.heap.size w W) => writable_any b bh r s.place A0 c0 W (HH.out.keep hb).at_ (HP0.out.keep RPj.keeps hb) HH.out.ok.okay)
  have hte : (tyB b s.place).2 = 0 := by
    unfold writE at hw
    by_cases h : (tyB b s.place).2 ≠ 0
    · rw [if_pos h] at hw; exact hw
    · simpa using h
  have hin := tyOf_ok H.ok.okay (l := s.place.loc) (ps := s.place.proj) hte
  change 0 ≤ (tyB b s.place).1 ∧ (tyB b s.place).1 < b.types.length at hin
  rw [hw] at HW
  obtain ⟨t, htt⟩ := Int.eq_ofNat_of_zero_le hin.1
  have hin2 := hin.2
  rw [htt] at HF HW hin2
  have HRV0 := Lib.hid (fun (W : World) (hb : Below w.heap.size w W) => rvalue_any (HH.out.keep hb) (HT.out.keep hb) s.rv t (by omega) A B c d (HP.out.keep RPj.keeps hb) (HL.out.keep ROp.keeps hb))
  unfold rvC at HRV0
  rw [hq6] at HRV0
  have HRV := HRV0
  clear HBL hloc hw hte hin hin2 htt HRV0
  clear HR hR H hT hp0 hp hl
  rcases (show q1 = false ∨ (q1 = true ∧ q2 = false) ∨ (q1 = true ∧ q2 = true ∧ q3 = false) ∨ (q1 = true ∧ q2 = true ∧ q3 = true ∧ q4 = false) ∨ (q1 = true ∧ q2 = true ∧ q3 = true ∧ q4 = true ∧ q5 = false) ∨ (q1 = true ∧ q2 = true ∧ q3 = true ∧ q4 = true ∧ q5 = true ∧ q6 = true) ∨ (q1 = true ∧ q2 = true ∧ q3 = true ∧ q4 = true ∧ q5 = true ∧ q6 = false) by cases q1 <;> cases q2 <;> cases q3 <;> cases q4 <;> cases q5 <;> cases q6 <;> simp) with rfl | ⟨rfl, rfl⟩ | ⟨rfl, rfl, rfl⟩ | ⟨rfl, rfl, rfl, rfl⟩ | ⟨rfl, rfl, rfl, rfl, rfl⟩ | ⟨rfl, rfl, rfl, rfl, rfl, rfl⟩ | ⟨rfl, rfl, rfl, rfl, rfl, rfl⟩
  all_goals
    have g2 := HQ2.out
    have g3 := HQ3.out
    have g4 := HQ4.out
    have g5 := HQ5.out
    have g6 := HQ6.out
    unfold ckC at *
    unfold stC
    rw [hk]
    go_enter Tryz.func79, Tryz.ntmps79
    go_wp2_with (first | (go_at_call 124; refine (HZZ.out _ _ _ _).mono ?_; rintro e' w2 ⟨rfl, hb2⟩; rw [HQ7.out]; have HB2 := Lib.hid (HB.out.trans (hb2.mono HB.out.size)); have HY2 := Lib.hid (cells_kept HY.out hb2); have HZ3 := Lib.hid (cells_kept HZ.out hb2); have HU2 := Lib.hid (cells_kept HU.out hb2); clear y0 y1 y2 y3 y4 y5 y6 y7 z0 z1 z2 z10 u0 u1 u2 u3 u4 u5 u6 HY HZ HU HB; have HB := HB2; have HY := HY2; have HZ := HZ3; have HU := HU2; have y0 := HY.out 0 _ rfl; have y1 := HY.out 1 _ rfl; have y2 := HY.out 2 _ rfl; have y3 := HY.out 3 _ rfl; have y4 := HY.out 4 _ rfl; have y5 := HY.out 5 _ rfl; have y6 := HY.out 6 _ rfl; have y7 := HY.out 7 _ rfl; have z0 := HZ.out 0 _ rfl; have z1 := HZ.out 1 _ rfl; have z2 := HZ.out 2 _ rfl; have z10 := HZ.out 10 _ rfl; have u0 := HU.out 0 _ rfl; have u1 := HU.out 1 _ rfl; have u2 := HU.out 2 _ rfl; have u3 := HU.out 3 _ rfl; have u4 := HU.out 4 _ rfl; have u5 := HU.out 5 _ rfl; have u6 := HU.out 6 _ rfl; clear hb2 HB2 HY2 HZ3 HU2) | (go_at_call 124; refine (HZZ.out _ _ _ _).mono ?_; rintro e' w1 ⟨rfl, hb1⟩; rw [HQ1.out]; have HB := Lib.hid ((bel3 _ _ _ _).trans (hb1.mono (bel3 _ _ _ _).size)); obtain ⟨y, z, u⟩ := cells_three hb1; have HY := Lib.hid y; have HZ := Lib.hid z; have HU := Lib.hid u; have y0 := HY.out 0 _ rfl; have y1 := HY.out 1 _ rfl; have y2 := HY.out 2 _ rfl; have y3 := HY.out 3 _ rfl; have y4 := HY.out 4 _ rfl; have y5 := HY.out 5 _ rfl; have y6 := HY.out 6 _ rfl; have y7 := HY.out 7 _ rfl; have z0 := HZ.out 0 _ rfl; have z1 := HZ.out 1 _ rfl; have z2 := HZ.out 2 _ rfl; have z10 := HZ.out 10 _ rfl; have u0 := HU.out 0 _ rfl; have u1 := HU.out 1 _ rfl; have u2 := HU.out 2 _ rfl; have u3 := HU.out 3 _ rfl; have u4 := HU.out 4 _ rfl; have u5 := HU.out 5 _ rfl; have u6 := HU.out 6 _ rfl; clear y z u hb1) | (go_at_call 125; refine (HW.out _ HB.out).mono ?_; rintro e' w3 ⟨rfl, hb3⟩; have HBW := Lib.hid (HB.out.trans (hb3.mono HB.out.size)); have HY3 := Lib.hid (cells_kept HY.out hb3); have HU3 := Lib.hid (cells_kept HU.out hb3); clear y0 y1 y2 y3 y4 y5 y6 y7 u0 u1 u2 u3 u4 u5 u6; have y0 := HY3.out 0 _ rfl; have y1 := HY3.out 1 _ rfl; have y2 := HY3.out 2 _ rfl; have y3 := HY3.out 3 _ rfl; have y4 := HY3.out 4 _ rfl; have y5 := HY3.out 5 _ rfl; have y6 := HY3.out 6 _ rfl; have y7 := HY3.out 7 _ rfl; have u0 := HU3.out 0 _ rfl; have u1 := HU3.out 1 _ rfl; have u2 := HU3.out 2 _ rfl; have u3 := HU3.out 3 _ rfl; have u4 := HU3.out 4 _ rfl; have u5 := HU3.out 5 _ rfl; have u6 := HU3.out 6 _ rfl; clear hb3) | (go_at_call 126; refine (HRV.out _ HBW.out).mono ?_; rintro e' w4 ⟨rfl, hb4⟩; have HBW2 := Lib.hid (HBW.out.trans (hb4.mono HBW.out.size)); clear hb4))
    all_goals first
      | (exfalso; omega)
      | (go_ret; exact ⟨by rw [HF.out]; rfl, by first | exact HBW2.out | exact HBW.out | exact HB.out⟩)
end Go.Proofs.YtbnljlpefpllcaaGreatDoor
namespace Go.Proofs.YtbnljlpefpllcaaGreatDoor
open Go Go.RowKit Go.Maps
set_option maxRecDepth 100000 in
set_option maxHeartbeats 16000000 in
theorem stmt_dead {b : Bdy} {bh : BH} {r : Nat} {w : World} (H : Ck w b bh r) (hT : TabsOk w) (s : Stm) (A0 A B : Option Addr) (c0 c d : Nat) (hp0 : Slc 2 RPj w A0 c0 s.place.proj) (hp : Slc 2 RPj w A c s.rv.place.proj) (hl : Slc 4 ROp w B d s.rv.args) (hk : s.kind = 1) :
    Calls Tryz.prog 79 #[.agg (ckC b bh r).toArray, .agg (stC s A0 c0 A c B d).toArray] w fun e' w' => e' = .returned (.int .i64 (stE b s)) ∧ Below w.heap.size w w' := by
  have HZZ := Lib.hid zero_any
  have HH := Lib.hid H
  have HT := Lib.hid hT
  have HP0 := Lib.hid hp0
  have HP := Lib.hid hp
  have HL := Lib.hid hl
  have hle := hl.le
  have hbig := hl.big
  have hlocl := H.at_.loc.le
  have hlocb := H.at_.loc.big
  obtain ⟨R, hR⟩ : ∃ R, stE b s = R := ⟨_, rfl⟩
  rw [hR]
  have HR := Lib.hid hR
  obtain ⟨q1, hq1⟩ : ∃ q, zeroP s.place = q := ⟨_, rfl⟩
  obtain ⟨q2, hq2⟩ : ∃ q, (s.rv.kind == 0) = q := ⟨_, rfl⟩
  obtain ⟨q3, hq3⟩ : ∃ q, (s.rv.op == 0) = q := ⟨_, rfl⟩
  obtain ⟨q4, hq4⟩ : ∃ q, ((s.rv.args.length : Int) == 0) = q := ⟨_, rfl⟩
  obtain ⟨q5, hq5⟩ : ∃ q, (s.rv.reg == 0) = q := ⟨_, rfl⟩
  obtain ⟨q6, hq6⟩ : ∃ q, s.rv.mu = q := ⟨_, rfl⟩
  obtain ⟨q7, hq7⟩ : ∃ q, zeroP s.rv.place = q := ⟨_, rfl⟩
  have HBL : Hid (blankR s.rv = (q2 && q3 && q4 && q5 && !q6 && q7)) := Lib.hid (by
    unfold blankR
    rw [← hq2, ← hq3, ← hq4, ← hq5, ← hq6, ← hq7, nat_beq0]
    rfl)
  have HQ1 := Lib.hid hq1
  have HQ7 := Lib.hid hq7
  have HQ2 := Lib.hid hq2
  have HQ3 := Lib.hid hq3
  have HQ4 := Lib.hid hq4
  have HQ5 := Lib.hid hq5
  have HQ6 := Lib.hid hq6
  clear hq1 hq2 hq3 hq4 hq5 hq7
  have HF0 : Hid (R = if q1 = false ∨ (q2 && q3 && q4 && q5 && !q6 && q7) = false then 2 else if s.loc < 0 ∨ (b.locals.length : Int) ≤ s.loc then 3 else 0) := Lib.hid (by rw [← HR.out, stE, if_neg (by omega), if_pos hk, HBL.out, HQ1.out])
  clear HBL
  clear HR hR H hT hp0 hp hl
  by_cases hall : q1 = true ∧ q2 = true ∧ q3 = true ∧ q4 = true ∧ q5 = true ∧ q6 = false
  · obtain ⟨rfl, rfl, rfl, rfl, rfl, rfl⟩ := hall
    cases q7
    · have HF : Hid (R = 2) := Lib.hid (by rw [HF0.out]; simp)
      clear HF0
      have g2 := HQ2.out
      have g3 := HQ3.out
      have g4 := HQ4.out
      have g5 := HQ5.out
      have g6 := HQ6.out
      unfold ckC at *
      unfold stC
      rw [hk]
      go_enter Tryz.func79, Tryz.ntmps79
      go_wp2_with (first | (go_at_call 124; refine (HZZ.out _ _ _ _).mono ?_; rintro e' w2 ⟨rfl, hb2⟩; rw [HQ7.out]; have HB2 := Lib.hid (HB.out.trans (hb2.mono HB.out.size)); have HY2 := Lib.hid (cells_kept HY.out hb2); have HZ3 := Lib.hid (cells_kept HZ.out hb2); have HU2 := Lib.hid (cells_kept HU.out hb2); clear y0 y1 y2 y3 y4 y5 y6 y7 z0 z1 z2 z10 u0 u1 u2 u3 u4 u5 u6 HY HZ HU HB; have HB := HB2; have HY := HY2; have HZ := HZ3; have HU := HU2; have y0 := HY.out 0 _ rfl; have y1 := HY.out 1 _ rfl; have y2 := HY.out 2 _ rfl; have y3 := HY.out 3 _ rfl; have y4 := HY.out 4 _ rfl; have y5 := HY.out 5 _ rfl; have y6 := HY.out 6 _ rfl; have y7 := HY.out 7 _ rfl; have z0 := HZ.out 0 _ rfl; have z1 := HZ.out 1 _ rfl; have z2 := HZ.out 2 _ rfl; have z10 := HZ.out 10 _ rfl; have u0 := HU.out 0 _ rfl; have u1 := HU.out 1 _ rfl; have u2 := HU.out 2 _ rfl; have u3 := HU.out 3 _ rfl; have u4 := HU.out 4 _ rfl; have u5 := HU.out 5 _ rfl; have u6 := HU.out 6 _ rfl; clear hb2 HB2 HY2 HZ3 HU2) | (go_at_call 124; refine (HZZ.out _ _ _ _).mono ?_; rintro e' w1 ⟨rfl, hb1⟩; rw [HQ1.out]; have HB := Lib.hid ((bel3 _ _ _ _).trans (hb1.mono (bel3 _ _ _ _).size)); obtain ⟨y, z, u⟩ := cells_three hb1; have HY := Lib.hid y; have HZ := Lib.hid z; have HU := Lib.hid u; have y0 := HY.out 0 _ rfl; have y1 := HY.out 1 _ rfl; have y2 := HY.out 2 _ rfl; have y3 := HY.out 3 _ rfl; have y4 := HY.out 4 _ rfl; have y5 := HY.out 5 _ rfl; have y6 := HY.out 6 _ rfl; have y7 := HY.out 7 _ rfl; have z0 := HZ.out 0 _ rfl; have z1 := HZ.out 1 _ rfl; have z2 := HZ.out 2 _ rfl; have z10 := HZ.out 10 _ rfl; have u0 := HU.out 0 _ rfl; have u1 := HU.out 1 _ rfl; have u2 := HU.out 2 _ rfl; have u3 := HU.out 3 _ rfl; have u4 := HU.out 4 _ rfl; have u5 := HU.out 5 _ rfl; have u6 := HU.out 6 _ rfl; clear y z u hb1))
      all_goals first
        | (exfalso; omega)
        | (go_ret; exact ⟨by rw [HF.out]; rfl, HB.out⟩)
    by_cases hlo : s.loc < 0 ∨ (b.locals.length : Int) ≤ s.loc
    · have HF : Hid (R = 3) := Lib.hid (by rw [HF0.out]; simp [hlo]; try omega)
      skip
      clear HF0
      have g2 := HQ2.out
      have g3 := HQ3.out
      have g4 := HQ4.out
      have g5 := HQ5.out
      have g6 := HQ6.out
      unfold ckC at *
      unfold stC
      rw [hk]
      go_enter Tryz.func79, Tryz.ntmps79
      go_wp2_with (first | (go_at_call 124; refine (HZZ.out _ _ _ _).mono ?_; rintro e' w2 ⟨rfl, hb2⟩; rw [HQ7.out]; have HB2 := Lib.hid (HB.out.trans (hb2.mono HB.out.size)); have HY2 := Lib.hid (cells_kept HY.out hb2); have HZ3 := Lib.hid (cells_kept HZ.out hb2); have HU2 := Lib.hid (cells_kept HU.out hb2); clear y0 y1 y2 y3 y4 y5 y6 y7 z0 z1 z2 z10 u0 u1 u2 u3 u4 u5 u6 HY HZ HU HB; have HB := HB2; have HY := HY2; have HZ := HZ3; have HU := HU2; have y0 := HY.out 0 _ rfl; have y1 := HY.out 1 _ rfl; have y2 := HY.out 2 _ rfl; have y3 := HY.out 3 _ rfl; have y4 := HY.out 4 _ rfl; have y5 := HY.out 5 _ rfl; have y6 := HY.out 6 _ rfl; have y7 := HY.out 7 _ rfl; have z0 := HZ.out 0 _ rfl; have z1 := HZ.out 1 _ rfl; have z2 := HZ.out 2 _ rfl; have z10 := HZ.out 10 _ rfl; have u0 := HU.out 0 _ rfl; have u1 := HU.out 1 _ rfl; have u2 := HU.out 2 _ rfl; have u3 := HU.out 3 _ rfl; have u4 := HU.out 4 _ rfl; have u5 := HU.out 5 _ rfl; have u6 := HU.out 6 _ rfl; clear hb2 HB2 HY2 HZ3 HU2) | (go_at_call 124; refine (HZZ.out _ _ _ _).mono ?_; rintro e' w1 ⟨rfl, hb1⟩; rw [HQ1.out]; have HB := Lib.hid ((bel3 _ _ _ _).trans (hb1.mono (bel3 _ _ _ _).size)); obtain ⟨y, z, u⟩ := cells_three hb1; have HY := Lib.hid y; have HZ := Lib.hid z; have HU := Lib.hid u; have y0 := HY.out 0 _ rfl; have y1 := HY.out 1 _ rfl; have y2 := HY.out 2 _ rfl; have y3 := HY.out 3 _ rfl; have y4 := HY.out 4 _ rfl; have y5 := HY.out 5 _ rfl; have y6 := HY.out 6 _ rfl; have y7 := HY.out 7 _ rfl; have z0 := HZ.out 0 _ rfl; have z1 := HZ.out 1 _ rfl; have z2 := HZ.out 2 _ rfl; have z10 := HZ.out 10 _ rfl; have u0 := HU.out 0 _ rfl; have u1 := HU.out 1 _ rfl; have u2 := HU.out 2 _ rfl; have u3 := HU.out 3 _ rfl; have u4 := HU.out 4 _ rfl; have u5 := HU.out 5 _ rfl; have u6 := HU.out 6 _ rfl; clear y z u hb1))
      all_goals first
        | (exfalso; omega)
        | (go_ret; exact ⟨by rw [HF.out]; rfl, HB.out⟩)
    · have HF : Hid (R = 0) := Lib.hid (by rw [HF0.out]; simp [hlo]; try omega)
      have e5 : ¬ s.loc < 0 := by omega
      have e6 : ¬ (b.locals.length : Int) ≤ s.loc := by omega
      clear hlo
      clear HF0
      have g2 := HQ2.out
      have g3 := HQ3.out
      have g4 := HQ4.out
      have g5 := HQ5.out
      have g6 := HQ6.out
      unfold ckC at *
      unfold stC
      rw [hk]
      go_enter Tryz.func79, Tryz.ntmps79
      go_wp2_with (first | (go_at_call 124; refine (HZZ.out _ _ _ _).mono ?_; rintro e' w2 ⟨rfl, hb2⟩; rw [HQ7.out]; have HB2 := Lib.hid (HB.out.trans (hb2.mono HB.out.size)); have HY2 := Lib.hid (cells_kept HY.out hb2); have HZ3 := Lib.hid (cells_kept HZ.out hb2); have HU2 := Lib.hid (cells_kept HU.out hb2); clear y0 y1 y2 y3 y4 y5 y6 y7 z0 z1 z2 z10 u0 u1 u2 u3 u4 u5 u6 HY HZ HU HB; have HB := HB2; have HY := HY2; have HZ := HZ3; have HU := HU2; have y0 := HY.out 0 _ rfl; have y1 := HY.out 1 _ rfl; have y2 := HY.out 2 _ rfl; have y3 := HY.out 3 _ rfl; have y4 := HY.out 4 _ rfl; have y5 := HY.out 5 _ rfl; have y6 := HY.out 6 _ rfl; have y7 := HY.out 7 _ rfl; have z0 := HZ.out 0 _ rfl; have z1 := HZ.out 1 _ rfl; have z2 := HZ.out 2 _ rfl; have z10 := HZ.out 10 _ rfl; have u0 := HU.out 0 _ rfl; have u1 := HU.out 1 _ rfl; have u2 := HU.out 2 _ rfl; have u3 := HU.out 3 _ rfl; have u4 := HU.out 4 _ rfl; have u5 := HU.out 5 _ rfl; have u6 := HU.out 6 _ rfl; clear hb2 HB2 HY2 HZ3 HU2) | (go_at_call 124; refine (HZZ.out _ _ _ _).mono ?_; rintro e' w1 ⟨rfl, hb1⟩; rw [HQ1.out]; have HB := Lib.hid ((bel3 _ _ _ _).trans (hb1.mono (bel3 _ _ _ _).size)); obtain ⟨y, z, u⟩ := cells_three hb1; have HY := Lib.hid y; have HZ := Lib.hid z; have HU := Lib.hid u; have y0 := HY.out 0 _ rfl; have y1 := HY.out 1 _ rfl; have y2 := HY.out 2 _ rfl; have y3 := HY.out 3 _ rfl; have y4 := HY.out 4 _ rfl; have y5 := HY.out 5 _ rfl; have y6 := HY.out 6 _ rfl; have y7 := HY.out 7 _ rfl; have z0 := HZ.out 0 _ rfl; have z1 := HZ.out 1 _ rfl; have z2 := HZ.out 2 _ rfl; have z10 := HZ.out 10 _ rfl; have u0 := HU.out 0 _ rfl; have u1 := HU.out 1 _ rfl; have u2 := HU.out 2 _ rfl; have u3 := HU.out 3 _ rfl; have u4 := HU.out 4 _ rfl; have u5 := HU.out 5 _ rfl; have u6 := HU.out 6 _ rfl; clear y z u hb1))
      all_goals first
        | (exfalso; omega)
        | (go_ret; exact ⟨by rw [HF.out]; rfl, HB.out⟩)
  · have HF : Hid (R = 2) := Lib.hid (by rw [HF0.out, if_pos]; revert hall; cases q1 <;> cases q2 <;> cases q3 <;> cases q4 <;> cases q5 <;> cases q6 <;> simp)
    clear HF0
    rcases (show q1 = false ∨ (q1 = true ∧ q2 = false) ∨ (q1 = true ∧ q2 = true ∧ q3 = false) ∨ (q1 = true ∧ q2 = true ∧ q3 = true ∧ q4 = false) ∨ (q1 = true ∧ q2 = true ∧ q3 = true ∧ q4 = true ∧ q5 = false) ∨ (q1 = true ∧ q2 = true ∧ q3 = true ∧ q4 = true ∧ q5 = true ∧ q6 = true) by revert hall; cases q1 <;> cases q2 <;> cases q3 <;> cases q4 <;> cases q5 <;> cases q6 <;> simp) with rfl | ⟨rfl, rfl⟩ | ⟨rfl, rfl, rfl⟩ | ⟨rfl, rfl, rfl, rfl⟩ | ⟨rfl, rfl, rfl, rfl, rfl⟩ | ⟨rfl, rfl, rfl, rfl, rfl, rfl⟩
    all_goals
      clear hall
      have g2 := HQ2.out
      have g3 := HQ3.out
      have g4 := HQ4.out
      have g5 := HQ5.out
      have g6 := HQ6.out
      unfold ckC at *
      unfold stC
      rw [hk]
      go_enter Tryz.func79, Tryz.ntmps79
      go_wp2_with (first | (go_at_call 124; refine (HZZ.out _ _ _ _).mono ?_; rintro e' w2 ⟨rfl, hb2⟩; rw [HQ7.out]; have HB2 := Lib.hid (HB.out.trans (hb2.mono HB.out.size)); have HY2 := Lib.hid (cells_kept HY.out hb2); have HZ3 := Lib.hid (cells_kept HZ.out hb2); have HU2 := Lib.hid (cells_kept HU.out hb2); clear y0 y1 y2 y3 y4 y5 y6 y7 z0 z1 z2 z10 u0 u1 u2 u3 u4 u5 u6 HY HZ HU HB; have HB := HB2; have HY := HY2; have HZ := HZ3; have HU := HU2; have y0 := HY.out 0 _ rfl; have y1 := HY.out 1 _ rfl; have y2 := HY.out 2 _ rfl; have y3 := HY.out 3 _ rfl; have y4 := HY.out 4 _ rfl; have y5 := HY.out 5 _ rfl; have y6 := HY.out 6 _ rfl; have y7 := HY.out 7 _ rfl; have z0 := HZ.out 0 _ rfl; have z1 := HZ.out 1 _ rfl; have z2 := HZ.out 2 _ rfl; have z10 := HZ.out 10 _ rfl; have u0 := HU.out 0 _ rfl; have u1 := HU.out 1 _ rfl; have u2 := HU.out 2 _ rfl; have u3 := HU.out 3 _ rfl; have u4 := HU.out 4 _ rfl; have u5 := HU.out 5 _ rfl; have u6 := HU.out 6 _ rfl; clear hb2 HB2 HY2 HZ3 HU2) | (go_at_call 124; refine (HZZ.out _ _ _ _).mono ?_; rintro e' w1 ⟨rfl, hb1⟩; rw [HQ1.out]; have HB := Lib.hid ((bel3 _ _ _ _).trans (hb1.mono (bel3 _ _ _ _).size)); obtain ⟨y, z, u⟩ := cells_three hb1; have HY := Lib.hid y; have HZ := Lib.hid z; have HU := Lib.hid u; have y0 := HY.out 0 _ rfl; have y1 := HY.out 1 _ rfl; have y2 := HY.out 2 _ rfl; have y3 := HY.out 3 _ rfl; have y4 := HY.out 4 _ rfl; have y5 := HY.out 5 _ rfl; have y6 := HY.out 6 _ rfl; have y7 := HY.out 7 _ rfl; have z0 := HZ.out 0 _ rfl; have z1 := HZ.out 1 _ rfl; have z2 := HZ.out 2 _ rfl; have z10 := HZ.out 10 _ rfl; have u0 := HU.out 0 _ rfl; have u1 := HU.out 1 _ rfl; have u2 := HU.out 2 _ rfl; have u3 := HU.out 3 _ rfl; have u4 := HU.out 4 _ rfl; have u5 := HU.out 5 _ rfl; have u6 := HU.out 6 _ rfl; clear y z u hb1))
      all_goals first
        | (exfalso; omega)
        | (go_ret; exact ⟨by rw [HF.out]; rfl, HB.out⟩)
end Go.Proofs.YtbnljlpefpllcaaGreatDoor
namespace Go.Proofs.YtbnljlpefpllcaaGreatDoor
open Go Go.RowKit Go.Maps
set_option maxRecDepth 100000 in
set_option maxHeartbeats 16000000 in
theorem term_bad {b : Bdy} {bh : BH} {r : Nat} {w : World} (H : Ck w b bh r) (t : Trm) (A B C : Option Addr) (c d f : Nat) (ht : Slc 1 RInt w A c t.targets) (hl : Slc 4 ROp w B d t.args) (hp : Slc 2 RPj w C f t.place.proj) (hk : (t.kind < 0 ∨ 5 < t.kind) ∨ (¬ (t.kind < 0 ∨ 5 < t.kind) ∧ fieldsT t = false)) :
    Calls Tryz.prog 80 #[.agg (ckC b bh r).toArray, .agg (tmC t A c B d C f).toArray] w fun e' w' => e' = .returned (.int .i64 (tmE b t)) ∧ Below w.heap.size w w' := by
  have HFD := Lib.hid (fun W => fields_any t A B C c d f W)
  have HH := Lib.hid H
  have HTG := Lib.hid ht
  have HL := Lib.hid hl
  have HP := Lib.hid hp
  have hle := hl.le
  have hbig := hl.big
  have hle2 := ht.le
  have hbig2 := ht.big
  have hblkl := H.at_.blk.le
  have hblkb := H.at_.blk.big
  obtain ⟨R, hR⟩ : ∃ R, tmE b t = R := ⟨_, rfl⟩
  rw [hR]
  have HR := Lib.hid hR
  clear hR H ht hl hp
  rcases hk with h0 | ⟨h0, hfd⟩
  · have HF : Hid (R = 14) := Lib.hid (by rw [← HR.out, tmE, if_pos h0])
    clear HR HFD
    unfold ckC tmC
    go_enter Tryz.func80, Tryz.ntmps80
    go_wp2_with fail
    all_goals first
      | (exfalso; omega)
      | (go_ret; exact ⟨by rw [HF.out]; rfl, by (repeat (first | exact Below.refl _ _ | assumption | refine Below.alloc ?_ (by first | omega | (simp; done) | (simp; omega)) _ | refine below_drewN ?_ _ | refine Below.drew ?_ | refine Below.setCell ?_ (by first | omega | (simp; done) | (simp; omega)) _))⟩)
  · have HF : Hid (R = 2) := Lib.hid (by rw [← HR.out, tmE, if_neg h0, if_pos hfd])
    rw [hfd] at HFD
    clear HR hfd
    unfold ckC
    unfold tmC at *
    go_enter Tryz.func80, Tryz.ntmps80
    go_wp2_with (go_at_call 127; refine (HFD.out _).mono ?_; rintro e' w1 ⟨rfl, hb1⟩; have HB := Lib.hid ((bel2 _ _ _).trans (hb1.mono (bel2 _ _ _).size)); obtain ⟨y, z⟩ := cells_two hb1; have HY := Lib.hid y; have HZ := Lib.hid z; have y0 := HY.out 0 _ rfl; have y1 := HY.out 1 _ rfl; have y2 := HY.out 2 _ rfl; have y3 := HY.out 3 _ rfl; have y4 := HY.out 4 _ rfl; have y5 := HY.out 5 _ rfl; have y6 := HY.out 6 _ rfl; have y7 := HY.out 7 _ rfl; have z0 := HZ.out 0 _ rfl; have z1 := HZ.out 1 _ rfl; have z2 := HZ.out 2 _ rfl; have z3 := HZ.out 3 _ rfl; have z4 := HZ.out 4 _ rfl; have z5 := HZ.out 5 _ rfl; clear y z hb1)
    all_goals first
      | (exfalso; omega)
      | (go_ret; exact ⟨by rw [HF.out]; rfl, HB.out⟩)
end Go.Proofs.YtbnljlpefpllcaaGreatDoor
