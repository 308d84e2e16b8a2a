/-
  Walks: TypeOf of the reference.
-/
import Derived.Test.YtmfdppgfbgjmcaaW12
import Derived.Test.YtmfdppgfbgjmcaaW2
namespace Go.Proofs.Ytmfdppgfbgjmcaa
open Go.RowKit Go.Shelf

theorem run_take {P : Program} (t e : TypeId) (A : Option Addr) (n c j k : Nat) (ht : P.underlying t = some (.slice e)) (hk : ∀ w, (sizeOf e).run P w = .ok k w) (hj : j ≤ n) (hn : n ≤ c) (w : World) :
    (Instr.slice t (.slice A n c) none (some (.int .i64 (j : Int))) none).run P w = .ok (.slice (cutA A c 0 k) j c) w := by
  have hb := run_sliceBound (P := P) (w := w) .i64 (j : Int) c .sliceAcap (by omega) (by omega)
  simp only [Int.toNat_natCast] at hb
  simp [Instr.slice, run_underlying ht, Instr.sliceBounds, hb, hk, cutA]

set_option maxHeartbeats 1000000 in
theorem rty_chk (A B C : Option Addr) (nt c nl d np e : Nat) (l q : Int) (w : World) (hq : q ≠ 0)
    (hCk : Hid (Calls Try.prog 11 #[.agg #[.int .i64 l, .slice C np e]] (w.alloc (.cells #[.int .i64 l, .slice C np e] 24)) fun e' w' => e' = .returned (.int .i64 q) ∧ Below (w.alloc (.cells #[.int .i64 l, .slice C np e] 24)).heap.size (w.alloc (.cells #[.int .i64 l, .slice C np e] 24)) w')) :
    Calls Try.prog 14 #[.slice A nt c, .slice B nl d, .agg #[.int .i64 l, .slice C np e]] w fun e' w' => e' = .returned (.tuple #[.int .i64 0, .int .i64 q]) ∧ Below w.heap.size w w' := by
  have hB0 := Lib.hid (((Below.refl _ _).alloc (Nat.le_refl _) _ : Below w.heap.size w (w.alloc (.cells #[.int .i64 l, .slice C np e] 24))))
  have hq2 : (q != 0) = true := by simp [hq]
  clear hq
  go_enter Try.func14, Try.ntmps14
  go_wp2_with (go_at_call 11; refine hCk.out.mono ?_; rintro e' w1 ⟨rfl, hb1⟩)
  exact bodyPost_ret (by simp [results, Try.results14, go_sem] <;> rfl) rfl ⟨rfl, hB0.out.trans (hb1.mono hB0.out.size)⟩

set_option maxHeartbeats 1000000 in
theorem rty_loc (A B C : Option Addr) (nt c nl d np e m : Nat) (w : World) (hl : nl ≤ m)
    (hCk : Hid (Calls Try.prog 11 #[.agg #[.int .i64 m, .slice C np e]] (w.alloc (.cells #[.int .i64 m, .slice C np e] 24)) fun e' w' => e' = .returned (.int .i64 0) ∧ Below (w.alloc (.cells #[.int .i64 m, .slice C np e] 24)).heap.size (w.alloc (.cells #[.int .i64 m, .slice C np e] 24)) w')) :
    Calls Try.prog 14 #[.slice A nt c, .slice B nl d, .agg #[.int .i64 m, .slice C np e]] w fun e' w' => e' = .returned (.tuple #[.int .i64 0, .int .i64 3]) ∧ Below w.heap.size w w' := by
  have hB0 := Lib.hid (((Below.refl _ _).alloc (Nat.le_refl _) _ : Below w.heap.size w (w.alloc (.cells #[.int .i64 m, .slice C np e] 24))))
  have z1 : (w.alloc (.cells #[.int .i64 m, .slice C np e] 24)).cell? ⟨w.heap.size, 0, none⟩ = some (.int .i64 m) := by go_simp
  have hq2 : decide ((nl : Int) ≤ (m : Int)) = true := by simp; omega
  go_enter Try.func14, Try.ntmps14
  go_wp2_with (go_at_call 11; refine hCk.out.mono ?_; rintro e' w1 ⟨rfl, hb1⟩; have z1' := cell_keep hb1 z1)
  exact bodyPost_ret (by simp [results, Try.results14, go_sem] <;> rfl) rfl ⟨rfl, hB0.out.trans (hb1.mono hB0.out.size)⟩

set_option maxHeartbeats 1000000 in
theorem rty_nil (A C : Option Addr) (nt c nl d e m b off : Nat) (x : Lc) (w : World) (hl : m < nl) (hr2 : w.cell? ⟨b, off + m * 2 + 1, none⟩ = some (.int .i64 x.type))
    (hCk : Hid (Calls Try.prog 11 #[.agg #[.int .i64 m, .slice C 0 e]] (w.alloc (.cells #[.int .i64 m, .slice C 0 e] 24)) fun e' w' => e' = .returned (.int .i64 0) ∧ Below (w.alloc (.cells #[.int .i64 m, .slice C 0 e] 24)).heap.size (w.alloc (.cells #[.int .i64 m, .slice C 0 e] 24)) w')) :
    Calls Try.prog 14 #[.slice A nt c, .slice (some ⟨b, off, none⟩) nl d, .agg #[.int .i64 m, .slice C 0 e]] w fun e' w' => e' = .returned (.tuple #[.int .i64 x.type, .int .i64 0]) ∧ Below w.heap.size w w' := by
  have hB0 := Lib.hid (((Below.refl _ _).alloc (Nat.le_refl _) _ : Below w.heap.size w (w.alloc (.cells #[.int .i64 m, .slice C 0 e] 24))))
  have z1 : (w.alloc (.cells #[.int .i64 m, .slice C 0 e] 24)).cell? ⟨w.heap.size, 0, none⟩ = some (.int .i64 m) := by go_simp
  have z2 : (w.alloc (.cells #[.int .i64 m, .slice C 0 e] 24)).cell? ⟨w.heap.size, 1, none⟩ = some (.slice C 0 e) := by go_simp
  have hq2 : decide ((nl : Int) ≤ (m : Int)) = false := by simp; omega
  go_enter Try.func14, Try.ntmps14
  go_wp2_with (go_at_call 11; refine hCk.out.mono ?_; rintro e' w1 ⟨rfl, hb1⟩; have hr2' := cell_keep (hB0.out.trans (hb1.mono hB0.out.size)) hr2; have z1' := cell_keep hb1 z1; have z2' := cell_keep hb1 z2)
  exact bodyPost_ret (by simp [results, Try.results14, go_sem] <;> rfl) rfl ⟨rfl, hB0.out.trans (hb1.mono hB0.out.size)⟩

theorem prT_in {t : Ty} {x : Pj} {f : Nat} (hf : x.field = f) (h : f < t.flds.length) : prT t x = if x.kind = 0 ∧ t.kind = 3 then (t.elem, 0) else if x.kind = 1 ∧ t.kind = 4 then (t.flds[f], 0) else (0, 22) := by
  unfold prT
  rw [hf, if_pos (show (f : Int) < t.flds.length by omega), Int.toNat_natCast, List.getD_eq_getElem?_getD, List.getElem?_eq_getElem h]
  rfl
theorem prT_out {t : Ty} {x : Pj} {f : Nat} (hf : x.field = f) (h : ¬ f < t.flds.length) : prT t x = if x.kind = 0 ∧ t.kind = 3 then (t.elem, 0) else if x.kind = 1 ∧ t.kind = 4 then (0, 3) else (0, 22) := by
  unfold prT
  rw [hf, if_neg (show ¬ (f : Int) < t.flds.length by omega)]

set_option maxHeartbeats 4000000 in
theorem rty_step (A B C : Option Addr) (nt c nl d e m k : Nat) (i q : Int) (R : Int × Int) (w : World) (hl : m < nl) (hk : k + 1 ≤ 32) (hke : k + 1 ≤ e) (he : e ≤ 9223372036854775807)
    (hCk : Hid (Calls Try.prog 11 #[.agg #[.int .i64 m, .slice C (k + 1) e]] (w.alloc (.cells #[.int .i64 m, .slice C (k + 1) e] 24)) fun e' w' => e' = .returned (.int .i64 0) ∧ Below (w.alloc (.cells #[.int .i64 m, .slice C (k + 1) e] 24)).heap.size (w.alloc (.cells #[.int .i64 m, .slice C (k + 1) e] 24)) w'))
    (hRec : Hid (∀ W, Below w.heap.size w W → Calls Try.prog 14 #[.slice A nt c, .slice B nl d, .agg #[.int .i64 m, .slice C k e]] W fun e' w' => e' = .returned (.tuple #[.int .i64 i, .int .i64 q]) ∧ Below W.heap.size W w'))
    (hbad : q ≠ 0 → R = (0, q))
    (hgood : q = 0 → ∃ (j bT oT bC oC : Nat) (t : Ty) (x : Pj), i = (j : Int) ∧ j < nt ∧ A = some ⟨bT, oT, none⟩ ∧ bT < w.heap.size ∧ RTy w w.heap.size bT (oT + j * 5) t ∧ C = some ⟨bC, oC, none⟩ ∧ bC < w.heap.size ∧ RPj w w.heap.size bC (oC + k * 2) x ∧ R = prT t x ∧ 0 ≤ x.field) :
    Calls Try.prog 14 #[.slice A nt c, .slice B nl d, .agg #[.int .i64 m, .slice C (k + 1) e]] w fun e' w' => e' = .returned (.tuple #[.int .i64 R.1, .int .i64 R.2]) ∧ Below w.heap.size w w' := by
  have hB0 := Lib.hid (((Below.refl _ _).alloc (Nat.le_refl _) _ : Below w.heap.size w (w.alloc (.cells #[.int .i64 m, .slice C (k + 1) e] 24))))
  have z1 : (w.alloc (.cells #[.int .i64 m, .slice C (k + 1) e] 24)).cell? ⟨w.heap.size, 0, none⟩ = some (.int .i64 m) := by go_simp
  have z2 : (w.alloc (.cells #[.int .i64 m, .slice C (k + 1) e] 24)).cell? ⟨w.heap.size, 1, none⟩ = some (.slice C (k + 1) e) := by go_simp
  have hq2 : decide ((nl : Int) ≤ (m : Int)) = false := by simp; omega
  go_enter Try.func14, Try.ntmps14
  go_wp2_with (go_at_call 11; refine hCk.out.mono ?_; rintro e' w1 ⟨rfl, hb1⟩; have z1' := cell_keep hb1 z1; have z2' := cell_keep hb1 z2)
  have hwk : IntKind.i64.wrap (k : Int) = (k : Int) := by rw [IntKind.wrap_i64]; omega
  have hB1 : Below w.heap.size w w1 := hB0.out.trans (hb1.mono hB0.out.size)
  clear z1 z2 hb1 hB0 hCk
  refine wp_region_m (S := fun X => X.cell? ⟨w.heap.size, 0, none⟩ = some (.int .i64 m) ∧ X.cell? ⟨w.heap.size, 1, none⟩ = some (.slice C (k + 1) e)) (t := 16) (by kernel_rfl) ?_
  have hS : w1.drew.cell? ⟨w.heap.size, 0, none⟩ = some (.int .i64 m) ∧ w1.drew.cell? ⟨w.heap.size, 1, none⟩ = some (.slice C (k + 1) e) := ⟨z1', z2'⟩
  refine wpAnyM_take (i := 0) (v := ?tv0) rfl (by kernel_rfl) (by kernel_rfl) (by kernel_rfl) (by kernel_rfl) (fun _ _ _ h => h) (Or.inl ⟨by rfl, ?ty0⟩) hS ?tr0
  case ty0 =>
    rintro X ⟨s1, s2⟩
    simp only [List.getElem_toArray, List.getElem_cons_zero, List.getElem_cons_succ]
    go_simp
    rfl
  simp only [List.getElem_toArray, List.getElem_cons_zero, List.getElem_cons_succ, Act.put, List.setIfInBounds_toArray, List.set_cons_zero, List.set_cons_succ]
  refine wpAnyM_take (i := 1) (v := ?tv1) rfl (by kernel_rfl) (by kernel_rfl) (by kernel_rfl) (by kernel_rfl) (fun _ _ _ h => h) (Or.inl ⟨by rfl, ?ty1⟩) hS ?tr1
  case ty1 =>
    rintro X ⟨s1, s2⟩
    simp only [List.getElem_toArray, List.getElem_cons_zero, List.getElem_cons_succ]
    go_simp
    rfl
  simp only [List.getElem_toArray, List.getElem_cons_zero, List.getElem_cons_succ, Act.put, List.setIfInBounds_toArray, List.set_cons_zero, List.set_cons_succ]
  refine wpAnyM_take (i := 2) (v := ?tv2) rfl (by kernel_rfl) (by kernel_rfl) (by kernel_rfl) (by kernel_rfl) (fun _ _ _ h => h) (Or.inl ⟨by rfl, ?ty2⟩) hS ?tr2
  case ty2 =>
    rintro X ⟨s1, s2⟩
    simp only [List.getElem_toArray, List.getElem_cons_zero, List.getElem_cons_succ]
    go_simp
    rfl
  simp only [List.getElem_toArray, List.getElem_cons_zero, List.getElem_cons_succ, Act.put, List.setIfInBounds_toArray, List.set_cons_zero, List.set_cons_succ]
  refine wpAnyM_take (i := 3) (v := ?tv3) rfl (by kernel_rfl) (by kernel_rfl) (by kernel_rfl) (by kernel_rfl) (fun _ _ _ h => h) (Or.inl ⟨by rfl, ?ty3⟩) hS ?tr3
  case ty3 =>
    rintro X ⟨s1, s2⟩
    simp only [List.getElem_toArray, List.getElem_cons_zero, List.getElem_cons_succ]
    go_simp
    rfl
  simp only [List.getElem_toArray, List.getElem_cons_zero, List.getElem_cons_succ, Act.put, List.setIfInBounds_toArray, List.set_cons_zero, List.set_cons_succ]
  refine wpAnyM_take (i := 4) (v := ?tv4) rfl (by kernel_rfl) (by kernel_rfl) (by kernel_rfl) (by kernel_rfl) (fun _ _ _ h => h) (Or.inl ⟨by rfl, ?ty4⟩) hS ?tr4
  case ty4 =>
    rintro X ⟨s1, s2⟩
    simp only [List.getElem_toArray, List.getElem_cons_zero, List.getElem_cons_succ]
    go_simp
    rfl
  simp only [List.getElem_toArray, List.getElem_cons_zero, List.getElem_cons_succ, Act.put, List.setIfInBounds_toArray, List.set_cons_zero, List.set_cons_succ]
  refine wpAnyM_take (i := 5) (v := ?tv5) rfl (by kernel_rfl) (by kernel_rfl) (by kernel_rfl) (by kernel_rfl) (fun _ _ _ h => h) (Or.inl ⟨by rfl, ?ty5⟩) hS ?tr5
  case ty5 =>
    rintro X ⟨s1, s2⟩
    simp only [List.getElem_toArray, List.getElem_cons_zero, List.getElem_cons_succ]
    go_simp
    rfl
  simp only [List.getElem_toArray, List.getElem_cons_zero, List.getElem_cons_succ, Act.put, List.setIfInBounds_toArray, List.set_cons_zero, List.set_cons_succ]
  refine wpAnyM_take (i := 6) (v := ?tv6) rfl (by kernel_rfl) (by kernel_rfl) (by kernel_rfl) (by kernel_rfl) (fun _ _ _ h => h) (Or.inl ⟨by rfl, ?ty6⟩) hS ?tr6
  case ty6 =>
    rintro X ⟨s1, s2⟩
    simp only [List.getElem_toArray, List.getElem_cons_zero, List.getElem_cons_succ]
    go_simp
    rfl
  simp only [List.getElem_toArray, List.getElem_cons_zero, List.getElem_cons_succ, Act.put, List.setIfInBounds_toArray, List.set_cons_zero, List.set_cons_succ]
  refine wpAnyM_take (i := 7) (v := .int .i64 (k : Int)) rfl (by kernel_rfl) (by kernel_rfl) (by kernel_rfl) (by kernel_rfl) (fun _ _ _ h => h) (Or.inl ⟨by rfl, ?ty7⟩) hS ?tr7
  case ty7 =>
    rintro X ⟨s1, s2⟩
    simp only [List.getElem_toArray, List.getElem_cons_zero, List.getElem_cons_succ]
    go_simp
    try (first | rfl | (rw [hwk]) | simp [hwk])
  simp only [List.getElem_toArray, List.getElem_cons_zero, List.getElem_cons_succ, Act.put, List.setIfInBounds_toArray, List.set_cons_zero, List.set_cons_succ]
  refine wpAnyM_take (i := 8) (v := .slice C k e) rfl (by kernel_rfl) (by kernel_rfl) (by kernel_rfl) (by kernel_rfl) (fun _ _ _ h => h) (Or.inl ⟨by rfl, ?ty8⟩) hS ?tr8
  case ty8 =>
    rintro X ⟨s1, s2⟩
    simp only [List.getElem_toArray, List.getElem_cons_zero, List.getElem_cons_succ]
    go_simp
    (try simp only [hwk]); first | rfl | (intro h; omega) | (rw [if_pos (by omega)]; simp)
  simp only [List.getElem_toArray, List.getElem_cons_zero, List.getElem_cons_succ, Act.put, List.setIfInBounds_toArray, List.set_cons_zero, List.set_cons_succ]
  refine wpAnyM_take (i := 9) (v := ?tv9) rfl (by kernel_rfl) (by kernel_rfl) (by kernel_rfl) (by kernel_rfl) (fun _ _ _ h => h) (Or.inl ⟨by rfl, ?ty9⟩) hS ?tr9
  case ty9 =>
    rintro X ⟨s1, s2⟩
    simp only [List.getElem_toArray, List.getElem_cons_zero, List.getElem_cons_succ]
    go_simp
    rfl
  simp only [List.getElem_toArray, List.getElem_cons_zero, List.getElem_cons_succ, Act.put, List.setIfInBounds_toArray, List.set_cons_zero, List.set_cons_succ]
  refine wpAnyM_one (i := 10) (by kernel_rfl) rfl (fun K1 hK1 => ?_)
  simp only [List.getElem_toArray, List.getElem_cons_zero, List.getElem_cons_succ, Act.put, List.setIfInBounds_toArray, List.set_cons_zero, List.set_cons_succ]
  rw [if_pos (by rfl)]
  go_simp
  refine (hRec.out _ hB1.drew).mono ?_
  rintro e' w2 ⟨rfl, hb2⟩
  have hS2 : w2.cell? ⟨w.heap.size, 0, none⟩ = some (.int .i64 m) ∧ w2.cell? ⟨w.heap.size, 1, none⟩ = some (.slice C (k + 1) e) := ⟨cell_keep hb2 hS.1, cell_keep hb2 hS.2⟩
  refine hK1.out _ _ (fun _ => hS2) ?_
  refine wpAnyM_take (i := 11) (v := ?tv11) rfl (by kernel_rfl) (by kernel_rfl) (by kernel_rfl) (by kernel_rfl) (fun _ _ _ h => h) (Or.inl ⟨by rfl, ?ty11⟩) hS2 ?tr11
  case ty11 =>
    rintro X ⟨s1, s2⟩
    simp only [List.getElem_toArray, List.getElem_cons_zero, List.getElem_cons_succ]
    go_simp
    rfl
  simp only [List.getElem_toArray, List.getElem_cons_zero, List.getElem_cons_succ, Act.put, List.setIfInBounds_toArray, List.set_cons_zero, List.set_cons_succ]
  refine wpAnyM_take (i := 12) (v := ?tv12) rfl (by kernel_rfl) (by kernel_rfl) (by kernel_rfl) (by kernel_rfl) (fun _ _ _ h => h) (Or.inl ⟨by rfl, ?ty12⟩) hS2 ?tr12
  case ty12 =>
    rintro X ⟨s1, s2⟩
    simp only [List.getElem_toArray, List.getElem_cons_zero, List.getElem_cons_succ]
    go_simp
    rfl
  simp only [List.getElem_toArray, List.getElem_cons_zero, List.getElem_cons_succ, Act.put, List.setIfInBounds_toArray, List.set_cons_zero, List.set_cons_succ]
  refine wpAnyM_take (i := 13) (v := ?tv13) rfl (by kernel_rfl) (by kernel_rfl) (by kernel_rfl) (by kernel_rfl) (fun _ _ _ h => h) (Or.inl ⟨by rfl, ?ty13⟩) hS2 ?tr13
  case ty13 =>
    rintro X ⟨s1, s2⟩
    simp only [List.getElem_toArray, List.getElem_cons_zero, List.getElem_cons_succ]
    go_simp
    rfl
  simp only [List.getElem_toArray, List.getElem_cons_zero, List.getElem_cons_succ, Act.put, List.setIfInBounds_toArray, List.set_cons_zero, List.set_cons_succ]
  refine wpAnyM_take (i := 14) (v := ?tv14) rfl (by kernel_rfl) (by kernel_rfl) (by kernel_rfl) (by kernel_rfl) (fun _ _ _ h => h) (Or.inl ⟨by rfl, ?ty14⟩) hS2 ?tr14
  case ty14 =>
    rintro X ⟨s1, s2⟩
    simp only [List.getElem_toArray, List.getElem_cons_zero, List.getElem_cons_succ]
    go_simp
    rfl
  simp only [List.getElem_toArray, List.getElem_cons_zero, List.getElem_cons_succ, Act.put, List.setIfInBounds_toArray, List.set_cons_zero, List.set_cons_succ]
  refine wpAnyM_take (i := 15) (v := ?tv15) rfl (by kernel_rfl) (by kernel_rfl) (by kernel_rfl) (by kernel_rfl) (fun _ _ _ h => h) (Or.inl ⟨by rfl, ?ty15⟩) hS2 ?tr15
  case ty15 =>
    rintro X ⟨s1, s2⟩
    simp only [List.getElem_toArray, List.getElem_cons_zero, List.getElem_cons_succ]
    go_simp
    rfl
  simp only [List.getElem_toArray, List.getElem_cons_zero, List.getElem_cons_succ, Act.put, List.setIfInBounds_toArray, List.set_cons_zero, List.set_cons_succ]
  refine wpAnyM_done (by kernel_rfl) ?_ _
  have hB2 : Below w.heap.size w w2 := hB1.drew.trans (hb2.mono hB1.drew.size)
  obtain ⟨y1, y2⟩ := hS2
  clear hRec z1' z2' hS hb2 hK1
  by_cases hq0 : q = 0
  · subst hq0
    clear hbad
    obtain ⟨j, bT, oT, bC, oC, t, x, rfl, hj, rfl, hbT, hrT, rfl, hbC, hrC, hR, hxf⟩ := hgood rfl
    obtain ⟨f, hf⟩ := Int.eq_ofNat_of_zero_le hxf
    obtain ⟨r1, r2, r3, r4, A2, c2, r5, r6, r7, r8⟩ := RTy.keeps _ _ _ w.heap.size _ _ _ (Nat.le_refl _) hbT hB2 hrT
    obtain ⟨g1, g2⟩ := RPj.keeps _ _ _ w.heap.size _ _ _ (Nat.le_refl _) hbC hB2 hrC
    rw [hf] at g2
    have hs2 := hB2.size
    have hlw := World.block_lt_of_cell? _ _ y1
    have hlt1 := lt_steps (show w.heap.size < w2.heap.size from hlw)
    have hlt2' : bT < w2.heap.size := by omega
    have hlt3' : bC < w2.heap.size := by omega
    have hlt2 := lt_steps hlt2'
    have hlt3 := lt_steps hlt3'
    clear hrT hrC hgood hxf
    by_cases hff : f < t.flds.length
    · obtain ⟨b3, o3, rfl, hb3, r9⟩ := r8.at_ hff
      have hP := Lib.hid (hR.trans (prT_in hf hff))
      have hd : ¬ ((f : Int) ≥ t.flds.length) := by omega
      unfold RInt at r9
      generalize t.flds[f] = y at *
      have hlt4' : b3 < w2.heap.size := by omega
      have hlt4 := lt_steps hlt4'
      rw [Nat.mul_one] at r9
      clear hR hf r8
      go_wp2
      all_goals
        refine bodyPost_ret (by simp [results, Try.results14, go_sem] <;> rfl) rfl ⟨?_, ?_⟩
      all_goals
        first
        | (rw [hP.out]; grind)
        | (repeat (first | exact Below.refl _ _ | assumption | refine Below.alloc ?_ (by first | omega | (simp; done) | (simp; omega)) _ | refine below_drewN ?_ _ | refine Below.drew ?_ | refine Below.setCell ?_ (by first | omega | (simp; done) | (simp; omega)) _))
    · have hP := Lib.hid (hR.trans (prT_out hf hff))
      have hd : (f : Int) ≥ t.flds.length := by omega
      clear hR hf r8
      go_wp2
      all_goals
        refine bodyPost_ret (by simp [results, Try.results14, go_sem] <;> rfl) rfl ⟨?_, ?_⟩
      all_goals
        first
        | (rw [hP.out]; grind)
        | (repeat (first | exact Below.refl _ _ | assumption | refine Below.alloc ?_ (by first | omega | (simp; done) | (simp; omega)) _ | refine below_drewN ?_ _ | refine Below.drew ?_ | refine Below.setCell ?_ (by first | omega | (simp; done) | (simp; omega)) _))
  · have hR := Lib.hid (hbad hq0)
    have hq : (q != 0) = true := by simp [hq0]
    clear hbad hgood hq0
    go_wp2
    exact bodyPost_ret (by simp [results, Try.results14, go_sem] <;> rfl) rfl ⟨by rw [hR.out], hB2⟩

theorem rty_any (ts : List Ty) (ls : List Lc) (l : Int) : ∀ (n : Nat) (ps : List Pj), ps.length = n → ∀ (A B C : Option Addr) (c d e : Nat) (w : World), Slc 5 RTy w A c ts → Slc 2 RLc w B d ls → Slc 2 RPj w C e ps → Okay ts ls →
    Calls Try.prog 14 #[.slice A ts.length c, .slice B ls.length d, .agg #[.int .i64 l, .slice C ps.length e]] w fun e' w' => e' = .returned (.tuple #[.int .i64 (tyOf ts ls l ps).1, .int .i64 (tyOf ts ls l ps).2]) ∧ Below w.heap.size w w'
  | n, ps, hn, A, B, C, c, d, e, w, hts, hls, hps, hok => by
    have hCk := Lib.hid (rcheck_any l C e ps (w.alloc (.cells #[.int .i64 l, .slice C ps.length e] 24)) (hps.keep RPj.keeps ((Below.refl _ _).alloc (Nat.le_refl _) _)))
    by_cases hk : chk l ps = 0
    · obtain ⟨hl0, hp32⟩ := chk_low hk
      rw [hk] at hCk
      obtain ⟨m, rfl⟩ := Int.eq_ofNat_of_zero_le hl0
      by_cases hl : m < ls.length
      · match n, hn with
        | 0, hn =>
          have hps0 : ps = [] := List.eq_nil_of_length_eq_zero hn
          subst hps0
          obtain ⟨b, off, rfl, hb, hr⟩ := hls.sl.at_ hl
          rw [tyOf_nil hk hl]
          exact rty_nil A C ts.length c ls.length d e m b off ls[m] w hl hr.2 hCk
        | k + 1, hn =>
          obtain ⟨qs, x, rfl⟩ : ∃ qs x, ps = qs ++ [x] := ⟨ps.dropLast, ps.getLast (by intro h; simp [h] at hn), (List.dropLast_concat_getLast _).symm⟩
          have hqs : qs.length = k := by simpa using hn
          have hlen : (qs ++ [x]).length = k + 1 := hn
          rw [tyOf_snoc hk (by omega)]
          have hle := hps.le
          have hbig := hps.big
          rw [hlen] at hCk hle hp32 ⊢
          have hqq : Slc 2 RPj w C e qs := by
            have h := hps.takeN k
            rwa [List.take_left' hqs] at h
          obtain ⟨hx0, hx1, hx2⟩ := chk_snoc hk
          refine rty_step A B C ts.length c ls.length d e m k (tyOf ts ls m qs).1 (tyOf ts ls m qs).2 _ w hl hp32 hle hbig hCk (Lib.hid (fun W hW => ?_)) (fun hq => ?_) (fun hq => ?_)
          · have h := rty_any ts ls m k qs hqs A B C c d e W (hts.keep RTy.keeps hW) (hls.keep RLc.keeps hW) (hqq.keep RPj.keeps hW) hok
            rwa [hqs] at h
          · have h := tyOf_err hq
            unfold stepE
            rw [if_pos hq]
            exact Prod.ext h rfl
          · obtain ⟨h1, h2⟩ := tyOf_ok hok hq
            obtain ⟨j, hj⟩ := Int.eq_ofNat_of_zero_le h1
            have hj2 : j < ts.length := by omega
            obtain ⟨bT, oT, hA, hbT, hrT⟩ := hts.sl.at_ hj2
            obtain ⟨bC, oC, hC, hbC, hrC⟩ := hps.sl.at_ (show k < (qs ++ [x]).length by omega)
            have hxk : (qs ++ [x])[k]'(by omega) = x := by
              subst hqs
              simp
            rw [hxk] at hrC
            refine ⟨j, bT, oT, bC, oC, ts[j], x, hj, hj2, hA, hbT, hrT, hC, hbC, hrC, ?_, hx2⟩
            unfold stepE
            rw [if_neg (by omega), hj, Int.toNat_natCast, List.getElem?_eq_getElem hj2]
      · rw [tyOf_loc hk (by omega)]
        exact rty_loc A B C ts.length c ls.length d ps.length e m w (by omega) hCk
    · rw [tyOf_chk hk]
      exact rty_chk A B C ts.length c ls.length d ps.length e l _ w hk hCk
end Go.Proofs.Ytmfdppgfbgjmcaa
