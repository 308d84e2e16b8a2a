/-
  Walks: Mutable and Regions of the reference.
-/
import Derived.Test.YtmfdppgfbgjmcaaW15
namespace Go.Proofs.Ytmfdppgfbgjmcaa
open Go.RowKit Go.Shelf

set_option maxHeartbeats 1000000 in
theorem rmut_core (A B C : Option Addr) (nt c nl d np e : Nat) (l i q : Int) (us : List Ty) (w : World)
    (hT : Hid (Calls Try.prog 14 #[.slice A nt c, .slice B nl d, .agg #[.int .i64 l, .slice C np e]] (w.alloc (.cells #[.int .i64 l, .slice C np e] 24)) fun e' w' => e' = .returned (.tuple #[.int .i64 i, .int .i64 q]) ∧ Below (w.heap.size + 1) (w.alloc (.cells #[.int .i64 l, .slice C np e] 24)) w'))
    (hR : Hid (q = 0 → ∀ W, Below w.heap.size w W → Calls Try.prog 32 #[.slice A nt c, .slice B nl d, .agg #[.int .i64 l, .slice C np e]] W fun e' w' => ∃ A' c', e' = .returned (.slice A' us.length c') ∧ Slc 5 RTy w' A' c' us ∧ Below W.heap.size W w')) :
    Calls Try.prog 16 #[.slice A nt c, .slice B nl d, .agg #[.int .i64 l, .slice C np e]] w fun e' w' => e' = .returned (.bool (decide (q = 0) && !us.any notMu)) ∧ Below w.heap.size w w' := by
  have hB0 := Lib.hid (((Below.refl _ _).alloc (Nat.le_refl _) _ : Below w.heap.size w (w.alloc (.cells #[.int .i64 l, .slice C np e] 24))))
  have z1 : (w.alloc (.cells #[.int .i64 l, .slice C np e] 24)).cell? ⟨w.heap.size, 0, none⟩ = some (.int .i64 l) := by go_simp
  have z2 : (w.alloc (.cells #[.int .i64 l, .slice C np e] 24)).cell? ⟨w.heap.size, 1, none⟩ = some (.slice C np e) := by go_simp
  by_cases hq : q = 0
  · have hR2 := Lib.hid (hR.out hq)
    subst hq
    go_enter Try.func16, Try.ntmps16
    go_wp2_with (first
      | (go_at_call 14; refine hT.out.mono ?_; rintro e' w1 ⟨rfl, hb1⟩; have z1' := (hb1.cell (p := ⟨w.heap.size, 0, none⟩) (by simp)).trans z1; have z2' := (hb1.cell (p := ⟨w.heap.size, 1, none⟩) (by simp)).trans z2)
      | (go_at_call 32; refine (hR2.out _ (hB0.out.trans (hb1.mono (Nat.le_succ _)))).mono ?_; rintro e' w2 ⟨A', c', rfl, hs', hb2⟩))
    have hB1 := hB0.out.trans (hb1.mono (Nat.le_succ _))
    have hB2 : Below w.heap.size w w2 := hB1.trans (hb2.mono hB1.size)
    have hle := hs'.le
    have hbig := hs'.big
    have hz : Hid (us.any notMu = (us.drop 0).any notMu) := Lib.hid (by simp)
    clear hT hR hR2 hB0 hB1 hb1 hb2 z1 z2 z1' z2'
    go_loopw [10] (fun v wr => wr = w2 ∧ ∃ k : Nat, k ≤ us.length ∧ v = .int .i64 k ∧ Hid (us.any notMu = (us.drop k).any notMu)) (fun v _ => us.length - (intOf v).toNat)
    case atStart => exact ⟨rfl, 0, by omega, rfl, hz⟩
    case round =>
      obtain ⟨rfl, k, hk, rfl, he⟩ := hrel
      clear hz
      by_cases hlt : k < us.length
      · obtain ⟨b, off, rfl, hb, hr⟩ := hs'.sl.at_ hlt
        have hd := Lib.hid (drop_cons hlt)
        generalize us[k] = x at hr hd
        obtain ⟨g1, g2, _⟩ := hr
        go_wp2
        · go_ret
          exact ⟨by rw [he.out, hd.out, List.any_cons]; simp [notMu, *], hB2⟩
        · go_roundw
          case rel => exact ⟨trivial, k + 1, by omega, by go_num, Lib.hid (by rw [he.out, hd.out, List.any_cons]; simp [notMu, *])⟩
          case measure => simp [intOf]; omega
      · have hd : us.drop k = [] := List.drop_eq_nil_of_le (by omega)
        have hfin : Hid (us.any notMu = false) := Lib.hid (by rw [he.out, hd]; rfl)
        clear he hd
        go_wp2
        go_ret
        exact ⟨by rw [hfin.out]; rfl, hB2⟩
  · have hq2 : (q != 0) = true := by simp [hq]
    have hq3 : Hid (decide (q = 0) = false) := Lib.hid (by simp [hq])
    clear hq hR
    go_enter Try.func16, Try.ntmps16
    go_wp2_with (go_at_call 14; refine hT.out.mono ?_; rintro e' w1 ⟨rfl, hb1⟩)
    go_ret
    exact ⟨by rw [hq3.out]; rfl, hB0.out.trans (hb1.mono (Nat.le_succ _))⟩

set_option maxHeartbeats 1000000 in
theorem rreg_core (A B C : Option Addr) (nt c nl d np e : Nat) (l i q : Int) (us : List Ty) (w : World) (hus : us.length ≤ 33) (hbad : q ≠ 0 → us = [])
    (hT : Hid (Calls Try.prog 14 #[.slice A nt c, .slice B nl d, .agg #[.int .i64 l, .slice C np e]] (w.alloc (.cells #[.int .i64 l, .slice C np e] 24)) fun e' w' => e' = .returned (.tuple #[.int .i64 i, .int .i64 q]) ∧ Below (w.heap.size + 1) (w.alloc (.cells #[.int .i64 l, .slice C np e] 24)) w'))
    (hR : Hid (q = 0 → ∀ W, Below w.heap.size w W → Calls Try.prog 32 #[.slice A nt c, .slice B nl d, .agg #[.int .i64 l, .slice C np e]] W fun e' w' => ∃ A' c', e' = .returned (.slice A' us.length c') ∧ Slc 5 RTy w' A' c' us ∧ Below W.heap.size W w')) :
    Calls Try.prog 19 #[.slice A nt c, .slice B nl d, .agg #[.int .i64 l, .slice C np e]] w fun e' w' => ∃ A' c', e' = .returned (.slice A' us.length c') ∧ Slc 1 RInt w' A' c' (us.map (·.reg)) ∧ Below w.heap.size w w' := by
  have hB0 := Lib.hid (((Below.refl _ _).alloc (Nat.le_refl _) _ : Below w.heap.size w (w.alloc (.cells #[.int .i64 l, .slice C np e] 24))))
  have z1 : (w.alloc (.cells #[.int .i64 l, .slice C np e] 24)).cell? ⟨w.heap.size, 0, none⟩ = some (.int .i64 l) := by go_simp
  have z2 : (w.alloc (.cells #[.int .i64 l, .slice C np e] 24)).cell? ⟨w.heap.size, 1, none⟩ = some (.slice C np e) := by go_simp
  by_cases hq : q = 0
  · have hR2 := Lib.hid (hR.out hq)
    subst hq
    clear hbad
    go_enter Try.func19, Try.ntmps19
    go_wp2_with (first
      | (go_at_call 14; refine hT.out.mono ?_; rintro e' w1 ⟨rfl, hb1⟩; have z1' := (hb1.cell (p := ⟨w.heap.size, 0, none⟩) (by simp)).trans z1; have z2' := (hb1.cell (p := ⟨w.heap.size, 1, none⟩) (by simp)).trans z2)
      | (go_at_call 32; refine (hR2.out _ (hB0.out.trans (hb1.mono (Nat.le_succ _)))).mono ?_; rintro e' w2 ⟨A', c', rfl, hs', hb2⟩))
    have hB1 := hB0.out.trans (hb1.mono (Nat.le_succ _))
    have hbw : Below w.heap.size w w2 := hB1.trans (hb2.mono hB1.size)
    have hle := hs'.le
    have hbig := hs'.big
    obtain ⟨i0, hi, hz0, hz1, hz2⟩ := info_parts infoInt
    clear hT hR hR2 hB0 hB1 hb1 hb2 z1 z2 z1' z2'
    go_loopw [7, 11] (fun v i wr => ∃ k : Nat, k ≤ us.length ∧ i = .int .i64 k ∧ wr.ownsRow w2.heap.size 3 1 v k ((us.map (fun t => Value.int .i64 t.reg)).take k) ∧ Below w2.heap.size w2 wr) (fun _ i _ => us.length - (intOf i).toNat)
    case atStart => exact ⟨0, by omega, rfl, World.ownsRow_nil _ _ _ _, Below.refl _ _⟩
    case round =>
      obtain ⟨k, hk, rfl, hown, hB⟩ := hrel
      by_cases hlt : k < us.length
      · obtain ⟨bT, oT, rfl, hbT, hrT⟩ := hs'.sl.at_ hlt
        obtain ⟨r1, r2, r3, r4, A2, c2, r5, r6, r7, r8⟩ := RTy.keeps _ _ _ w2.heap.size _ _ _ (Nat.le_refl _) hbT hB hrT
        have htk : Hid ((us.map (fun t => Value.int .i64 t.reg)).take (k + 1) = (us.map (fun t => Value.int .i64 t.reg)).take k ++ [.int .i64 us[k].reg]) := Lib.hid (by
          rw [List.take_succ_eq_append_getElem (by simpa using hlt)]
          simp)
        generalize us[k] = tt at *
        clear hrT r8
        have hown2 := hown.alloc (.cells #[.int .i64 tt.reg] 3)
        have hsz := hB.size
        go_wp2_with (at_builtin; refine wpList_append_own _ rfl _ _ 39 rfl w2.heap.size 3 i0 (.int .i64 0) 1 8 Try.underlying39 hi hz0 hz1 hz2 rfl (by decide) _ _ _ rfl hown2 ⟨wr.heap.size, 0, none⟩ 1 1 [.int .i64 tt.reg] rfl rfl ?c1 ?c2 ?c3 ?c4 ?c5 ?_)
        try (case c1 =>
          intro j u hj
          match j, hj with
          | 0, hj =>
            simp at hj; subst hj
            rw [add0]
            go_simp)
        case c2 => first | rfl | (intro u hu; simp at hu; subst hu; rfl)
        case c3 => unfold maxLen; omega
        case c4 => omega
        case c5 => simp; omega
        intro v' w3 hown' hgrow _
        have hown3 : w3.ownsRow w2.heap.size 3 1 v' (k + 1) ((us.map (fun t => Value.int .i64 t.reg)).take (k + 1)) := by rw [htk.out]; exact hown'
        have hB2 : Below w2.heap.size w2 w3 := (hB.alloc hsz _).grown hgrow (by simp; omega) (fun g hg => (hown2.lt g hg).1)
        clear hown' hgrow hown hown2 hB r1 r2 r3 r4 r5
        go_wp2
        go_roundw
        case rel => exact ⟨k + 1, by omega, by simp, hown3, hB2⟩
        case measure => simp [intOf]; omega
      · have hlt2 : ¬ ((k : Int) < (us.length : Int)) := by omega
        have hke : k = us.length := by omega
        subst hke
        have hown2 : wr.ownsRow w2.heap.size 3 1 u7 (us.map (·.reg)).length ((us.map (·.reg)).map (Value.int .i64)) := by
          have h := hown
          rw [List.take_of_length_le (by simp)] at h
          rwa [List.length_map, List.map_map]
        obtain ⟨A2, c2, rfl, hsl⟩ := slc_of_ints hown2
        rw [List.length_map] at *
        have hsl2 := Lib.hid hsl
        clear hown hown2 hsl
        go_wp2
        go_ret
        exact ⟨A2, c2, rfl, hsl2.out, hbw.trans (hB.mono hbw.size)⟩
  · have hq2 : (q != 0) = true := by simp [hq]
    have hu := hbad hq
    subst hu
    clear hq hR hbad
    go_enter Try.func19, Try.ntmps19
    go_wp2_with (go_at_call 14; refine hT.out.mono ?_; rintro e' w1 ⟨rfl, hb1⟩)
    go_ret
    exact ⟨none, 0, rfl, ⟨Sl.nil, by simp, by omega⟩, hB0.out.trans (hb1.mono (Nat.le_succ _))⟩

theorem refsOf_snd (ts : List Ty) (ls : List Lc) (l : Int) (ps : List Pj) : (refsOf ts ls l ps).2 = decide ((tyOf ts ls l ps).2 = 0) := by
  rw [refsOf, pth_any]
  by_cases h : (tyOf ts ls l ps).2 = 0 <;> simp [h]

theorem rmutable_any (ts : List Ty) (ls : List Lc) (l : Int) (ps : List Pj) (A B C : Option Addr) (c d e : Nat) (w : World) (hts : Slc 5 RTy w A c ts) (hls : Slc 2 RLc w B d ls) (hps : Slc 2 RPj w C e ps) (hok : Okay ts ls) :
    Calls Try.prog 16 #[.slice A ts.length c, .slice B ls.length d, .agg #[.int .i64 l, .slice C ps.length e]] w fun e' w' => e' = .returned (.bool ((refsOf ts ls l ps).2 && !(refsOf ts ls l ps).1.any notMu)) ∧ Below w.heap.size w w' := by
  rw [refsOf_snd]
  have hT := rty_any ts ls l ps.length ps rfl A B C c d e (w.alloc (.cells #[.int .i64 l, .slice C ps.length e] 24)) (hts.keep RTy.keeps ((Below.refl _ _).alloc (Nat.le_refl _) _)) (hls.keep RLc.keeps ((Below.refl _ _).alloc (Nat.le_refl _) _)) (hps.keep RPj.keeps ((Below.refl _ _).alloc (Nat.le_refl _) _)) hok
  rw [World.size_alloc] at hT
  exact rmut_core A B C ts.length c ls.length d ps.length e l _ _ _ w (Lib.hid hT) (Lib.hid (fun hq W hW => rrefs_any ts ls l ps A B C c d e W (hts.keep RTy.keeps hW) (hls.keep RLc.keeps hW) (hps.keep RPj.keeps hW) hok hq))

theorem rregions_any (ts : List Ty) (ls : List Lc) (l : Int) (ps : List Pj) (A B C : Option Addr) (c d e : Nat) (w : World) (hts : Slc 5 RTy w A c ts) (hls : Slc 2 RLc w B d ls) (hps : Slc 2 RPj w C e ps) (hok : Okay ts ls) :
    Calls Try.prog 19 #[.slice A ts.length c, .slice B ls.length d, .agg #[.int .i64 l, .slice C ps.length e]] w fun e' w' => ∃ A' c', e' = .returned (.slice A' (refsOf ts ls l ps).1.length c') ∧ Slc 1 RInt w' A' c' ((refsOf ts ls l ps).1.map (·.reg)) ∧ Below w.heap.size w w' := by
  have hT := rty_any ts ls l ps.length ps rfl A B C c d e (w.alloc (.cells #[.int .i64 l, .slice C ps.length e] 24)) (hts.keep RTy.keeps ((Below.refl _ _).alloc (Nat.le_refl _) _)) (hls.keep RLc.keeps ((Below.refl _ _).alloc (Nat.le_refl _) _)) (hps.keep RPj.keeps ((Below.refl _ _).alloc (Nat.le_refl _) _)) hok
  rw [World.size_alloc] at hT
  exact rreg_core A B C ts.length c ls.length d ps.length e l _ _ _ w (refsOf_len _ _ _ _) (fun hq => by rw [refsOf_bad hq]) (Lib.hid hT) (Lib.hid (fun hq W hW => rrefs_any ts ls l ps A B C c d e W (hts.keep RTy.keeps hW) (hls.keep RLc.keeps hW) (hps.keep RPj.keeps hW) hok hq))
end Go.Proofs.Ytmfdppgfbgjmcaa
