/-
  Walks: Mutable and Regions of places.
-/
import Derived.Test.YtmfdppgfbgjmcaaW10
import Derived.OwnWalk
namespace Go.Proofs.Ytmfdppgfbgjmcaa
open Go.RowKit Go.Shelf

theorem refsOf_len (ts : List Ty) (ls : List Lc) (l : Int) (ps : List Pj) : (refsOf ts ls l ps).1.length ≤ 33 := by
  unfold refsOf
  split
  · simp
  · have h1 := pth_len ts ls l ps
    have h2 := refsL_le ts ps (pth ts ls l ps)
    simp only []
    omega

theorem below_two {w A B C : World} (h1 : Below A.heap.size A B) (h2 : Below B.heap.size B C) (h0 : Below w.heap.size w A) : Below w.heap.size w C := (h0.trans (h1.mono h0.size)).trans (h2.mono (Nat.le_trans h0.size h1.size))

set_option maxHeartbeats 1000000 in
theorem mutable_any (ts : List Ty) (ls : List Lc) (l : Int) (ps : List Pj) (A B C : Option Addr) (c d e : Nat) (w : World) (hts : Slc 5 RTy w A c ts) (hls : Slc 2 RLc w B d ls) (hps : Slc 2 RPj w C e ps) (hok : Okay ts ls) :
    Calls Try.prog 15 #[.slice A ts.length c, .slice B ls.length d, .agg #[.int .i64 l, .slice C ps.length e]] w fun e' w' => e' = .returned (.bool ((refsOf ts ls l ps).2 && !(refsOf ts ls l ps).1.any notMu)) ∧ Below w.heap.size w w' := by
  have hR := Lib.hid (refs_any ts ls l ps A B C c d e (w.alloc (.cells #[.int .i64 l, .slice C ps.length e] 24)) (hts.keep RTy.keeps ((Below.refl _ _).alloc (Nat.le_refl _) _)) (hls.keep RLc.keeps ((Below.refl _ _).alloc (Nat.le_refl _) _)) (hps.keep RPj.keeps ((Below.refl _ _).alloc (Nat.le_refl _) _)) hok)
  clear hts hls hps hok
  generalize refsOf ts ls l ps = q at hR ⊢
  obtain ⟨us, ok⟩ := q
  go_enter Try.func15, Try.ntmps15
  go_wp2_with (first
    | (go_at_call 29; refine hR.out.mono ?_; rintro e' w' ⟨A', c', rfl, hs', hb⟩)
    | (go_at_call 30; refine (mut_contains _ _ _ _ hs').mono ?_; rintro e' w2 ⟨rfl, hb2⟩))
  all_goals
    go_ret
    first
    | exact ⟨by simp_all, below_two hb hb2 ((Below.refl _ _).alloc (Nat.le_refl _) _)⟩
    | exact ⟨by simp_all, below_two hb (Below.refl _ _) ((Below.refl _ _).alloc (Nat.le_refl _) _)⟩

/-- An owned row of ints reads as a slice of ints. -/
theorem slc_of_ints {W : World} {base : Nat} {e : TypeId} {v : Value} {ys : List Int} (h : W.ownsRow base e 1 v ys.length (ys.map (Value.int .i64))) :
    ∃ A c, v = .slice A ys.length c ∧ Slc 1 RInt W A c ys := by
  rcases h.2 with ⟨rfl, hn⟩ | ⟨g, cap, cur, rfl, hb, hh, hnc, hm, _, _⟩
  · have : ys = [] := List.eq_nil_of_length_eq_zero hn
    subst this
    exact ⟨none, 0, rfl, Sl.nil, by simp, by omega⟩
  · refine ⟨some ⟨g, 0, none⟩, cap, rfl, ⟨fun _ => ⟨g, 0, rfl, (Array.getElem?_eq_some_iff.1 hh).1, fun i x hx => ?_⟩, by simpa using hnc, by simp only [maxLen] at hm; omega⟩⟩
    have hc := h.cells (g := g) rfl i (.int .i64 x) (by rw [List.getElem?_map, hx]; rfl)
    rw [add0] at hc
    simpa [RInt] using hc

theorem infoInt : (Try.prog.info? 3).map (fun i => (i.zero, i.size, i.bytes)) = some (some (.int .i64 0), 1, 8) := by kernel_rfl

set_option maxHeartbeats 1000000 in
theorem regions_any (ts : List Ty) (ls : List Lc) (l : Int) (ps : List Pj) (A B C : Option Addr) (c d e : Nat) (w : World) (hts : Slc 5 RTy w A c ts) (hls : Slc 2 RLc w B d ls) (hps : Slc 2 RPj w C e ps) (hok : Okay ts ls) :
    Calls Try.prog 18 #[.slice A ts.length c, .slice B ls.length d, .agg #[.int .i64 l, .slice C ps.length e]] w fun e' w' => ∃ A' c', e' = .returned (.slice A' (refsOf ts ls l ps).1.length c') ∧ Slc 1 RInt w' A' c' ((refsOf ts ls l ps).1.map (·.reg)) ∧ Below w.heap.size w w' := by
  have hR := Lib.hid (refs_any ts ls l ps A B C c d e (w.alloc (.cells #[.int .i64 l, .slice C ps.length e] 24)) (hts.keep RTy.keeps ((Below.refl _ _).alloc (Nat.le_refl _) _)) (hls.keep RLc.keeps ((Below.refl _ _).alloc (Nat.le_refl _) _)) (hps.keep RPj.keeps ((Below.refl _ _).alloc (Nat.le_refl _) _)) hok)
  have hlen := Lib.hid (refsOf_len ts ls l ps)
  clear hts hls hps hok
  generalize refsOf ts ls l ps = q at hR hlen ⊢
  obtain ⟨us, ok⟩ := q
  go_enter Try.func18, Try.ntmps18
  go_wp2_with (go_at_call 29; refine hR.out.mono ?_; rintro e' w1 ⟨A', c', rfl, hs', hb⟩)
  obtain ⟨i0, hi, hz0, hz1, hz2⟩ := info_parts infoInt
  have hbw : Below w.heap.size w w1 := ((Below.refl _ _).alloc (Nat.le_refl _) _).trans (hb.mono (by simp))
  have hlen := Lib.hid (show us.length ≤ 33 from hlen.out)
  clear hR hb
  have hle := hs'.le
  have hbig := hs'.big
  go_loopw [7, 21] (fun v i wr => ∃ k : Nat, k ≤ us.length ∧ i = .int .i64 k ∧ wr.ownsRow w1.heap.size 3 1 v k ((us.map (fun t => Value.int .i64 t.reg)).take k) ∧ Below w1.heap.size w1 wr) (fun _ i _ => us.length - (intOf i).toNat)
  case atStart => exact ⟨0, by omega, rfl, World.ownsRow_nil _ _ _ _, Below.refl _ _⟩
  case round =>
    obtain ⟨k, hk, rfl, hown, hB⟩ := hrel
    by_cases hlt : k < us.length
    · have hL := hlen.out
      obtain ⟨bT, oT, rfl, hbT, hrT⟩ := hs'.sl.at_ hlt
      obtain ⟨r1, r2, r3, r4, A2, c2, r5, r6, r7, r8⟩ := RTy.keeps _ _ _ w1.heap.size _ _ _ (Nat.le_refl _) hbT hB hrT
      have htk : Hid ((us.map (fun t => Value.int .i64 t.reg)).take (k + 1) = (us.map (fun t => Value.int .i64 t.reg)).take k ++ [.int .i64 us[k].reg]) := Lib.hid (by
        rw [List.take_succ_eq_append_getElem (by simpa using hlt)]
        simp)
      generalize us[k] = tt at *
      clear hrT r8
      have hown2 := (hown.alloc (.cells #[.int .i64 tt.kind, .bool tt.mu, .int .i64 tt.reg, .int .i64 tt.elem, .slice A2 tt.flds.length c2] 48)).alloc (.cells #[.int .i64 tt.reg] 3)
      have hsz := hB.size
      go_wp2_with (at_builtin; refine wpList_append_own _ rfl _ _ 39 rfl w1.heap.size 3 i0 (.int .i64 0) 1 8 Try.underlying39 hi hz0 hz1 hz2 rfl (by decide) _ _ _ rfl hown2 ⟨wr.heap.size + 1, 0, none⟩ 1 1 [.int .i64 tt.reg] rfl rfl ?c1 ?c2 ?c3 ?c4 ?c5 ?_)
      try (case c1 =>
        intro j u hj
        match j, hj with
        | 0, hj =>
          simp at hj; subst hj
          rw [add0]
          go_simp)
      case c2 => first | rfl | (intro u hu; simp at hu; subst hu; rfl)
      case c3 => unfold maxLen; omega
      case c4 => omega
      case c5 => simp; omega
      intro v' w2 hown' hgrow _
      have hown3 : w2.ownsRow w1.heap.size 3 1 v' (k + 1) ((us.map (fun t => Value.int .i64 t.reg)).take (k + 1)) := by rw [htk.out]; exact hown'
      have hB2 : Below w1.heap.size w1 w2 := by
        have hx : Below w1.heap.size w1 ((wr.alloc (.cells #[.int .i64 tt.kind, .bool tt.mu, .int .i64 tt.reg, .int .i64 tt.elem, .slice A2 tt.flds.length c2] 48)).alloc (.cells #[.int .i64 tt.reg] 3)) := (hB.alloc hsz _).alloc (by simp; omega) _
        exact hx.grown hgrow (by simp; omega) (fun g hg => (hown2.lt g hg).1)
      clear hown' hgrow hown hown2 hB r1 r2 r3 r4 r5
      go_wp2
      go_roundw
      case rel => exact ⟨k + 1, by omega, by simp, hown3, hB2⟩
      case measure => simp [intOf]; omega
    · have hlt2 : ¬ ((k : Int) < (us.length : Int)) := by omega
      have hke : k = us.length := by omega
      subst hke
      have hown2 : wr.ownsRow w1.heap.size 3 1 u7 (us.map (·.reg)).length ((us.map (·.reg)).map (Value.int .i64)) := by
        have h := hown
        rw [List.take_of_length_le (by simp)] at h
        rwa [List.length_map, List.map_map]
      obtain ⟨A2, c2, rfl, hsl⟩ := slc_of_ints hown2
      rw [List.length_map] at *
      have hsl2 := Lib.hid hsl
      clear hown hown2 hsl
      go_wp2
      go_ret
      exact ⟨A2, c2, rfl, hsl2.out, hbw.trans (hB.mono hbw.size)⟩
end Go.Proofs.Ytmfdppgfbgjmcaa
