/-
  Parts of the proof: P6 P7 P8 P9 E5 V1 V2 V19.
-/
import Derived.Test.YtbnljlpefpllcaaGreatDoorMD4
import Derived.Test.YtbnljlpefpllcaaGreatDoorMD3
import Derived.Test.YtbnljlpefpllcaaGreatDoorMD2
import Derived.Test.YtbnljlpefpllcaaGreatDoorMD1
import Derived.Test.YtbnljlpefpllcaaGreatDoorSg
import Derived.Test.YtbnljlpefpllcaaGreatDoorSh
import Derived.Laws.Bits64b
import Derived.Laws.MathBits
namespace Go.Proofs.YtbnljlpefpllcaaGreatDoor
open Go Go.RowKit
theorem cell_new1 (W : World) (v : Value) (t : TypeId) : (W.alloc (.cells #[v] t)).cell? ⟨W.heap.size, 0, none⟩ = some v := by
  rw [World.cell?_alloc_at _ _ _ _ (by simp)]; rfl
set_option maxRecDepth 100000 in
set_option maxHeartbeats 4000000 in
theorem puint_any (g : Nat) (s : Rs) (most : Nat) (w : World) (hr : PRd w g s) :
    Calls Tryz.prog 92 #[.pointer (some ⟨g, 0, none⟩), .int .u64 most] w fun e' w' => e' = .returned (.int .u64 (uintS most s).1) ∧ PRd w' g (uintS most s).2 ∧ But g w w' := by
  have hb : Below w.heap.size w ((w.alloc (.cells #[.pointer (some ⟨g, 0, none⟩)] 93)).alloc (.cells #[.int .u64 most] 148)) := ((Below.refl _ _).alloc (Nat.le_refl _) _).alloc (by simp) _
  have c2 : ((w.alloc (.cells #[.pointer (some ⟨g, 0, none⟩)] 93)).alloc (.cells #[.int .u64 most] 148)).cell? ⟨w.heap.size + 1, 0, none⟩ = some (.int .u64 most) := by
    have := cell_new1 (w.alloc (.cells #[.pointer (some ⟨g, 0, none⟩)] 93)) (.int .u64 most) 148
    rwa [World.size_alloc] at this
  have c1 := cell_keep (((Below.refl _ _).alloc (Nat.le_refl _) (.cells #[.int .u64 most] 148))) (cell_new1 w (.pointer (some ⟨g, 0, none⟩)) 93)
  have HB := Lib.hid hb
  have HC := Lib.hid (pu_read (uintS most) (fun s h => by unfold uintS; rw [if_neg h]) #[.pointer (some ⟨w.heap.size, 0, none⟩), .pointer (some ⟨w.heap.size + 1, 0, none⟩)] g s _ (hr.keep hb) (fun all A c k h1 h2 h3 h4 => puint_fun most (w.heap.size + 1) all A c k g w.heap.size _ h1 h2 h3 h4 c1 c2))
  clear hr hb c1 c2
  go_enter Tryz.func92, Tryz.ntmps92
  go_wp2_with (go_at_call 143; refine HC.out.mono ?_; rintro e' w1 ⟨rfl, hr1, hb1⟩; have HR1 := Lib.hid hr1; have HB1 := Lib.hid hb1; clear hr1 hb1)
  go_ret
  exact ⟨rfl, HR1.out, (But.of_below HB.out).trans HB1.out⟩
set_option maxRecDepth 100000 in
set_option maxHeartbeats 4000000 in
theorem pcount_any (g : Nat) (s : Rs) (w : World) (hr : PRd w g s) :
    Calls Tryz.prog 88 #[.pointer (some ⟨g, 0, none⟩), .int .i64 65535] w fun e' w' => e' = .returned (.int .i64 (countS 65535 s).1) ∧ PRd w' g (countS 65535 s).2 ∧ But g w w' := by
  have hb : Below w.heap.size w ((w.alloc (.cells #[.pointer (some ⟨g, 0, none⟩)] 93)).alloc (.cells #[.int .i64 65535] 3)) := ((Below.refl _ _).alloc (Nat.le_refl _) _).alloc (by simp) _
  have c2 : ((w.alloc (.cells #[.pointer (some ⟨g, 0, none⟩)] 93)).alloc (.cells #[.int .i64 65535] 3)).cell? ⟨w.heap.size + 1, 0, none⟩ = some (.int .i64 65535) := by
    have := cell_new1 (w.alloc (.cells #[.pointer (some ⟨g, 0, none⟩)] 93)) (.int .i64 65535) 3
    rwa [World.size_alloc] at this
  have c1 := cell_keep (((Below.refl _ _).alloc (Nat.le_refl _) (.cells #[.int .i64 65535] 3))) (cell_new1 w (.pointer (some ⟨g, 0, none⟩)) 93)
  have HB := Lib.hid hb
  have HC := Lib.hid (pc_read (countS 65535) (fun s h => by unfold countS; rw [if_neg h]) #[.pointer (some ⟨w.heap.size, 0, none⟩), .pointer (some ⟨w.heap.size + 1, 0, none⟩)] g s _ (hr.keep hb) (fun all A c k h1 h2 h3 h4 => pcount_fun (w.heap.size + 1) all A c k g w.heap.size _ h1 h2 h3 h4 c1 c2))
  clear hr hb c1 c2
  go_enter Tryz.func88, Tryz.ntmps88
  go_wp2_with (go_at_call 138; refine HC.out.mono ?_; rintro e' w1 ⟨rfl, hr1, hb1⟩; have HR1 := Lib.hid hr1; have HB1 := Lib.hid hb1; clear hr1 hb1)
  go_ret
  exact ⟨rfl, HR1.out, (But.of_below HB.out).trans HB1.out⟩
set_option maxRecDepth 100000 in
set_option maxHeartbeats 4000000 in
theorem pbyte_any (g : Nat) (s : Rs) (w : World) (hr : PRd w g s) :
    Calls Tryz.prog 90 #[.pointer (some ⟨g, 0, none⟩)] w fun e' w' => e' = .returned (.int .u8 (byteS s).1) ∧ PRd w' g (byteS s).2 ∧ But g w w' := by
  have hb : Below w.heap.size w (w.alloc (.cells #[.pointer (some ⟨g, 0, none⟩)] 93)) := (Below.refl _ _).alloc (Nat.le_refl _) _
  have c1 := cell_new1 w (.pointer (some ⟨g, 0, none⟩)) 93
  have HB := Lib.hid hb
  have HC := Lib.hid (pb_read byteS (fun s h => by unfold byteS; rw [if_neg h]) #[.pointer (some ⟨w.heap.size, 0, none⟩)] g s _ (hr.keep hb) (fun all A c k h1 h2 h3 h4 => pbyte_fun all A c k g w.heap.size _ h1 h2 h3 h4 c1))
  clear hr hb c1
  go_enter Tryz.func90, Tryz.ntmps90
  go_wp2_with (go_at_call 141; refine HC.out.mono ?_; rintro e' w1 ⟨rfl, hr1, hb1⟩; have HR1 := Lib.hid hr1; have HB1 := Lib.hid hb1; clear hr1 hb1)
  go_ret
  exact ⟨rfl, HR1.out, (But.of_below HB.out).trans HB1.out⟩
set_option maxRecDepth 100000 in
set_option maxHeartbeats 4000000 in
theorem pfail_any (g : Nat) (s : Rs) (e : Int) (he : e ≠ 0) (w : World) (hr : PRd w g s) :
    Calls Tryz.prog 87 #[.pointer (some ⟨g, 0, none⟩), .int .i64 e] w fun e' w' => e' = .returned (.tuple #[]) ∧ PRd w' g (failS e s) ∧ But g w w' := by
  obtain ⟨l, er⟩ := s
  have HR := Lib.hid hr
  have x2 := hr.err
  obtain ⟨all, A, c, k, hg, hs, hne, hk, hl, hrest⟩ := hr
  simp only at x2 hg
  have f2 : w.frozen? ⟨g, 2, none⟩ = false := by simp [World.frozen?, hg]
  have HG := Lib.hid hg
  have HS := Lib.hid hs
  have HN := Lib.hid hne
  clear hg hs hne hrest
  by_cases hc : er = 0
  · subst hc
    have HF : Hid (failS e ⟨l, 0⟩ = ⟨[], e⟩) := Lib.hid (by unfold failS; rw [if_pos rfl])
    go_enter Tryz.func87, Tryz.ntmps87
    go_wp2_with fail
    refine bodyPost_end (v := .tuple #[]) (by simp [results, Tryz.results87, go_sem] <;> rfl) rfl ⟨rfl, ?_, but_set (But.refl _ _) _ _⟩
    rw [HF.out]
    exact ⟨all, A, c, k, trip_put2 _ HG.out, slc_set _ HS.out (fun a h _ => HN.out a h), HN.out, hk, hl, fun h => absurd h he⟩
  · have HF : Hid (failS e ⟨l, er⟩ = ⟨l, er⟩) := Lib.hid (by unfold failS; rw [if_neg hc])
    have e4 : (er == 0) = false := by simp [hc]
    clear hc
    go_enter Tryz.func87, Tryz.ntmps87
    go_wp2_with fail
    exact bodyPost_end (v := .tuple #[]) (by simp [results, Tryz.results87, go_sem] <;> rfl) rfl ⟨rfl, by rw [HF.out]; exact HR.out, But.refl _ _⟩
theorem perr_any (g : Nat) (s : Rs) (w : World) (hr : PRd w g s) :
    Calls Tryz.prog 89 #[.pointer (some ⟨g, 0, none⟩)] w fun e' w' => e' = .returned (.int .i64 s.err) ∧ w' = w := by
  have x2 := hr.err
  clear hr
  go_enter Tryz.func89, Tryz.ntmps89
  go_wp2_with fail
  go_ret
  exact ⟨rfl, rfl⟩
set_option maxRecDepth 100000 in
set_option maxHeartbeats 4000000 in
theorem pleft_any (g : Nat) (s : Rs) (w : World) (hr : PRd w g s) (h0 : s.err = 0) :
    Calls Tryz.prog 93 #[.pointer (some ⟨g, 0, none⟩)] w fun e' w' => e' = .returned (.int .i64 s.rest.length) ∧ Below w.heap.size w w' := by
  have x2 := hr.err
  obtain ⟨all, A, c, k, hg, hs, hne, hk, hl, hrest⟩ := hr
  have x0 : w.cell? ⟨g, 0, none⟩ = some (.slice A all.length c) := by simp [World.cell?, hg]
  have x1 : w.cell? ⟨g, 1, none⟩ = some (.int .i64 k) := by simp [World.cell?, hg]
  have HL : Hid ((s.rest.length : Int) = (all.length : Int) - (k : Int)) := Lib.hid (by rw [hrest h0, List.length_drop]; omega)
  have hw : IntKind.i64.wrap ((all.length : Int) - (k : Int)) = (all.length : Int) - (k : Int) := by rw [IntKind.wrap_i64]; omega
  rw [h0] at x2
  clear hrest hs hg hne
  go_enter Tryz.func93, Tryz.ntmps93
  go_wp2_with fail
  go_quiet (fail)
  go_wp2_with fail
  go_ret
  exact ⟨by rw [HL.out]; rfl, below_drewN (Below.refl _ _) _⟩
set_option maxRecDepth 100000 in
set_option maxHeartbeats 4000000 in
theorem pend_any (g : Nat) (s : Rs) (w : World) (hr : PRd w g s) :
    Calls Tryz.prog 51 #[.pointer (some ⟨g, 0, none⟩)] w fun e' w' => e' = .returned (.int .i64 (endS s)) ∧ Below w.heap.size w w' := by
  have HE := Lib.hid (perr_any g s w hr)
  by_cases h0 : s.err = 0
  · have HL := Lib.hid (pleft_any g s w hr h0)
    by_cases hl : 0 < s.rest.length
    · have HR : Hid (endS s = 11) := Lib.hid (by unfold endS; rw [if_pos h0, if_pos hl])
      have e1 : ((s.rest.length : Int) == 0) = false := beq_false_of_ne (by omega)
      generalize s.rest.length = n at *
      rw [h0] at HE
      clear hr h0
      go_enter Tryz.func51, Tryz.ntmps51
      go_wp2_with (first
        | (go_at_call 93; refine HL.out.mono ?_; rintro e' w1 ⟨rfl, hb1⟩)
        | (go_at_call 89; refine HE.out.mono ?_; rintro e' w1 ⟨rfl, hw⟩; obtain rfl := hw))
      go_ret
      exact ⟨by rw [HR.out]; rfl, by assumption⟩
    · have HR : Hid (endS s = 0) := Lib.hid (by unfold endS; rw [if_pos h0, if_neg hl])
      have hz : s.rest.length = 0 := by omega
      rw [h0] at HE
      rw [hz] at HL
      clear hr h0 hl hz
      go_enter Tryz.func51, Tryz.ntmps51
      go_wp2_with (first
        | (go_at_call 93; refine HL.out.mono ?_; rintro e' w1 ⟨rfl, hb1⟩)
        | (go_at_call 89; refine HE.out.mono ?_; rintro e' w1 ⟨rfl, hw⟩; obtain rfl := hw))
      go_ret
      exact ⟨by rw [HR.out]; rfl, by assumption⟩
  · have HR : Hid (endS s = s.err) := Lib.hid (by unfold endS; rw [if_neg h0])
    have e1 : (s.err == 0) = false := by simp [h0]
    have e2 : (s.err != 0) = true := by simp [h0]
    generalize s.err = er at *
    clear hr
    go_enter Tryz.func51, Tryz.ntmps51
    go_wp2_with (go_at_call 89; refine HE.out.mono ?_; rintro e' w1 ⟨rfl, hw⟩; obtain rfl := hw)
    go_ret
    exact ⟨by rw [HR.out]; rfl, Below.refl _ _⟩
end Go.Proofs.YtbnljlpefpllcaaGreatDoor
namespace Go.Proofs.YtbnljlpefpllcaaGreatDoor
open Go Go.RowKit
/-- A table at block t. -/
structure TabAt (w : World) (t : Nat) (T : Option Addr) (c : Nat) (tbl : List ByteArray) : Prop where
  at_ : w.heap[t]? = some (.cells #[.slice T tbl.length c] 130)
  row : Slc 1 RN w T c tbl
  lt : ∀ a, T = some a → a.block < w.heap.size
theorem TabAt.keep {w w' : World} {t c : Nat} {T : Option Addr} {tbl : List ByteArray} (h : TabAt w t T c tbl) (hb : Below w.heap.size w w') : TabAt w' t T c tbl :=
  ⟨(hb.block t (Array.getElem?_eq_some_iff.1 h.at_).1).trans h.at_, h.row.keep RN.keeps hb, fun a ha => Nat.lt_of_lt_of_le (h.lt a ha) hb.size⟩
/-- The decoder at block h, but for its reader's state. -/
structure DTab (w : World) (h g t : Nat) (T : Option Addr) (c : Nat) (tbl : List ByteArray) : Prop where
  at_ : w.heap[h]? = some (.cells #[.pointer (some ⟨g, 0, none⟩), .pointer (some ⟨t, 0, none⟩)] 96)
  hg : h ≠ g
  tg : t ≠ g
  tab : TabAt w t T c tbl
  ne : ∀ a, T = some a → a.block ≠ g
theorem DTab.but {w w' : World} {h g t c : Nat} {T : Option Addr} {tbl : List ByteArray} (H : DTab w h g t T c tbl) (hb : But g w w') : DTab w' h g t T c tbl :=
  ⟨(hb.block h (Array.getElem?_eq_some_iff.1 H.at_).1 H.hg).trans H.at_, H.hg, H.tg, ⟨(hb.block t (Array.getElem?_eq_some_iff.1 H.tab.at_).1 H.tg).trans H.tab.at_, tbl_keep H.tab.row hb H.ne, fun a ha => Nat.lt_of_lt_of_le (H.tab.lt a ha) hb.size⟩, H.ne⟩
theorem DTab.keep {w w' : World} {h g t c : Nat} {T : Option Addr} {tbl : List ByteArray} (H : DTab w h g t T c tbl) (hb : Below w.heap.size w w') : DTab w' h g t T c tbl := H.but (But.of_below hb)
theorem DTab.c0 {w : World} {h g t c : Nat} {T : Option Addr} {tbl : List ByteArray} (H : DTab w h g t T c tbl) : w.cell? ⟨h, 0, none⟩ = some (.pointer (some ⟨g, 0, none⟩)) := by
  have := H.at_
  simp [World.cell?, this]
theorem DTab.c1 {w : World} {h g t c : Nat} {T : Option Addr} {tbl : List ByteArray} (H : DTab w h g t T c tbl) : w.cell? ⟨h, 1, none⟩ = some (.pointer (some ⟨t, 0, none⟩)) := by
  have := H.at_
  simp [World.cell?, this]
set_option maxRecDepth 100000 in
set_option maxHeartbeats 4000000 in
theorem pnum_any (h g t : Nat) (T : Option Addr) (c : Nat) (tbl : List ByteArray) (s : Rs) (w : World) (H : DTab w h g t T c tbl) (hr : PRd w g s) :
    Calls Tryz.prog 50 #[.pointer (some ⟨h, 0, none⟩)] w fun e' w' => e' = .returned (.int .i64 (numS s).1) ∧ PRd w' g (numS s).2 ∧ But g w w' := by
  have HC := Lib.hid (puint_any g s 65535 w hr)
  have x0 := H.c0
  have hle := uint_le 65535 s
  unfold numS
  generalize uintS 65535 s = R at *
  clear hr H
  go_enter Tryz.func50, Tryz.ntmps50
  go_wp2_with (go_at_call 92; refine HC.out.mono ?_; rintro e' w1 ⟨rfl, hr1, hb1⟩; have HR1 := Lib.hid hr1; have HB1 := Lib.hid hb1; clear hr1 hb1)
  go_ret
  exact ⟨rfl, HR1.out, HB1.out⟩
theorem plen_any (t : Nat) (T : Option Addr) (c : Nat) (tbl : List ByteArray) (w : World) (H : TabAt w t T c tbl) :
    Calls Tryz.prog 137 #[.pointer (some ⟨t, 0, none⟩)] w fun e' w' => e' = .returned (.int .i64 tbl.length) ∧ w' = w := by
  have x0 : w.cell? ⟨t, 0, none⟩ = some (.slice T tbl.length c) := by
    have := H.at_
    simp [World.cell?, this]
  clear H
  go_enter Tryz.func137, Tryz.ntmps137
  go_wp2_with fail
  go_ret
  exact ⟨rfl, rfl⟩
set_option maxRecDepth 100000 in
set_option maxHeartbeats 4000000 in
theorem pat_any (t : Nat) (T : Option Addr) (c : Nat) (tbl : List ByteArray) (i : Nat) (w : World) (H : TabAt w t T c tbl) :
    Calls Tryz.prog 86 #[.pointer (some ⟨t, 0, none⟩), .int .i64 i] w fun e' w' => e' = .returned (.tuple #[.string ((tbl[i]?).getD ByteArray.empty), .bool (decide (i < tbl.length))]) ∧ w' = w := by
  have x0 : w.cell? ⟨t, 0, none⟩ = some (.slice T tbl.length c) := by
    have := H.at_
    simp [World.cell?, this]
  have HL := Lib.hid (plen_any t T c tbl w H)
  have hle := H.row.le
  have hbg := H.row.big
  by_cases hlt : i < tbl.length
  · obtain ⟨b, o, rfl, hb0, y0⟩ := H.row.sl.at_ hlt
    have HA : Hid ((tbl[i]?).getD ByteArray.empty = tbl[i]) := Lib.hid (by rw [List.getElem?_eq_getElem hlt]; rfl)
    have y1 : w.cell? ⟨b, o + i, none⟩ = some (.string tbl[i]) := by simpa [RN] using y0
    generalize tbl[i] = x at *
    have HD : Hid (decide (i < tbl.length) = true) := Lib.hid (by simp [hlt])
    generalize tbl.length = n at *
    have e1 : ¬ ((i : Int) ≥ (n : Int)) := by omega
    clear H y0
    go_enter Tryz.func86, Tryz.ntmps86
    go_wp2_with (go_at_call 137; refine HL.out.mono ?_; rintro e' w1 ⟨rfl, hw⟩; obtain rfl := hw)
    refine bodyPost_ret (v := .tuple #[.string x, .bool true]) (by simp [results, Tryz.results86, go_sem] <;> rfl) rfl ⟨by rw [HA.out, HD.out], rfl⟩
  · have HA : Hid ((tbl[i]?).getD ByteArray.empty = ByteArray.empty) := Lib.hid (by rw [List.getElem?_eq_none (by omega)]; rfl)
    have HD : Hid (decide (i < tbl.length) = false) := Lib.hid (by simp [hlt])
    have e1 : (tbl.length : Int) ≤ (i : Int) := by omega
    clear H
    go_enter Tryz.func86, Tryz.ntmps86
    go_wp2_with (go_at_call 137; refine HL.out.mono ?_; rintro e' w1 ⟨rfl, hw⟩; obtain rfl := hw)
    refine bodyPost_ret (v := .tuple #[.string ByteArray.empty, .bool false]) (by simp [results, Tryz.results86, go_sem] <;> rfl) rfl ⟨by rw [HA.out, HD.out], rfl⟩
theorem uint_zero (most : Nat) (s : Rs) (h : (uintS most s).2.err ≠ 0) : (uintS most s).1 = 0 := by
  unfold uintS at h ⊢
  split
  · split
    · split
      · rfl
      · rename_i h1 h2 h3
        rw [if_pos h1, if_pos h2, if_neg h3] at h
        exact absurd rfl h
    · rfl
  · rfl
set_option maxRecDepth 100000 in
set_option maxHeartbeats 4000000 in
theorem pname_any (h g t : Nat) (T : Option Addr) (c : Nat) (tbl : List ByteArray) (s : Rs) (w : World) (H : DTab w h g t T c tbl) (hr : PRd w g s) :
    Calls Tryz.prog 42 #[.pointer (some ⟨h, 0, none⟩)] w fun e' w' => ∃ v, e' = .returned (.string v) ∧ ((nameS tbl s).2.err = 0 → v = (nameS tbl s).1) ∧ PRd w' g (nameS tbl s).2 ∧ But g w w' := by
  have HC := Lib.hid (pnum_any h g t T c tbl s w.drew (H.keep (Below.refl _ w).drew) (hr.keep (Below.refl _ w).drew))
  have hle := uint_le 65535 s
  have hz := uint_zero 65535 s
  have x0 := H.c0
  have x1 := H.c1
  have HH := Lib.hid H
  unfold numS at HC
  obtain ⟨Q, hQ⟩ : ∃ Q, nameS tbl s = Q := ⟨_, rfl⟩
  rw [hQ]
  unfold nameS at hQ
  generalize uintS 65535 s = R at *
  obtain ⟨n, s1⟩ := R
  simp only at HC hle hz hQ
  have HQ := Lib.hid hQ
  clear hQ
  clear hr H
  go_enter Tryz.func42, Tryz.ntmps42
  go_wp2_with fail
  refine wp_region_k (S := fun X => X.cell? ⟨h, 1, none⟩ = some (.pointer (some ⟨t, 0, none⟩))) (by kernel_rfl) ?_
  have hS : w.drew.cell? ⟨h, 1, none⟩ = some (.pointer (some ⟨t, 0, none⟩)) := x1
  (iterate 5 (refine wpK_take (v := ?_) (by kernel_rfl) (fun _ _ _ h => h) (Or.inl ⟨by rfl, ?_⟩) hS ?_; rotate_left; (next => (rintro X s1; (try simp only [List.getElem?_toArray, List.getElem?_cons_zero, List.getElem?_cons_succ, Option.getD_some]); go_simp; rfl)); simp only [List.getElem?_toArray, List.getElem?_cons_zero, List.getElem?_cons_succ, Option.getD_some, Act.put, List.setIfInBounds_toArray, List.set_cons_zero, List.set_cons_succ]))
  (refine wpK_one (by kernel_rfl) (fun K1 hK1 => ?_); simp only [List.getElem?_toArray, List.getElem?_cons_zero, List.getElem?_cons_succ, Option.getD_some, Act.put, List.setIfInBounds_toArray, List.set_cons_zero, List.set_cons_succ]; rw [if_pos (by rfl)]; go_simp)
  refine HC.out.mono ?_
  rintro e' w1 ⟨rfl, hr1, hb1⟩
  have H1 : DTab w1 h g t T c tbl := HH.out.but ((But.of_below (g := g) (Below.refl _ w).drew).trans hb1)
  have hS1 := H1.c1
  refine hK1.out _ _ (fun _ => hS1) ?_
  (refine wpK_one (by kernel_rfl) (fun K1 hK1 => ?_); simp only [List.getElem?_toArray, List.getElem?_cons_zero, List.getElem?_cons_succ, Option.getD_some, Act.put, List.setIfInBounds_toArray, List.set_cons_zero, List.set_cons_succ]; rw [if_pos (by rfl)]; go_simp)
  refine (pat_any t T c tbl n w1 H1.tab).mono ?_
  rintro e' w2 ⟨rfl, hw⟩
  obtain rfl := hw.symm
  refine hK1.out _ _ (fun _ => hS1) ?_
  have hS := hS1
  (iterate 5 (refine wpK_take (v := ?_) (by kernel_rfl) (fun _ _ _ h => h) (Or.inl ⟨by rfl, ?_⟩) hS ?_; rotate_left; (next => (rintro X _; (try simp only [List.getElem?_toArray, List.getElem?_cons_zero, List.getElem?_cons_succ, Option.getD_some]); go_simp; rfl)); simp only [List.getElem?_toArray, List.getElem?_cons_zero, List.getElem?_cons_succ, Option.getD_some, Act.put, List.setIfInBounds_toArray, List.set_cons_zero, List.set_cons_succ]))
  refine wpK_done rfl ?_
  have y0 := H1.c0
  have HR1 := Lib.hid hr1
  have HB1 : Hid (But g w w1) := Lib.hid ((But.of_below (g := g) (Below.refl _ w).drew).trans hb1)
  clear hr1 hb1 hS hS1 x0 x1
  by_cases hlt : n < tbl.length
  · have hd : decide (n < tbl.length) = true := by simp [hlt]
    rw [hd]
    have HV : Hid (Q = (if s1.err = 0 then tbl[n] else ByteArray.empty, s1)) := Lib.hid (by
      rw [← HQ.out, List.getElem?_eq_getElem hlt]
      split <;> rfl)
    have HX : Hid ((tbl[n]?).getD ByteArray.empty = tbl[n]) := Lib.hid (by rw [List.getElem?_eq_getElem hlt]; rfl)
    rw [HX.out]
    generalize tbl[n] = x at *
    go_wp2_with fail
    go_ret
    rw [HV.out]
    refine ⟨x, rfl, ?_, HR1.out, HB1.out⟩
    intro h0
    simp only at h0 ⊢
    rw [if_pos h0]
  · have hd : decide (n < tbl.length) = false := by simp [hlt]
    rw [hd]
    have HF := Lib.hid (pfail_any g s1 20 (by omega) w1 HR1.out)
    have HV : Hid (Q = (ByteArray.empty, failS 20 s1)) := Lib.hid (by
      rw [← HQ.out, List.getElem?_eq_none (by omega)]
      unfold failS
      split <;> rfl)
    have HF20 := Lib.hid (show ∃ R, failS 20 s1 = R from ⟨_, rfl⟩)
    generalize (tbl[n]?).getD ByteArray.empty = x at *
    have hn : (failS 20 s1).err = 0 → False := by
      unfold failS
      split
      · simp
      · rename_i h1; exact h1
    generalize failS 20 s1 = Z at *
    have HN := Lib.hid hn
    clear HF20 hn
    go_wp2_with (go_at_call 87; refine HF.out.mono ?_; rintro e' w2 ⟨rfl, hr2, hb2⟩; have HR2 := Lib.hid hr2; have HB2 := Lib.hid hb2; clear hr2 hb2)
    go_ret
    rw [HV.out]
    refine ⟨x, rfl, ?_, HR2.out, HB1.out.trans HB2.out⟩
    intro h0
    exact (HN.out h0).elim
end Go.Proofs.YtbnljlpefpllcaaGreatDoor
namespace Go.Proofs.YtbnljlpefpllcaaGreatDoor
open Go Go.RowKit
theorem But.blk {g k : Nat} {o : Obj} {w w' : World} (h : But g w w') (hk : w.heap[k]? = some o) (hne : k ≠ g) : w'.heap[k]? = some o :=
  (h.block k (Array.getElem?_eq_some_iff.1 hk).1 hne).trans hk
/-- Cells beyond the reader's block, written. -/
theorem put2 {g i j : Nat} {w W w2 : World} {x y : Value} (h3 : But g W w2) (hb : Below w.heap.size w W) : But g w ((w2.setCell ⟨w.heap.size, i, none⟩ x).setCell ⟨w.heap.size, j, none⟩ y) ∧ True := by
  refine ⟨⟨h3.os.trans hb.os, h3.tape.trans hb.tape, h3.output.trans hb.output, ?_, fun k hk hne => ?_⟩, trivial⟩
  · have := hb.size
    have := h3.size
    simp; omega
  · rw [Below.heap_setCell _ _ _ k (by simp; omega), Below.heap_setCell _ _ _ k (by simp; omega), h3.block k (by have := hb.size; omega) hne, hb.block k hk]
set_option maxRecDepth 100000 in
set_option maxHeartbeats 4000000 in
theorem ppair_any (h g t : Nat) (T : Option Addr) (c : Nat) (tbl : List ByteArray) (s : Rs) (w : World) (H : DTab w h g t T c tbl) (hr : PRd w g s) :
    Calls Tryz.prog 45 #[.pointer (some ⟨h, 0, none⟩)] w fun e' w' => e' = .returned (.agg #[.int .i64 (pairS s).1.1, .int .i64 (pairS s).1.2]) ∧ PRd w' g (pairS s).2 ∧ But g w w' := by
  have hgl := hr.lt
  obtain ⟨W, hW⟩ : ∃ W, w.alloc (.cells #[.int .i64 0, .int .i64 0] 79) = W := ⟨_, rfl⟩
  have hb : Below w.heap.size w W := by rw [← hW]; exact (Below.refl _ _).alloc (Nat.le_refl _) _
  have hk : W.heap[w.heap.size]? = some (.cells #[.int .i64 0, .int .i64 0] 79 (0, 0)) := by rw [← hW]; exact heap_alloc_new w _
  have HN1 := Lib.hid (pnum_any h g t T c tbl s W (H.keep hb) (hr.keep hb))
  have HN2 : Hid (∀ w1, PRd w1 g (numS s).2 → But g W w1 → Calls Tryz.prog 50 #[.pointer (some ⟨h, 0, none⟩)] w1 fun e' w' => e' = .returned (.int .i64 (numS (numS s).2).1) ∧ PRd w' g (numS (numS s).2).2 ∧ But g w1 w') := Lib.hid (fun w1 h1 h2 => pnum_any h g t T c tbl _ w1 ((H.keep hb).but h2) h1)
  have HK := Lib.hid hk
  have HB := Lib.hid hb
  have HP : Hid (pairS s = (((numS s).1, (numS (numS s).2).1), (numS (numS s).2).2)) := Lib.hid rfl
  generalize pairS s = Q at *
  generalize (numS (numS s).2).1 = b at *
  generalize (numS (numS s).2).2 = s2 at *
  generalize numS s = R at *
  obtain ⟨a, s1⟩ := R
  simp only at HN1 HN2 HP
  clear hr H hk hb
  go_enter Tryz.func45, Tryz.ntmps45
  go_wp2_with fail
  go_at_call 50
  refine HN1.out.mono ?_
  rintro e' w1 ⟨rfl, hr1, hb1⟩
  have HC2 := HN2.out w1 hr1 hb1
  have HB1 := Lib.hid hb1
  clear hr1 hb1 HN1 HN2
  go_wp2_with fail
  go_at_call 50
  refine HC2.mono ?_
  rintro e' w2 ⟨rfl, hr2, hb2⟩
  have hb3 := HB1.out.trans hb2
  have hk2 := hb3.blk HK.out (by omega)
  have HR2 := Lib.hid hr2
  have HB3 := Lib.hid hb3
  have HK2 := Lib.hid hk2
  obtain ⟨v0, v1, v2, v3⟩ := blk2 hk2
  clear hr2 hb2 hb3 hk2 HC2
  go_wp2_with fail
  have n := blk2_set (.int .i64 a) (.int .i64 b) HK2.out
  have hbb : But g w ((w2.setCell ⟨w.heap.size, 0, none⟩ (.int .i64 a)).setCell ⟨w.heap.size, 1, none⟩ (.int .i64 b)) := (put2 HB3.out HB.out).1
  have hrr := HR2.out.low (w' := (w2.setCell ⟨w.heap.size, 0, none⟩ (.int .i64 a)).setCell ⟨w.heap.size, 1, none⟩ (.int .i64 b)) (by simp) (fun k hk => by
    rw [Below.heap_setCell _ _ _ k (by simp; omega), Below.heap_setCell _ _ _ k (by simp; omega)])
  generalize (w2.setCell ⟨w.heap.size, 0, none⟩ (.int .i64 a)).setCell ⟨w.heap.size, 1, none⟩ (.int .i64 b) = W3 at *
  obtain ⟨u0, u1, _, _⟩ := blk2 n
  refine bodyPost_ret (v := .agg #[.int .i64 a, .int .i64 b]) (by simp [results, Tryz.results45, go_sem, u0, u1] <;> rfl) rfl ?_
  rw [HP.out]
  exact ⟨rfl, hrr, hbb⟩
set_option maxRecDepth 100000 in
set_option maxHeartbeats 4000000 in
theorem plocal_any (h g t : Nat) (T : Option Addr) (c : Nat) (tbl : List ByteArray) (s : Rs) (w : World) (H : DTab w h g t T c tbl) (hr : PRd w g s) :
    Calls Tryz.prog 49 #[.pointer (some ⟨h, 0, none⟩)] w fun e' w' => ∃ v, e' = .returned (.agg #[.string v, .int .i64 (localS tbl s).1.type]) ∧ ((localS tbl s).2.err = 0 → v = (localS tbl s).1.name) ∧ PRd w' g (localS tbl s).2 ∧ But g w w' := by
  have hgl := hr.lt
  obtain ⟨W, hW⟩ : ∃ W, w.alloc (.cells #[.string ⟨#[]⟩, .int .i64 0] 87) = W := ⟨_, rfl⟩
  have hb : Below w.heap.size w W := by rw [← hW]; exact (Below.refl _ _).alloc (Nat.le_refl _) _
  have hk : W.heap[w.heap.size]? = some (.cells #[.string ⟨#[]⟩, .int .i64 0] 87 (0, 0)) := by rw [← hW]; exact heap_alloc_new w _
  have HN1 := Lib.hid (pname_any h g t T c tbl s W (H.keep hb) (hr.keep hb))
  have HN2 : Hid (∀ w1, PRd w1 g (nameS tbl s).2 → But g W w1 → Calls Tryz.prog 50 #[.pointer (some ⟨h, 0, none⟩)] w1 fun e' w' => e' = .returned (.int .i64 (numS (nameS tbl s).2).1) ∧ PRd w' g (numS (nameS tbl s).2).2 ∧ But g w1 w') := Lib.hid (fun w1 h1 h2 => pnum_any h g t T c tbl _ w1 ((H.keep hb).but h2) h1)
  have HK := Lib.hid hk
  have HB := Lib.hid hb
  have HP : Hid (localS tbl s = (⟨(nameS tbl s).1, (numS (nameS tbl s).2).1⟩, (numS (nameS tbl s).2).2)) := Lib.hid rfl
  have HST : Hid ((numS (nameS tbl s).2).2.err = 0 → (nameS tbl s).2.err = 0) := Lib.hid (fun h0 => Decidable.byContradiction fun h1 => by
    have : (numS (nameS tbl s).2).2 = (nameS tbl s).2 := by
      unfold numS uintS
      rw [if_neg h1]
    rw [this] at h0
    exact h1 h0)
  generalize localS tbl s = Q at *
  generalize (numS (nameS tbl s).2).1 = b at *
  generalize (numS (nameS tbl s).2).2 = s2 at *
  generalize nameS tbl s = R at *
  obtain ⟨a, s1⟩ := R
  simp only at HN1 HN2 HP HST
  clear hr H hk hb
  go_enter Tryz.func49, Tryz.ntmps49
  go_wp2_with fail
  go_at_call 42
  refine HN1.out.mono ?_
  rintro e' w1 ⟨v, rfl, hv, hr1, hb1⟩
  have HV := Lib.hid hv
  have HC2 := HN2.out w1 hr1 hb1
  have HB1 := Lib.hid hb1
  clear hr1 hb1 HN1 HN2 hv
  go_wp2_with fail
  go_at_call 50
  refine HC2.mono ?_
  rintro e' w2 ⟨rfl, hr2, hb2⟩
  have hb3 := HB1.out.trans hb2
  have hk2 := hb3.blk HK.out (by omega)
  have HR2 := Lib.hid hr2
  have HB3 := Lib.hid hb3
  have HK2 := Lib.hid hk2
  obtain ⟨v0, v1, v2, v3⟩ := blk2 hk2
  clear hr2 hb2 hb3 hk2 HC2
  go_wp2_with fail
  have n := blk2_set (.string v) (.int .i64 b) HK2.out
  have hbb : But g w ((w2.setCell ⟨w.heap.size, 0, none⟩ (.string v)).setCell ⟨w.heap.size, 1, none⟩ (.int .i64 b)) := (put2 HB3.out HB.out).1
  have hrr := HR2.out.low (w' := (w2.setCell ⟨w.heap.size, 0, none⟩ (.string v)).setCell ⟨w.heap.size, 1, none⟩ (.int .i64 b)) (by simp) (fun k hk => by
    rw [Below.heap_setCell _ _ _ k (by simp; omega), Below.heap_setCell _ _ _ k (by simp; omega)])
  generalize (w2.setCell ⟨w.heap.size, 0, none⟩ (.string v)).setCell ⟨w.heap.size, 1, none⟩ (.int .i64 b) = W3 at *
  obtain ⟨u0, u1, _, _⟩ := blk2 n
  refine bodyPost_ret (v := .agg #[.string v, .int .i64 b]) (by simp [results, Tryz.results49, go_sem, u0, u1] <;> rfl) rfl ?_
  rw [HP.out]
  exact ⟨v, rfl, fun h0 => HV.out (HST.out h0), hrr, hbb⟩
end Go.Proofs.YtbnljlpefpllcaaGreatDoor
namespace Go.Proofs.YtbnljlpefpllcaaGreatDoor
open Go Go.RowKit
theorem count_le (most : Nat) (s : Rs) : (countS most s).1 ≤ most := by
  unfold countS
  split
  · split
    · split
      · simp
      · split
        · simp
        · simp only; omega
    · simp
  · simp
theorem count_zero (most : Nat) (s : Rs) (h : (countS most s).2.err ≠ 0) : (countS most s).1 = 0 := by
  unfold countS at h ⊢
  split
  · split
    · split
      · rfl
      · split
        · rfl
        · rename_i h1 h2 h3 h4
          rw [if_pos h1, if_pos h2, if_neg h3, if_neg h4] at h
          exact absurd rfl h
    · rfl
  · rfl
/-- The cells of a new block. -/
theorem row_new (w : World) (cs : List Value) (t : TypeId) (j : Nat) (u : Value) (h : cs[j]? = some u) : (w.alloc (.cells cs.toArray t)).cell? ⟨w.heap.size, j, none⟩ = some u := by
  rw [World.cell?_alloc_at _ _ _ _ (by simp)]
  simpa using h
end Go.Proofs.YtbnljlpefpllcaaGreatDoor
namespace Go.Proofs.YtbnljlpefpllcaaGreatDoor
open Go Go.RowKit
theorem own_isSliceE {X : World} {b m n : Nat} {e : TypeId} {v : Value} {xs : List Value} (h : X.ownsRow b e m v n xs) : ∃ A c, v = .slice A n c := by
  rcases h.2 with ⟨h1, h2⟩ | ⟨g', cap, cur, h1, _⟩
  · exact ⟨none, 0, by rw [h1, h2]⟩
  · exact ⟨_, cap, h1⟩
theorem wrap8 (n : Int) : IntKind.u8.wrap n = n % 256 := by simp [IntKind.wrap, IntKind.bits, IntKind.signed]
theorem or128 (m : Nat) : bits .or .u8 (IntKind.u8.wrap (m : Int)) 128 = ((m % 128 + 128 : Nat) : Int) := by
  have hw : IntKind.u8.wrap (m : Int) = ((m % 256 : Nat) : Int) := by
    simp [IntKind.wrap, IntKind.bits, IntKind.signed]
  rw [hw]
  have h1 : (BitVec.ofInt 8 ((m % 256 : Nat) : Int)).toNat = m % 256 := by
    rw [BitVec.ofInt_natCast, BitVec.toNat_ofNat]; exact Nat.mod_eq_of_lt (by omega)
  have h2 : (BitVec.ofInt 8 128).toNat = 128 := rfl
  have h3 : (m % 256) ||| 128 = m % 128 + 128 := by
    have e : (m % 128) ||| 128 = m % 128 + 128 := or_low (m % 128) 1 7 (by omega)
    by_cases h : m % 256 < 128
    · rw [show m % 256 = m % 128 by omega, e]
    · rw [show m % 256 = m % 128 + 128 by omega, ← e, Nat.or_assoc, Nat.or_self]
  show IntKind.u8.wrap ((BitVec.ofInt 8 ((m % 256 : Nat) : Int) ||| BitVec.ofInt 8 128).toNat : Int) = _
  rw [BitVec.toNat_or, h1, h2, h3, show ∀ n : Int, IntKind.u8.wrap n = n % 256 from fun n => by simp [IntKind.wrap, IntKind.bits, IntKind.signed]]
  omega
theorem psize_any (n : Nat) (w : World) (hn : n < 2 ^ 64) :
    Calls Tryz.prog 187 #[.int .u64 n] w fun e' w' => (∃ k : Nat, k ≤ 10 ∧ e' = .returned (.int .i64 k)) ∧ w' = w := by
  have hb : bits .or .u64 (n : Int) 1 = ((n ||| 1 : Nat) : Int) := bits_or_u64_nat n 1 (by omega) (by omega)
  have hlt : n ||| 1 < 2 ^ 64 := Nat.or_lt_two_pow hn (by omega)
  obtain ⟨m, hm⟩ : ∃ m, n ||| 1 = m := ⟨_, rfl⟩
  rw [hm] at hb hlt
  have HC := Lib.hid (Tryz.bits_Len64 (m : Int) w (by omega) (by omega))
  rw [Int.toNat_natCast] at HC
  have hbl : Lib.bitLen m ≤ 64 := Lib.bitLen_le m 64 (Nat.le_refl _) hlt
  generalize Lib.bitLen m = q at *
  clear hm
  go_enter Tryz.func187, Tryz.ntmps187
  go_wp2_with (go_at_call 171; refine HC.out.mono ?_; rintro e' w1 ⟨rfl, hw⟩; obtain rfl := hw.symm)
  go_ret
  exact ⟨⟨(q + 6) / 7, by omega, by simp⟩, rfl⟩
set_option maxRecDepth 100000 in
set_option maxHeartbeats 4000000 in
theorem pput_any (n : Nat) (w : World) (hn : n < 2 ^ 64) :
    Calls Tryz.prog 136 #[.int .u64 n] w fun e' w' => ∃ A c, e' = .returned (.slice A (putL n).length c) ∧ w'.ownsRow w.heap.size 5 1 (.slice A (putL n).length c) (putL n).length ((putL n).map encB) ∧ Below w.heap.size w w' := by
  obtain ⟨i0, hi, hz0, hz1, hz2⟩ := info_parts infoU8
  have HS := Lib.hid (psize_any n w hn)
  go_enter Tryz.func136, Tryz.ntmps136
  go_wp2_with (first
    | (at_make; refine wpList_make_own _ rfl _ _ 34 rfl w.heap.size 5 i0 (.int .u8 0) 1 Tryz.underlying34 hi hz0 hz1 _ _ _ _ rfl rfl rfl (by rw [hz2]; omega) (by unfold maxLen; omega) (Nat.le_refl _) ?_)
    | (go_at_call 187; refine HS.out.mono ?_; rintro e' w1 ⟨⟨k, hk, rfl⟩, hw⟩; obtain rfl := hw.symm))
  intro w1 hown hgrow
  have HO := Lib.hid hown
  have HB : Hid (Below w.heap.size w w1) := Lib.hid ⟨hgrow.os, hgrow.tape, hgrow.output, hgrow.size, fun j hj => hgrow.block j hj (by simp)⟩
  clear hown hgrow HS
  go_wp2_with fail
  go_loopw [0, 3] (fun u v wr => ∃ (m f : Nat) (acc : List UInt8), u = .int .u64 m ∧ m < 2 ^ (7 * f + 1) ∧ acc.length + f = 9 ∧ Hid (wr.ownsRow w.heap.size 5 1 v acc.length (acc.map encB)) ∧ Hid (Below w.heap.size w wr) ∧ Hid (putL n = acc ++ putF (f + 1) m)) (fun u _ _ => (intOf u).toNat)
  case atStart => exact ⟨n, 9, [], rfl, hn, rfl, HO, HB, Lib.hid rfl⟩
  case round =>
    obtain ⟨m, f, acc, rfl, hm, hf, HO, HB, HP⟩ := hrel
    have hsz := HB.out.size
    by_cases hbig : 128 ≤ m
    · cases f with
      | zero => simp at hm; omega
      | succ f =>
        have hc : (m % 128 + 128).toUInt8.toNat = m % 128 + 128 := by simp; omega
        have HP2 : Hid (putL n = (acc ++ [(m % 128 + 128).toUInt8]) ++ putF (f + 1) (m / 128)) := Lib.hid (by rw [HP.out, putF_big (by omega), List.append_assoc]; rfl)
        have hm2 : m / 128 < 2 ^ (7 * f + 1) := by
          rw [show 7 * (f + 1) + 1 = 7 + (7 * f + 1) by omega, Nat.pow_add] at hm
          omega
        have HM2 := Lib.hid hm2
        have e1 : bits .or .u8 ((m : Int) % 256) 128 = (((m % 128 + 128).toUInt8.toNat : Nat) : Int) := by rw [← wrap8, or128, hc]
        have hbig' : (128 : Int) ≤ (m : Int) := by omega
        have hlen : (acc ++ [(m % 128 + 128).toUInt8]).length = acc.length + 1 := by simp
        have HLEN := Lib.hid hlen
        generalize (m % 128 + 128).toUInt8 = x at *
        have hown2 : (wr.alloc (.cells #[.int .u8 x.toNat] 5)).ownsRow w.heap.size 5 1 u3 acc.length (acc.map encB) := HO.out.alloc _
        clear hc hm hlen
        have hacc : acc.length ≤ 9 := by omega
        have hd : ((m : Int) / 128) = ((m / 128 : Nat) : Int) := by omega
        have HMS : Hid (m / 128 < m) := Lib.hid (by omega)
        generalize hq : m / 128 = q at *
        clear hq
        go_wp2_with (at_builtin; refine wpList_append_own _ rfl _ _ 34 rfl w.heap.size 5 i0 (.int .u8 0) 1 1 Tryz.underlying34 hi hz0 hz1 hz2 rfl (by decide) _ _ _ rfl hown2 ⟨wr.heap.size, 0, none⟩ 1 1 [.int .u8 x.toNat] rfl rfl (fun j u hj => by rw [add0]; exact row_new wr [.int .u8 x.toNat] 5 j u hj) (fun u hu => by simp at hu; subst hu; rfl) (by unfold maxLen; omega) (by omega) (by simp; omega) ?_)
        intro v' w2 hown' hgrow _
        have HO2 : Hid (w2.ownsRow w.heap.size 5 1 v' (acc ++ [x]).length ((acc ++ [x]).map encB)) := Lib.hid (by rw [HLEN.out, List.map_append]; exact hown')
        have HB2 : Hid (Below w.heap.size w w2) := Lib.hid ((HB.out.alloc hsz _).grown hgrow (by simp; omega) (fun g hg => (hown2.lt g hg).1))
        clear hown' hgrow hown2
        go_wp2_with fail
        go_roundw
        case rel => exact ⟨q, f, acc ++ [x], by first | rfl | (rw [hd]) | simp, HM2.out, by rw [HLEN.out]; omega, HO2, HB2, HP2⟩
        case measure =>
          have := HMS.out
          simp [intOf]
          omega
    · have hs : m < 128 := by omega
      have hbig' : ¬ (128 : Int) ≤ (m : Int) := by omega
      have hc : m.toUInt8.toNat = m := by simp; omega
      have HP2 : Hid (putL n = acc ++ [m.toUInt8]) := Lib.hid (by rw [HP.out, putF_small hs])
      have HC := Lib.hid hc
      have hlen : (acc ++ [m.toUInt8]).length = acc.length + 1 := by simp
      have HLEN := Lib.hid hlen
      generalize m.toUInt8 = x at *
      have hown2 : (wr.alloc (.cells #[.int .u8 m] 5)).ownsRow w.heap.size 5 1 u3 acc.length (acc.map encB) := HO.out.alloc _
      clear hc hlen
      have hacc : acc.length ≤ 9 := by omega
      go_wp2_with (at_builtin; refine wpList_append_own _ rfl _ _ 34 rfl w.heap.size 5 i0 (.int .u8 0) 1 1 Tryz.underlying34 hi hz0 hz1 hz2 rfl (by decide) _ _ _ rfl hown2 ⟨wr.heap.size, 0, none⟩ 1 1 [.int .u8 m] rfl rfl (fun j u hj => by rw [add0]; exact row_new wr [.int .u8 m] 5 j u hj) (fun u hu => by simp at hu; subst hu; rfl) (by unfold maxLen; omega) (by omega) (by simp; omega) ?_)
      intro v' w2 hown' hgrow _
      have HO2 : Hid (w2.ownsRow w.heap.size 5 1 v' (acc ++ [x]).length ((acc ++ [x]).map encB)) := Lib.hid (by rw [HLEN.out, List.map_append, show [x].map encB = [.int .u8 m] by simp [encB, HC.out]]; exact hown')
      have HB2 : Hid (Below w.heap.size w w2) := Lib.hid ((HB.out.alloc hsz _).grown hgrow (by simp; omega) (fun g hg => (hown2.lt g hg).1))
      clear hown' hgrow hown2
      obtain ⟨A', c', hv⟩ := own_isSliceE HO2.out
      subst hv
      go_wp2_with fail
      go_ret
      rw [HP2.out]
      exact ⟨A', c', rfl, HO2.out, HB2.out⟩
end Go.Proofs.YtbnljlpefpllcaaGreatDoor
namespace Go.Proofs.YtbnljlpefpllcaaGreatDoor
open Go Go.RowKit
def isLet (c : UInt8) : Bool := decide (97 ≤ c.toNat ∧ c.toNat ≤ 122) || decide (65 ≤ c.toNat ∧ c.toNat ≤ 90) || decide (c.toNat = 95)
def isDig (c : UInt8) : Bool := decide (48 ≤ c.toNat ∧ c.toNat ≤ 57)
def identL : List UInt8 → Bool
  | [] => false
  | c :: r => isLet c && r.all (fun c => isLet c || isDig c) && decide (r.length ≤ 254)
def isIdent (s : ByteArray) : Bool := identL s.data.toList
def memN (s : ByteArray) (l : List ByteArray) : Bool := l.any (fun x => decide (x = s))
theorem memN_iff {s : ByteArray} {l : List ByteArray} : memN s l = true ↔ s ∈ l := by
  simp only [memN, List.any_eq_true, decide_eq_true_eq]
  exact ⟨fun ⟨x, h, e⟩ => e ▸ h, fun h => ⟨s, h, rfl⟩⟩
/-- Distinct identifiers. -/
def namesE : List ByteArray → List ByteArray → Int
  | _, [] => 0
  | seen, s :: r => if isIdent s = false then 12 else if memN s seen = true then 21 else namesE (s :: seen) r
def namesC (l : List ByteArray) : Int := if 65535 < l.length then 15 else namesE [] l
def pairE (n : Int) (q : Option (Int × Int)) (p : Int × Int) : Int :=
  if p.1 < 0 ∨ p.2 < 0 ∨ n ≤ p.1 ∨ n ≤ p.2 then 3 else if p.1 = p.2 then 2 else
    match q with
    | none => 0
    | some q => if p.1 < q.1 ∨ (p.1 = q.1 ∧ p.2 ≤ q.2) then 21 else 0
def pairsE (n : Int) : Option (Int × Int) → List (Int × Int) → Int
  | _, [] => 0
  | q, p :: r => if pairE n q p = 0 then pairsE n (some p) r else pairE n q p
def pairsC (n : Int) (l : List (Int × Int)) : Int := if 65535 < l.length then 15 else pairsE n none l
/-- The greatest depth of earlier types, where all of them are there. -/
def depF (d : List Int) : Int → List Int → Option Int
  | a, [] => some a
  | a, i :: r => if i < 0 then none else match d[i.toNat]? with
    | none => none
    | some x => depF d (max a x) r
/-- Checks the next type: the error, its depth. -/
def tyE (prev : List Ty) (d : List Int) (n : Int) (t : Ty) : Int × Int :=
  if t.kind < 0 ∨ 4 < t.kind then (14, 0)
  else if (t.kind ≠ 3 ∧ (t.mu = true ∨ t.reg ≠ 0 ∨ t.elem ≠ 0)) ∨ (t.kind ≠ 4 ∧ 0 < t.flds.length) then (2, 0)
  else if t.kind = 3 ∧ (t.reg < 0 ∨ n ≤ t.reg) then (3, 0)
  else match depF d 0 (if t.kind = 3 then [t.elem] else t.flds) with
    | none => (3, 0)
    | some k =>
      if t.kind = 4 ∧ (t.flds.length = 0 ∨ 65535 < t.flds.length) then (15, 0)
      else if 32 ≤ k then (19, 0)
      else if t ∈ prev then (21, 0)
      else (0, k + 1)
def typesE (n : Int) : List Ty → List Int → List Ty → Int
  | _, _, [] => 0
  | prev, d, t :: r => if (tyE prev d n t).1 = 0 then typesE n (prev ++ [t]) (d ++ [(tyE prev d n t).2]) r else (tyE prev d n t).1
def typesC (n : Int) (l : List Ty) : Int := if 65535 < l.length then 15 else typesE n [] [] l
def localsE (nt : Nat) : List ByteArray → List Lc → Int
  | _, [] => 0
  | seen, x :: r => if isIdent x.name = false then 12 else if memN x.name seen = true then 21 else if x.type < 0 ∨ (nt : Int) ≤ x.type then 3 else localsE nt (x.name :: seen) r
def localsC (b : Bdy) : Int :=
  if 65535 < b.locals.length then 15 else
    if localsE b.types.length [] b.locals = 0 then (if b.args < 0 ∨ (b.locals.length : Int) < b.args then 3 else 0) else localsE b.types.length [] b.locals
def firstE : List Int → Int
  | [] => 0
  | e :: r => if e = 0 then firstE r else e
def declC (b : Bdy) : Int :=
  if isIdent b.name = false then 12
  else if firstE [namesC b.regions, pairsC b.regions.length b.outl, typesC b.regions.length b.types, localsC b] = 0 then
    (if b.blocks.length = 0 ∨ 65535 < b.blocks.length then 15 else 0)
  else firstE [namesC b.regions, pairsC b.regions.length b.outl, typesC b.regions.length b.types, localsC b]
def zeroP (p : Plc) : Bool := decide (p.loc = 0) && decide (p.proj.length = 0)
def fail22 (b : Bool) : Int := if b = true then 22 else 0
/-- May the values of a type be copied (n: how far it is looked into). -/
def copF (ts : List Ty) : Nat → Int → Bool
  | 0, _ => false
  | n + 1, i => if i < 0 then false else match ts[i.toNat]? with
    | none => false
    | some t => if t.kind = 3 then !t.mu else t.flds.all (copF ts n)
def copB (ts : List Ty) (i : Int) : Bool := copF ts (i.toNat + 1) i
/-- The regions that are reached, by extending a list of them from its number i on. -/
def nextR (pairs : List (Int × Int)) (x : Int) : List Int → List Int
  | set => pairs.foldl (fun s p => if p.1 = x ∧ p.2 ∉ s then s ++ [p.2] else s) set
def outF (pairs : List (Int × Int)) (b : Int) : Nat → List Int → Nat → Bool
  | 0, _, _ => false
  | f + 1, set, i => match set[i]? with
    | none => false
    | some x => if x = b then true else outF pairs b f (nextR pairs x set) (i + 1)
def outB (pairs : List (Int × Int)) (n : Int) (a b : Int) : Bool :=
  if a < 0 ∨ n ≤ a ∨ b < 0 ∨ n ≤ b then false else outF pairs b (n.toNat + 1) [a] 0
/-- Is a type a subtype of another one (f: how far they are looked into). -/
def subF (pairs : List (Int × Int)) (n : Int) (ts : List Ty) : Nat → Int → Int → Bool
  | 0, _, _ => false
  | f + 1, s, t => if s < 0 ∨ t < 0 then false else match ts[s.toNat]?, ts[t.toNat]? with
    | some a, some b =>
      decide (a.kind = b.kind) && decide (a.mu = b.mu) && decide (a.flds.length = b.flds.length) && (a.flds.zip b.flds).all (fun p => subF pairs n ts f p.1 p.2) &&
        (decide (a.kind ≠ 3) || (outB pairs n a.reg b.reg && subF pairs n ts f a.elem b.elem && (!a.mu || subF pairs n ts f b.elem a.elem)))
    | _, _ => false
def subB (b : Bdy) (s t : Int) : Bool := subF b.outl b.regions.length b.types (s.toNat + t.toNat + 1) s t
def tyB (b : Bdy) (p : Plc) : Int × Int := tyOf b.types b.locals p.loc p.proj
def mutB (b : Bdy) (p : Plc) : Bool := (refsOf b.types b.locals p.loc p.proj).2 && !(refsOf b.types b.locals p.loc p.proj).1.any notMu
def kindT (b : Bdy) (i : Int) : Int := ((b.types[i.toNat]?).map (·.kind)).getD 0
def opE (b : Bdy) (o : Opd) : Int :=
  if o.kind < 0 ∨ 4 < o.kind then 14
  else if (o.kind ≠ 2 ∧ o.kind ≠ 3 ∧ o.n ≠ 0) ∨ (1 < o.kind ∧ zeroP o.place = false) then 2
  else if o.kind = 3 ∧ o.n ≠ 0 ∧ o.n ≠ 1 then 3
  else if 1 < o.kind then 0
  else if (tyB b o.place).2 ≠ 0 then (tyB b o.place).2
  else if o.kind = 0 then fail22 (!copB b.types (tyB b o.place).1) else fail22 (hasD o.place.proj 0)
def kindO (b : Bdy) (o : Opd) : Int :=
  if o.kind = 2 then 2 else if o.kind = 3 then 1 else if o.kind = 4 then 0 else kindT b (tyB b o.place).1
def fitsO (b : Bdy) (o : Opd) (t : Int) : Bool :=
  if o.kind ≠ 0 ∧ o.kind ≠ 1 then decide (kindO b o = kindT b t) else subB b (tyB b o.place).1 t
def opsE (b : Bdy) : List Opd → List Int → Int
  | [], _ => 0
  | o :: r, [] => if opE b o = 0 then opsE b r [] else opE b o
  | o :: r, f :: fs => if opE b o = 0 then (if fitsO b o f = true then opsE b r fs else 22) else opE b o
def unusedR (r : Rvl) : Bool :=
  let plain := decide (r.reg = 0) && !r.mu && zeroP r.place
  if r.kind = 0 then plain && decide (r.op = 0) && decide (r.args.length = 1)
  else if r.kind = 1 then decide (r.op = 0) && decide (r.args.length = 0)
  else if r.kind = 2 then plain && decide (r.args.length = 1)
  else if r.kind = 3 then plain && decide (r.args.length = 2)
  else plain && decide (r.op = 0)
def unaryT : List (Int × Int) := [(2, 2), (1, 1)]
def binaryT : List (Int × Int) := [(2, 2), (2, 2), (2, 2), (2, 1), (2, 1), (1, 1)]
def operE (b : Bdy) (r : Rvl) (t : Int) (tab : List (Int × Int)) : Int :=
  if r.op < 0 ∨ (tab.length : Int) ≤ r.op then 14
  else if opsE b r.args [] ≠ 0 then opsE b r.args []
  else match tab[r.op.toNat]? with
    | none => 0
    | some x => if r.args.all (fun o => decide (kindO b o = x.1)) = true then fail22 (decide (kindT b t ≠ x.2)) else 22
def borE (b : Bdy) (r : Rvl) (t : Int) : Int :=
  if (tyB b r.place).2 ≠ 0 then (tyB b r.place).2
  else if r.reg < 0 ∨ (b.regions.length : Int) ≤ r.reg then 3
  else match b.types[t.toNat]? with
    | none => 0
    | some x =>
      if x.kind ≠ 3 ∨ x.reg ≠ r.reg ∨ x.mu ≠ r.mu ∨ x.elem ≠ (tyB b r.place).1 then 22
      else if r.mu = true ∧ mutB b r.place = false then 22
      else if (refsOf b.types b.locals r.place.loc r.place.proj).1.all (fun q => outB b.outl b.regions.length q.reg r.reg) = true then 0 else 22
def rvE (b : Bdy) (r : Rvl) (t : Int) : Int :=
  if r.kind < 0 ∨ 4 < r.kind then 14
  else if unusedR r = false then 2
  else if r.kind = 0 then opsE b r.args [t]
  else if r.kind = 1 then borE b r t
  else if r.kind = 2 then operE b r t unaryT
  else if r.kind = 3 then operE b r t binaryT
  else match b.types[t.toNat]? with
    | none => 0
    | some x => if x.kind ≠ 4 ∨ x.flds.length ≠ r.args.length then 22 else opsE b r.args x.flds
def writE (b : Bdy) (p : Plc) : Int := if (tyB b p).2 ≠ 0 then (tyB b p).2 else fail22 (!mutB b p)
def blankR (r : Rvl) : Bool := decide (r.kind = 0) && decide (r.op = 0) && decide (r.args.length = 0) && decide (r.reg = 0) && !r.mu && zeroP r.place
def stE (b : Bdy) (s : Stm) : Int :=
  if s.kind = 0 then
    (if s.loc ≠ 0 then 2 else if writE b s.place ≠ 0 then writE b s.place else rvE b s.rv (tyB b s.place).1)
  else if s.kind = 1 then
    (if zeroP s.place = false ∨ blankR s.rv = false then 2 else if s.loc < 0 ∨ (b.locals.length : Int) ≤ s.loc then 3 else 0)
  else if s.kind = 2 then
    (if zeroP s.place = false ∨ blankR s.rv = false ∨ s.loc ≠ 0 then 2 else 0)
  else 14
def fieldsT (t : Trm) : Bool :=
  if t.kind = 0 then decide (t.targets.length = 1) && decide (t.args.length = 0) && zeroP t.place && decide (t.name.size = 0)
  else if t.kind = 1 then decide (t.targets.length = 2) && decide (t.args.length = 1) && zeroP t.place && decide (t.name.size = 0)
  else if t.kind = 3 then decide (t.targets.length = 1)
  else if t.kind = 4 then decide (t.targets.length = 1) && decide (t.args.length = 0) && decide (t.name.size = 0)
  else decide (t.targets.length = 0) && decide (t.args.length = 0) && zeroP t.place && decide (t.name.size = 0)
def tmE (b : Bdy) (t : Trm) : Int :=
  if t.kind < 0 ∨ 5 < t.kind then 14
  else if fieldsT t = false then 2
  else if t.targets.all (fun k => decide (0 ≤ k ∧ k < (b.blocks.length : Int))) = false then 3
  else if t.kind = 1 then
    (match t.args with
      | [] => 0
      | o :: _ => if opE b o ≠ 0 then opE b o else fail22 (decide (kindO b o ≠ 1)))
  else if t.kind = 3 then
    (if isIdent t.name = false then 12 else if 65535 < t.args.length then 15 else if opsE b t.args [] ≠ 0 then opsE b t.args [] else writE b t.place)
  else if t.kind = 4 then
    (if (tyB b t.place).2 ≠ 0 then (tyB b t.place).2 else fail22 (hasD t.place.proj 0))
  else 0
def stsE (b : Bdy) : List Stm → Int
  | [] => 0
  | s :: r => if stE b s = 0 then stsE b r else stE b s
def bkE (b : Bdy) (x : Blk) : Int :=
  if 65535 < x.stmts.length then 15 else if stsE b x.stmts ≠ 0 then stsE b x.stmts else tmE b x.term
def bksE (b : Bdy) : List Blk → Int
  | [] => 0
  | x :: r => if bkE b x = 0 then bksE b r else bkE b x
/-- What the checker answers. -/
def chkB (b : Bdy) : Int := if declC b = 0 then bksE b b.blocks else declC b
end Go.Proofs.YtbnljlpefpllcaaGreatDoor
namespace Go.Proofs.YtbnljlpefpllcaaGreatDoor
open Go Go.RowKit Go.Shelf
theorem byte_back (c : UInt8) : (c.toNat : Int).toNat.toUInt8 = c := by simp
theorem drop_at (s : ByteArray) (k : Nat) (h : k < s.size) : s.data.toList.drop k = s[k] :: s.data.toList.drop (k + 1) := by
  rw [List.drop_eq_getElem_cons (by simpa using h)]
  rfl
theorem drop_end (s : ByteArray) (k : Nat) (h : s.size ≤ k) : s.data.toList.drop k = [] := List.drop_eq_nil_of_le (by simpa using h)
theorem len_list (s : ByteArray) : s.data.toList.length = s.size := by simp
theorem set_any (b : Nat) (x : UInt8) (v : Bool) (w : World) (hc : w.cell? ⟨b, x.toNat, none⟩ = some (.bool v)) :
    Calls Tryz.prog 195 #[.pointer (some ⟨b, 0, none⟩), .int .u8 x.toNat] w fun e w' => e = .returned (.bool v) ∧ w' = w := Tryz.asciiSet_contains b x v w hc
theorem dw_cons {p : UInt8 → Bool} {c : UInt8} {r : List UInt8} (h : p c = true) : (c :: r).dropWhile p = r.dropWhile p := by simp [h]
theorem dw_stop {p : UInt8 → Bool} {c : UInt8} {r : List UInt8} (h : p c = false) : (c :: r).dropWhile p = c :: r := by simp [h]
set_option maxRecDepth 100000 in
set_option maxHeartbeats 4000000 in
theorem trimL_any (s : ByteArray) (b : Nat) (p : UInt8 → Bool) (w : World) (hset : ∀ x : UInt8, w.cell? ⟨b, x.toNat, none⟩ = some (.bool (p x))) :
    Calls Tryz.prog 157 #[.string s, .pointer (some ⟨b, 0, none⟩)] w fun e w' => (∃ t, e = .returned (.string t) ∧ t.data.toList = s.data.toList.dropWhile p) ∧ w' = w := by
  have HS := Lib.hid hset
  clear hset
  go_enter Tryz.func157, Tryz.ntmps157
  go_wp2_with fail
  go_loop [0] (fun v => ∃ t : ByteArray, v = .string t ∧ t.size ≤ s.size ∧ Hid (s.data.toList.dropWhile p = t.data.toList.dropWhile p)) (fun v => Lib.strSize v)
  case atStart => exact ⟨s, rfl, Nat.le_refl _, Lib.hid rfl⟩
  case round =>
    obtain ⟨t, rfl, hle, hp⟩ := hrel
    by_cases h0 : 0 < t.size
    · have hd := drop_at t 0 h0
      rw [List.drop_zero] at hd
      have hcx := HS.out t[0]
      cases hin : p t[0]
      · rw [hin] at hcx
        have HA := Lib.hid (set_any b t[0] false w hcx)
        have HF : Hid (t.data.toList = s.data.toList.dropWhile p) := Lib.hid (by rw [hp.out, hd, dw_stop hin])
        clear hd hcx hin hp
        go_wp2_with (go_at_call 195; refine HA.out.mono ?_; rintro e w' ⟨rfl, hw⟩; obtain rfl := hw.symm)
        go_ret
        exact ⟨⟨t, rfl, HF.out⟩, rfl⟩
      · rw [hin] at hcx
        have HA := Lib.hid (set_any b t[0] true w hcx)
        have HF : Hid (s.data.toList.dropWhile p = (t.extract 1 t.size).data.toList.dropWhile p) := Lib.hid (by rw [hp.out, hd, dw_cons hin, Lib.extract_to_end])
        clear hd hcx hin hp
        go_wp2_with (go_at_call 195; refine HA.out.mono ?_; rintro e w' ⟨rfl, hw⟩; obtain rfl := hw.symm)
        go_round
        case rel => exact ⟨t.extract 1 t.size, rfl, by simp; omega, HF⟩
        case measure => rw [Lib.strSize_string, Lib.strSize_string]; simp; omega
    · have h00 : t.size = 0 := by omega
      have hnil : t.data.toList = [] := List.eq_nil_of_length_eq_zero (by rw [len_list]; omega)
      have HF : Hid (t.data.toList = s.data.toList.dropWhile p) := Lib.hid (by rw [hp.out, hnil]; rfl)
      clear hnil hp h0
      go_wp2_with fail
      go_ret
      exact ⟨⟨t, rfl, HF.out⟩, rfl⟩
/-- What is left where the end is cut off. -/
structure trimRP (s t : ByteArray) (p : UInt8 → Bool) : Prop where
  one : t.data.toList.all p = true → t.size = 0
  two : t.size = 0 → s.data.toList.all p = true
  three : s.data.toList.all p = true → t.data.toList.all p = true
set_option maxRecDepth 100000 in
set_option maxHeartbeats 4000000 in
theorem trimR_any (s : ByteArray) (b : Nat) (p : UInt8 → Bool) (w : World) (hs : s.size ≤ 9223372036854775807) (hset : ∀ x : UInt8, w.cell? ⟨b, x.toNat, none⟩ = some (.bool (p x))) :
    Calls Tryz.prog 158 #[.string s, .pointer (some ⟨b, 0, none⟩)] w fun e w' => (∃ t, e = .returned (.string t) ∧ trimRP s t p) ∧ w' = w := by
  have HS := Lib.hid hset
  clear hset
  go_enter Tryz.func158, Tryz.ntmps158
  go_wp2_with fail
  go_loop [0] (fun v => ∃ t : ByteArray, v = .string t ∧ t.size ≤ s.size ∧ Hid (s.data.toList.all p = t.data.toList.all p)) (fun v => Lib.strSize v)
  case atStart => exact ⟨s, rfl, Nat.le_refl _, Lib.hid rfl⟩
  case round =>
    obtain ⟨t, rfl, hle, hp⟩ := hrel
    by_cases h0 : 0 < t.size
    · have hk : t.size - 1 < t.size := by omega
      have hd : t.data.toList = (t.extract 0 (t.size - 1)).data.toList ++ [t[t.size - 1]] := by
        have h1 := drop_at t (t.size - 1) hk
        rw [show t.size - 1 + 1 = t.size by omega, drop_end t t.size (Nat.le_refl _)] at h1
        rw [← h1, Lib.extract_data, List.drop_zero, Nat.sub_zero, List.take_append_drop]
      have hcx := HS.out t[t.size - 1]
      have hw1 : ((t.size : Int) - 1) = ((t.size - 1 : Nat) : Int) := by omega
      cases hin : p t[t.size - 1]
      · rw [hin] at hcx
        have HA := Lib.hid (set_any b t[t.size - 1] false w hcx)
        have HF : Hid (t.data.toList.all p = false) := Lib.hid (by rw [hd]; simp [hin])
        clear hd hcx hin
        go_wp2_with (go_at_call 195; refine HA.out.mono ?_; rintro e w' ⟨rfl, hw⟩; obtain rfl := hw.symm)
        go_ret
        refine ⟨⟨t, rfl, fun h => ?_, fun h => by omega, fun h => by rw [← hp.out]; exact h⟩, rfl⟩
        rw [HF.out] at h
        cases h
      · rw [hin] at hcx
        have HA := Lib.hid (set_any b t[t.size - 1] true w hcx)
        have HF : Hid (s.data.toList.all p = (t.extract 0 (t.size - 1)).data.toList.all p) := Lib.hid (by rw [hp.out, hd, List.all_append, List.all_cons, hin]; simp)
        clear hd hcx hin hp
        go_wp2_with (go_at_call 195; refine HA.out.mono ?_; rintro e w' ⟨rfl, hw⟩; obtain rfl := hw.symm)
        go_round
        case rel => exact ⟨t.extract 0 (t.size - 1), rfl, by simp; omega, HF⟩
        case measure => rw [Lib.strSize_string, Lib.strSize_string]; simp; omega
    · have h00 : t.size = 0 := by omega
      have hnil : t.data.toList = [] := List.eq_nil_of_length_eq_zero (by rw [len_list]; omega)
      have HF : Hid (s.data.toList.all p = true ∧ t.data.toList.all p = true) := Lib.hid (by rw [hp.out, hnil]; exact ⟨rfl, rfl⟩)
      clear hnil hp h0
      go_wp2_with fail
      go_ret
      exact ⟨⟨t, rfl, fun _ => h00, fun _ => HF.out.1, fun _ => HF.out.2⟩, rfl⟩
theorem dw_nil {p : UInt8 → Bool} : ∀ {l : List UInt8}, l.dropWhile p = [] → l.all p = true
  | [], _ => rfl
  | c :: r, h => by
    cases hc : p c
    · rw [dw_stop hc] at h; cases h
    · rw [dw_cons hc] at h
      simp only [List.all_cons, hc, dw_nil h, Bool.and_self]
theorem dw_all {p : UInt8 → Bool} : ∀ {l : List UInt8}, l.all p = true → l.dropWhile p = []
  | [], _ => rfl
  | c :: r, h => by
    simp only [List.all_cons, Bool.and_eq_true] at h
    rw [dw_cons h.1, dw_all h.2]
def lettersA : ByteArray := ⟨#[95, 97, 98, 99, 100, 101, 102, 103, 104, 105, 106, 107, 108, 109, 110, 111, 112, 113, 114, 115, 116, 117, 118, 119, 120, 121, 122, 65, 66, 67, 68, 69, 70, 71, 72, 73, 74, 75, 76, 77, 78, 79, 80, 81, 82, 83, 84, 85, 86, 87, 88, 89, 90, 48, 49, 50, 51, 52, 53, 54, 55, 56, 57]⟩
theorem infoSet : (Tryz.prog.info? 218).map (fun i => (i.zero, i.size)) = some (some (.agg (Array.replicate 256 (.bool false))), 256) := by kernel_rfl
theorem zeroSet : ∀ w, (zeroValue 218).run Tryz.prog w = .ok (.agg (Array.replicate 256 (.bool false))) w := fun w => by
  have h := infoSet
  cases hi : Tryz.prog.info? 218 with
  | none => rw [hi] at h; cases h
  | some i =>
    rw [hi] at h
    simp at h
    simp [zeroValue, typeInfo, hi, h.1]
theorem ascii_all {l : List UInt8} (h : l.all (fun c => decide (c.toNat < 128)) = true) : ∀ (j : Nat) b, l[j]? = some b → b.toNat < 128 := fun j b hj => by
  simpa using List.all_eq_true.1 h b (List.mem_of_getElem? hj)
set_option maxRecDepth 100000 in
set_option maxHeartbeats 4000000 in
theorem trim_any (s : ByteArray) (w : World) (h0 : 0 < s.size) (hs : s.size ≤ 9223372036854775807) :
    Calls Tryz.prog 114 #[.string s, .string lettersA] w fun e w' => (∃ t, e = .returned (.string t) ∧ (t.size = 0 ↔ s.data.toList.all (fun c => lettersA.data.toList.contains c) = true)) ∧ Below w.heap.size w w' := by
  have hM := Tryz.strings_makeASCIISet zeroSet lettersA w (by decide) (ascii_all (by decide))
  have hn1 : ((lettersA.size : Int) == 1) = false := by decide
  have hemp : lettersA.toList.isEmpty = false := by rw [Lib.toList_data]; rfl
  have hc0 : 2 ≤ lettersA.size := by decide
  generalize lettersA = cutset at *
  have hemps : s.toList.isEmpty = false := by
    rw [Lib.toList_data]
    cases h : s.data.toList with
    | nil => have := Lib.size_eq s; rw [h, List.length_nil] at this; omega
    | cons _ _ => rfl
  have hsc : (storeCells ⟨w.heap.size + 1, 0, none⟩ (Lib.setCells cutset.data.toList).toList 0).run Tryz.prog ((w.alloc (.cells (Lib.setCells cutset.data.toList) 218)).alloc (.cells (Array.replicate 256 (.bool false)) 218)) = .ok () ((w.alloc (.cells (Lib.setCells cutset.data.toList) 218)).alloc (.cells (Lib.setCells cutset.data.toList) 218)) := by
    have := run_storeCells_new (P := Tryz.prog) (w.alloc (.cells (Lib.setCells cutset.data.toList) 218)) 218 (Array.replicate 256 (.bool false)) (Lib.setCells cutset.data.toList) (by rw [Lib.setCells_size]; kernel_rfl) (by rw [Lib.setCells_size, Array.size_replicate]) (Lib.setCells_one _)
    simpa using this
  have hsz := Lib.setCells_size cutset.data.toList
  have hz : Tryz.zeroCells218 = Array.replicate 256 (.bool false) := by kernel_rfl
  obtain ⟨W, hW⟩ : ∃ W, ((w.alloc (.cells (Lib.setCells cutset.data.toList) 218)).alloc (.cells (Lib.setCells cutset.data.toList) 218)) = W := ⟨_, rfl⟩
  have hcellAt : ∀ x : UInt8, W.cell? ⟨w.heap.size + 1, x.toNat, none⟩ = some (.bool (cutset.data.toList.contains x)) := fun x => by
    rw [← hW, World.cell?_alloc_at _ _ _ _ (by simp), Lib.setCells_at]
  have hB : Below w.heap.size w W := by rw [← hW]; exact ((Below.refl _ _).alloc (Nat.le_refl _) _).alloc (by simp) _
  have HR := Lib.hid (trimR_any s (w.heap.size + 1) (fun c => cutset.data.toList.contains c) W hs hcellAt)
  have HL := Lib.hid (fun t => trimL_any t (w.heap.size + 1) (fun c => cutset.data.toList.contains c) W hcellAt)
  have HB := Lib.hid hB
  clear hcellAt hB hs
  go_enter Tryz.func114, Tryz.ntmps114
  go_wp2_with (first
    | (go_at_call 156; refine hM.mono ?_; rintro e w' ⟨rfl, hw⟩; rw [hw])
    | (go_at_call 158; refine HR.out.mono ?_; rintro e w' ⟨⟨t, rfl, ht⟩, hw⟩; obtain rfl := hw.symm)
    | (go_at_call 157; refine (HL.out _).mono ?_; rintro e w' ⟨⟨u, rfl, hu⟩, hw⟩; obtain rfl := hw.symm))
  go_ret
  refine ⟨⟨u, rfl, ⟨fun h => ?_, fun h => ?_⟩⟩, HB.out⟩
  · have h1 : u.data.toList = [] := List.eq_nil_of_length_eq_zero (by rw [len_list]; exact h)
    exact ht.two (ht.one (dw_nil (hu ▸ h1)))
  · have h1 := dw_all (ht.three h)
    rw [← len_list, hu, h1]
    rfl
/-! ## IsIdent -/
def digitsA : ByteArray := ⟨#[48, 49, 50, 51, 52, 53, 54, 55, 56, 57]⟩
theorem set_word (c : UInt8) : lettersA.data.toList.contains c = (isLet c || isDig c) := by
  have h : ∀ n, n < 256 → lettersA.data.toList.contains (UInt8.ofNat n) = (isLet (UInt8.ofNat n) || isDig (UInt8.ofNat n)) := by decide +kernel
  have := h c.toNat c.toNat_lt
  simpa using this
theorem set_dig (c : UInt8) : digitsA.data.toList.contains c = isDig c := by
  have h : ∀ n, n < 256 → digitsA.data.toList.contains (UInt8.ofNat n) = isDig (UInt8.ofNat n) := by decide +kernel
  have := h c.toNat c.toNat_lt
  simpa using this
theorem let_dig (c : UInt8) : isLet c = true → isDig c = false := by
  intro h
  simp only [isLet, isDig, Bool.or_eq_true, decide_eq_true_eq, decide_eq_false_iff_not] at *
  omega
theorem ident_eq (l : List UInt8) : identL l = (decide (1 ≤ l.length) && decide (l.length ≤ 255) && !(l.head?.any isDig) && l.all (fun c => isLet c || isDig c)) := by
  cases l with
  | nil => rfl
  | cons c r =>
    have := let_dig c
    simp only [identL, List.length_cons, List.head?_cons, Option.any_some, List.all_cons]
    cases h1 : isLet c <;> cases h2 : isDig c <;> simp_all [Bool.and_comm]
theorem index_of_mem (c : UInt8) : ∀ l : List UInt8, (0 ≤ Lib.indexByte l c ∧ l.contains c = true) ∨ (Lib.indexByte l c = -1 ∧ l.contains c = false)
  | [] => Or.inr ⟨rfl, rfl⟩
  | b :: l => by
    unfold Lib.indexByte
    by_cases hb : b = c
    · subst hb
      exact Or.inl ⟨by simp, by simp⟩
    · have hb2 : (b == c) = false := by simpa using hb
      have hb3 : (c == b) = false := by simpa using fun h => hb h.symm
      rw [hb2, List.contains_cons, hb3]
      rcases index_of_mem c l with ⟨h1, h2⟩ | ⟨h1, h2⟩
      · refine Or.inl ⟨?_, by simpa using h2⟩
        have : (Lib.indexByte l c == -1) = false := by simp; omega
        rw [this]
        simp
        omega
      · refine Or.inr ⟨?_, by simpa using h2⟩
        rw [h1]
        rfl
theorem ident_nil {s : ByteArray} (h : s.size = 0) : isIdent s = false := by
  have : s.data.toList = [] := List.eq_nil_of_length_eq_zero (by rw [len_list]; exact h)
  unfold isIdent
  rw [this]
  rfl
set_option maxRecDepth 100000 in
set_option maxHeartbeats 4000000 in
theorem isIdent_any (s : ByteArray) (w : World) :
    Calls Tryz.prog 68 #[.string s] w fun e w' => e = .returned (.bool (isIdent s)) ∧ Below w.heap.size w w' := by
  by_cases h0 : s.size = 0
  · have HI := Lib.hid (ident_nil h0)
    have hemp : s.toList.isEmpty = true := by
      rw [Lib.toList_data, show s.data.toList = [] from List.eq_nil_of_length_eq_zero (by rw [len_list]; exact h0)]; rfl
    go_enter Tryz.func68, Tryz.ntmps68
    go_wp2_with fail
    go_ret
    exact ⟨by rw [HI.out]; rfl, Below.refl _ _⟩
  · have hd := drop_at s 0 (by omega)
    obtain ⟨c, hc⟩ : ∃ c, s[0]'(by omega) = c := ⟨_, rfl⟩
    rw [List.drop_zero, hc] at hd
    have hlen := len_list s
    have hemp : s.toList.isEmpty = false := by
      rw [Lib.toList_data, hd]; rfl
    have HI : Hid (isIdent s = (decide (1 ≤ s.size) && decide (s.size ≤ 255) && !(isDig c) && s.data.toList.all (fun c => lettersA.data.toList.contains c))) := Lib.hid (by
      unfold isIdent
      rw [ident_eq, hlen, hd]
      simp only [List.head?_cons, Option.any_some, set_word])
    have hx := index_of_mem c digitsA.data.toList
    rw [set_dig] at hx
    have hib := Tryz.strings_IndexByte digitsA c.toNat w
    rw [byte_back] at hib
    generalize Lib.indexByte digitsA.data.toList c = j at hx hib
    have HIB := Lib.hid hib
    obtain ⟨dg, hdg⟩ : ∃ dg, isDig c = dg := ⟨_, rfl⟩
    rw [hdg] at hx HI
    clear hd hdg hlen hib
    by_cases h1 : s.size ≤ 255
    · have HT := Lib.hid (trim_any s w (by omega) (by omega))
      rcases hx with ⟨hj, rfl⟩ | ⟨rfl, rfl⟩
      · go_enter Tryz.func68, Tryz.ntmps68
        go_wp2_with (go_at_call 113; refine HIB.out.mono ?_; rintro e' w' ⟨rfl, hw'⟩; obtain rfl := hw'.symm)
        go_ret
        exact ⟨by rw [HI.out]; simp, Below.refl _ _⟩
      · go_enter Tryz.func68, Tryz.ntmps68
        go_wp2_with (first
          | (go_at_call 113; refine HIB.out.mono ?_; rintro e' w' ⟨rfl, hw'⟩; obtain rfl := hw'.symm)
          | (go_at_call 114; refine HT.out.mono ?_; rintro e' w1 ⟨⟨t, rfl, ht⟩, hb1⟩))
        go_ret
        refine ⟨?_, hb1⟩
        have he : t.toList.isEmpty = s.data.toList.all (fun c => lettersA.data.toList.contains c) := by
          rw [Bool.eq_iff_iff, ← ht, Lib.toList_data, List.isEmpty_iff, ← List.length_eq_zero_iff, len_list]
        rw [HI.out, ← he]
        simp [h1]
        omega
    · go_enter Tryz.func68, Tryz.ntmps68
      go_wp2_with fail
      go_ret
      exact ⟨by rw [HI.out]; simp [h1], Below.refl _ _⟩
theorem let_num (c : UInt8) : isLet c = ((decide (97 ≤ (c.toNat : Int)) && decide ((c.toNat : Int) ≤ 122)) || (decide (65 ≤ (c.toNat : Int)) && decide ((c.toNat : Int) ≤ 90)) || decide ((c.toNat : Int) = 95)) := by
  rw [Bool.eq_iff_iff]
  simp only [isLet, Bool.or_eq_true, Bool.and_eq_true, decide_eq_true_eq]
  omega
/-- May c stand at place k of an identifier. -/
def okAt (k : Nat) (c : UInt8) : Bool := isLet c || (decide (k ≠ 0) && isDig c)
def okFrom : Nat → List UInt8 → Bool
  | _, [] => true
  | k, c :: r => okAt k c && okFrom (k + 1) r
theorem okFrom_succ : ∀ (l : List UInt8) (k : Nat), okFrom (k + 1) l = l.all (fun c => isLet c || isDig c)
  | [], _ => rfl
  | c :: r, k => by simp [okFrom, okAt, okFrom_succ r]
theorem ident_from (l : List UInt8) : identL l = (okFrom 0 l && (decide (1 ≤ l.length) && decide (l.length ≤ 255))) := by
  cases l with
  | nil => rfl
  | cons c r =>
    simp only [identL, okFrom, okFrom_succ, okAt, List.length_cons]
    rw [Bool.eq_iff_iff]
    simp only [Bool.and_eq_true, Bool.or_eq_true, decide_eq_true_eq]
    constructor
    · rintro ⟨⟨h1, h2⟩, h3⟩
      exact ⟨⟨.inl h1, h2⟩, by omega, by omega⟩
    · rintro ⟨⟨h1, h2⟩, h3⟩
      exact ⟨⟨h1.resolve_right (by simp), h2⟩, by omega⟩
set_option maxRecDepth 100000 in
set_option maxHeartbeats 4000000 in
theorem rident_any (s : ByteArray) (w : World) (hs : s.size ≤ 9223372036854775807) :
    Calls Tryz.prog 67 #[.string s] w fun e w' => e = .returned (.bool (isIdent s)) ∧ w' = w := by
  obtain ⟨R, hR⟩ : ∃ R, okFrom 0 s.data.toList = R := ⟨_, rfl⟩
  have HR : Hid (isIdent s = (R && (decide (1 ≤ s.size) && decide (s.size ≤ 255)))) := Lib.hid (by unfold isIdent; rw [ident_from, hR, len_list])
  generalize isIdent s = q at HR ⊢
  have HR0 := Lib.hid hR
  clear hR
  go_enter Tryz.func67, Tryz.ntmps67
  go_wp2_with fail
  go_loop [3] (fun v => ∃ k : Nat, k ≤ s.size ∧ v = .int .i64 k ∧ Hid (R = okFrom k (s.data.toList.drop k))) (fun v => s.size - (intOf v).toNat)
  case atStart => exact ⟨0, Nat.zero_le _, rfl, Lib.hid HR0.out.symm⟩
  case round =>
    obtain ⟨k, hk, rfl, hr⟩ := hrel
    by_cases hlt : k < s.size
    · have hd := drop_at s k hlt
      obtain ⟨c, hc⟩ : ∃ c, s[k] = c := ⟨_, rfl⟩
      rw [hc] at hd
      have hcb : c.toNat < 256 := c.toNat_lt
      obtain ⟨y, hy⟩ : ∃ y, c.toNat = y := ⟨_, rfl⟩
      have HOK : Hid (okAt k c = ((decide (97 ≤ (y : Int)) && decide ((y : Int) ≤ 122)) || (decide (65 ≤ (y : Int)) && decide ((y : Int) ≤ 90)) || decide ((y : Int) = 95) || (decide (k ≠ 0) && (decide (48 ≤ (y : Int)) && decide ((y : Int) ≤ 57))))) := Lib.hid (by
        rw [← hy]
        unfold okAt
        rw [let_num, show isDig c = (decide (48 ≤ (c.toNat : Int)) && decide ((c.toNat : Int) ≤ 57)) by rw [Bool.eq_iff_iff]; simp only [isDig, Bool.and_eq_true, decide_eq_true_eq]; omega])
      have HN : Hid (R = (okAt k c && okFrom (k + 1) (s.data.toList.drop (k + 1)))) := Lib.hid (by rw [hr.out, hd]; rfl)
      rw [hy] at hcb
      have hcy : s[k].toNat = y := by rw [hc, hy]
      clear hd hr
      cases hz : okAt k c
      · have HZ : Hid (R = false) := Lib.hid (by rw [HN.out, hz]; rfl)
        rw [hz] at HOK
        clear hz HN
        go_wp2_with fail
        all_goals first
          | (go_ret; exact ⟨by rw [HR.out, HZ.out]; rfl, rfl⟩)
          | (exfalso; have := HOK.out; clear HOK HZ HR HR0; grind)
      · have HZ : Hid (R = okFrom (k + 1) (s.data.toList.drop (k + 1))) := Lib.hid (by rw [HN.out, hz]; rfl)
        rw [hz] at HOK
        clear hz HN
        go_wp2_with fail
        all_goals first
          | (go_round
             case rel => exact ⟨k + 1, by omega, by go_num, HZ⟩
             case measure => simp [intOf]; omega)
          | (exfalso; have := HOK.out; clear HOK HZ HR HR0; grind)
    · have HQ : Hid (q = (decide (1 ≤ s.size) && decide (s.size ≤ 255))) := Lib.hid (by rw [HR.out, hr.out, drop_end s k (by omega)]; rfl)
      clear hr HR
      rcases (show s.size < 1 ∨ (1 ≤ s.size ∧ s.size ≤ 255) ∨ 255 < s.size by omega) with h | ⟨h, h'⟩ | h
      · obtain rfl : q = false := by rw [HQ.out]; simp; omega
        clear HQ
        go_wp2_with fail
        go_ret
        exact ⟨rfl, rfl⟩
      · obtain rfl : q = true := by rw [HQ.out]; simp; omega
        clear HQ
        go_wp2_with fail
        go_ret
        exact ⟨by simp; omega, rfl⟩
      · obtain rfl : q = false := by rw [HQ.out]; simp; omega
        clear HQ
        go_wp2_with fail
        go_ret
        exact ⟨by simp; omega, rfl⟩
end Go.Proofs.YtbnljlpefpllcaaGreatDoor
namespace Go.Proofs.YtbnljlpefpllcaaGreatDoor
open Go Go.RowKit
/-- Each type refers to earlier ones; a reference has no fields. -/
def TyOk (ts : List Ty) : Prop := ∀ i (h : i < ts.length), (ts[i].kind = 3 → 0 ≤ ts[i].elem ∧ ts[i].elem < i ∧ ts[i].flds = []) ∧ ∀ f ∈ ts[i].flds, 0 ≤ f ∧ f < i
theorem copF_stable {ts : List Ty} (hok : TyOk ts) : ∀ (f g : Nat) (i : Int), i.toNat < f → i.toNat < g → copF ts f i = copF ts g i
  | 0, _, _, h, _ => absurd h (by omega)
  | _, 0, _, _, h => absurd h (by omega)
  | f + 1, g + 1, i, h, h2 => by
    rw [copF, copF]
    by_cases hi : i < 0
    · rw [if_pos hi, if_pos hi]
    rw [if_neg hi, if_neg hi]
    by_cases hlt : i.toNat < ts.length
    · rw [List.getElem?_eq_getElem hlt]
      simp only
      split
      · rfl
      · rw [Bool.eq_iff_iff, List.all_eq_true, List.all_eq_true]
        have hf := (hok i.toNat hlt).2
        constructor <;> intro h0 x hx
        · rw [← copF_stable hok f g x (by have := hf x hx; omega) (by have := hf x hx; omega)]; exact h0 x hx
        · rw [copF_stable hok f g x (by have := hf x hx; omega) (by have := hf x hx; omega)]; exact h0 x hx
    · rw [List.getElem?_eq_none (by omega)]
theorem copB_eq {ts : List Ty} (hok : TyOk ts) {i : Nat} (h : i < ts.length) : copB ts i = if ts[i].kind = 3 then !ts[i].mu else ts[i].flds.all (copB ts) := by
  unfold copB
  rw [Int.toNat_natCast, copF, if_neg (by omega), Int.toNat_natCast, List.getElem?_eq_getElem h]
  simp only
  split
  · rfl
  · rw [Bool.eq_iff_iff, List.all_eq_true, List.all_eq_true]
    have hf := (hok i h).2
    constructor <;> intro h0 x hx
    · rw [copF_stable hok _ i x (by omega) (by have := hf x hx; omega)]; exact h0 x hx
    · rw [copF_stable hok i _ x (by have := hf x hx; omega) (by omega : x.toNat < x.toNat + 1)]; exact h0 x hx
theorem copB_out {ts : List Ty} {i : Int} (h : i < 0 ∨ (ts.length : Int) ≤ i) : copB ts i = false := by
  unfold copB
  rw [copF]
  by_cases hi : i < 0
  · rw [if_pos hi]
  · rw [if_neg hi, List.getElem?_eq_none (by omega)]
end Go.Proofs.YtbnljlpefpllcaaGreatDoor
