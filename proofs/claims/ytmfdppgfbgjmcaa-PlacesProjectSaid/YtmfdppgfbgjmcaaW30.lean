/-
  Walks: Check of the types' reference; skip of the laws.
-/
import Derived.Test.YtmfdppgfbgjmcaaW29
namespace Go.Proofs.Ytmfdppgfbgjmcaa
open Go.RowKit Go.Shelf

theorem okP_succ {ts : List Ty} {i : Nat} (hi : i < ts.length) (h : OkP ts i) (h2 : OkT ts[i] i) : OkP ts (i + 1) := by
  intro j hj hji
  by_cases h3 : j < i
  · exact h j hj h3
  · obtain rfl : i = j := by omega
    exact h2

set_option maxHeartbeats 4000000 in
theorem rcheck6_any (ts : List Ty) (A : Option Addr) (c : Nat) (w : World) (hs : Slc 5 RTy w A c ts) (h200 : ts.length ≤ 200) :
    Calls Try.prog 27 #[.slice A ts.length c, .int .i64 1000] w fun e' w' => (∃ q, e' = .returned (.int .i64 q) ∧ (q = 0 → OkP ts ts.length)) ∧ Below w.heap.size w w' := by
  have hle := hs.le
  have hbig := hs.big
  have HS := Lib.hid hs
  clear hs
  go_enter Try.func27, Try.ntmps27
  go_wp2_with fail
  go_loopw [5, 6] (fun v u wr => ∃ (i : Nat) (B : Option Addr) (d : Nat) (ds : List Int), i ≤ ts.length ∧ u = .int .i64 i ∧ v = .slice B i d ∧ Hid (ds.length = i) ∧ Hid (Slc 1 RInt wr B d ds) ∧ Below w.heap.size w wr ∧ Hid (OkP ts i)) (fun _ u _ => ts.length - (intOf u).toNat)
  case atStart => exact ⟨0, none, 0, [], by omega, rfl, rfl, Lib.hid rfl, Lib.hid ⟨Sl.nil, by simp, by omega⟩, Below.refl _ _, Lib.hid (fun j _ h => absurd h (by omega))⟩
  case round =>
    obtain ⟨i, B, d, ds, hin, rfl, rfl, hdl, hsl, hB, hok⟩ := hrel
    have HB := Lib.hid hB
    clear hB
    by_cases hlt : i < ts.length
    · go_wp2_with fail
      go_at_call 36
      refine (check6_any ts ds i A B c d _ (HS.out.keep RTy.keeps HB.out) hsl.out hlt hdl.out).mono ?_
      rintro e' w1 ⟨⟨q, rfl, hq⟩, hb1⟩
      have HB1 := Lib.hid (HB.out.trans (hb1.mono HB.out.size))
      clear hb1 HB hsl hdl
      by_cases hq0 : q = 0
      · have hok2 := Lib.hid (okP_succ hlt hok.out (hq hq0))
        subst hq0
        clear hq hok
        have hD : Hid (Calls Try.prog 37 #[.slice A ts.length c, .int .i64 ((i : Int) + 1)] w1 fun e' w' => (∃ A' c' ds, ds.length = i + 1 ∧ e' = .returned (.slice A' (i + 1) c') ∧ Slc 1 RInt w' A' c' ds) ∧ Below w1.heap.size w1 w') :=
          Lib.hid (depths_any ts (i + 1) A c w1 (HS.out.keep RTy.keeps HB1.out) hlt (by omega) hok2.out)
        go_wp2_with (go_at_call 37; refine hD.out.mono ?_; rintro e' w2 ⟨⟨A', c', ds', hdl', rfl, hsl'⟩, hb2⟩; have HB2 := Lib.hid (HB1.out.trans (hb2.mono HB1.out.size)); have HSL := Lib.hid hsl'; have HDL := Lib.hid hdl'; clear hsl' hdl' hb2)
        go_roundw
        case rel => exact ⟨i + 1, A', c', ds', by omega, by go_num, rfl, HDL, HSL, HB2.out, hok2⟩
        case measure => simp [intOf]; omega
      · clear hq
        go_wp2_with fail
        go_ret
        exact ⟨⟨_, rfl, fun h => absurd h hq0⟩, HB1.out⟩
    · obtain rfl : i = ts.length := by omega
      go_wp2_with fail
      go_ret
      exact ⟨⟨_, rfl, fun _ => hok.out⟩, HB.out⟩

theorem okay_of {ts : List Ty} {ls : List Lc} (h : OkP ts ts.length) (hl : ∀ x ∈ ls, 0 ≤ x.type ∧ x.type < ts.length) : Okay ts ls := by
  refine ⟨?_, ?_, hl⟩
  · intro t ht hk
    obtain ⟨i, hi, rfl⟩ := List.getElem_of_mem ht
    have := (h i hi hi).1 hk
    omega
  · intro t ht f hf
    obtain ⟨i, hi, rfl⟩ := List.getElem_of_mem ht
    have := (h i hi hi).2 f hf
    omega

/-- What skip answers: some bool; false only for valid types and locals. -/
def skipP (ts : List Ty) (ls : List Lc) (e' : Ending) : Prop := ∃ q : Bool, e' = .returned (.bool q) ∧ (q = false → Okay ts ls)
theorem skipP_yes (ts : List Ty) (ls : List Lc) : skipP ts ls (.returned (.bool true)) := ⟨true, rfl, fun h => by cases h⟩
theorem skipP_no {ts : List Ty} {ls : List Lc} (h : Okay ts ls) : skipP ts ls (.returned (.bool false)) := ⟨false, rfl, fun _ => h⟩

set_option maxHeartbeats 4000000 in
theorem skip_any (ts : List Ty) (ls : List Lc) (A B : Option Addr) (c d : Nat) (w : World) (hts : Slc 5 RTy w A c ts) (hls : Slc 2 RLc w B d ls) :
    Calls Try.prog 12 #[.slice A ts.length c, .slice B ls.length d] w fun e' w' => skipP ts ls e' ∧ Below w.heap.size w w' := by
  have hle := hts.le
  have hbig := hts.big
  have hle2 := hls.le
  have hbig2 := hls.big
  have HS := Lib.hid hts
  have HL := Lib.hid hls
  clear hts hls
  go_enter Try.func12, Try.ntmps12
  go_wp2_with fail
  go_at_call 26
  refine (large_any ts A c _ HS.out).mono ?_
  rintro e' w1 ⟨⟨q, rfl, hq⟩, hb1⟩
  have HB1 := Lib.hid hb1
  clear hb1
  by_cases hq0 : q ≤ 0
  · have hq1 : decide (q > 0) = false := by simpa using hq0
    have h200 := hq hq0
    clear hq
    by_cases hl : ls.length ≤ 100
    · go_wp2_with fail
      go_at_call 27
      refine (rcheck6_any ts A c _ (HS.out.keep RTy.keeps HB1.out) h200).mono ?_
      rintro e' w2 ⟨⟨q2, rfl, hq2⟩, hb2⟩
      have HB2 := Lib.hid (HB1.out.trans (hb2.mono HB1.out.size))
      clear hb2 HB1
      by_cases hq3 : q2 = 0
      · have HOK := Lib.hid (hq2 hq3)
        subst hq3
        clear hq2
        go_wp2_with fail
        go_loopw [22] (fun u wr => ∃ k : Nat, k ≤ ls.length ∧ u = .int .i64 k ∧ Below w.heap.size w wr ∧ Hid (∀ x ∈ ls.take k, 0 ≤ x.type ∧ x.type < ts.length)) (fun u _ => ls.length - (intOf u).toNat)
        case atStart => exact ⟨0, by omega, rfl, HB2.out, Lib.hid (by simp)⟩
        case round =>
          obtain ⟨k, hk, rfl, hB, hall⟩ := hrel
          by_cases hlt : k < ls.length
          · obtain ⟨b, o, rfl, hbl, hr⟩ := HL.out.sl.at_ hlt
            obtain ⟨r1, r2⟩ := RLc.keeps _ _ _ w.heap.size _ _ _ (Nat.le_refl _) hbl hB hr
            have hbs := hB.size
            have hsn : Hid (0 ≤ ls[k].type ∧ ls[k].type < ts.length → ∀ x ∈ ls.take (k + 1), 0 ≤ x.type ∧ x.type < ts.length) := Lib.hid (fun h x hx => by
              rw [List.take_succ_eq_append_getElem hlt, List.mem_append, List.mem_singleton] at hx
              rcases hx with hx | rfl
              · exact hall.out x hx
              · exact h)
            generalize ls[k] = x at *
            have HB := Lib.hid hB
            clear hr hall hB
            by_cases hx : 0 ≤ x.type ∧ x.type < ts.length
            · have HN := Lib.hid (hsn.out hx)
              obtain ⟨hx1, hx2⟩ := hx
              clear hsn
              go_wp2_with fail
              go_roundw
              case rel => exact ⟨k + 1, by omega, by go_num, HB.out.alloc HB.out.size _, HN⟩
              case measure => simp [intOf]; omega
            · go_wp2_with fail
              all_goals first
                | (go_ret; exact ⟨skipP_yes _ _, HB.out.alloc HB.out.size _⟩)
                | (exfalso; omega)
          · obtain rfl : k = ls.length := by omega
            have hfin := Lib.hid (okay_of HOK.out (by have := hall.out; rwa [List.take_length] at this))
            clear hall HOK
            go_wp2_with fail
            go_ret
            exact ⟨skipP_no hfin.out, hB⟩
      · have hq4 : (q2 != 0) = true := by simp [hq3]
        have hq5 : (q2 == 0) = false := by simp [hq3]
        clear hq2
        go_wp2_with fail
        go_ret
        exact ⟨skipP_yes _ _, HB2.out⟩
    · go_wp2_with fail
      go_ret
      exact ⟨skipP_yes _ _, HB1.out⟩
  · clear hq
    go_wp2_with fail
    go_ret
    exact ⟨skipP_yes _ _, HB1.out⟩
end Go.Proofs.Ytmfdppgfbgjmcaa
