/-
  Walks: depths of the types.
-/
import Derived.Test.YtmfdppgfbgjmcaaW16
namespace Go.Proofs.Ytmfdppgfbgjmcaa
open Go.RowKit Go.Shelf

/-- The first n types refer to types before them. -/
def OkP (ts : List Ty) (n : Nat) : Prop := ∀ i (h : i < ts.length), i < n → (ts[i].kind = 3 → 0 ≤ ts[i].elem ∧ ts[i].elem < i) ∧ ∀ f ∈ ts[i].flds, 0 ≤ f ∧ f < i

set_option maxHeartbeats 4000000 in
theorem depths_any (ts : List Ty) (n : Nat) (A : Option Addr) (c : Nat) (w : World) (hs : Slc 5 RTy w A c ts) (hn : n ≤ ts.length) (h200 : n ≤ 200) (hok : OkP ts n) :
    Calls Try.prog 37 #[.slice A ts.length c, .int .i64 n] w fun e' w' => (∃ A' c' ds, ds.length = n ∧ e' = .returned (.slice A' n c') ∧ Slc 1 RInt w' A' c' ds) ∧ Below w.heap.size w w' := by
  have hle := hs.le
  have hbig := hs.big
  have HOK := Lib.hid hok
  have HS := Lib.hid hs
  clear hok hs
  obtain ⟨i0, hi, hz0, hz1, hz2⟩ := info_parts infoInt
  go_enter Try.func37, Try.ntmps37
  go_wp2
  go_loopw [5, 6] (fun v u wr => ∃ (i : Nat) (ds : List Int), i ≤ n ∧ u = .int .i64 i ∧ ds.length = i ∧ wr.ownsRow w.heap.size 3 1 v ds.length (ds.map (Value.int .i64)) ∧ Below w.heap.size w wr) (fun _ u _ => n - (intOf u).toNat)
  case atStart => exact ⟨0, [], by omega, rfl, rfl, World.ownsRow_nil _ _ _ _, Below.refl _ _⟩
  case round =>
    obtain ⟨i, ds, hin, rfl, hds, hown, hB⟩ := hrel
    by_cases hlt : i < n
    · have hil : i < ts.length := by omega
      obtain ⟨b1, o1, rfl, hb1, r0⟩ := HS.out.sl.at_ hil
      obtain ⟨r1, r2, r3, r4, A2, c2, r5, r6, r7, r8⟩ := RTy.keeps _ _ _ w.heap.size _ _ _ (Nat.le_refl _) hb1 hB r0
      obtain ⟨h1, h2⟩ := HOK.out i hil hlt
      have H2 := Lib.hid h2
      obtain ⟨A3, c3, rfl, hsl⟩ := slc_of_ints hown
      have HD := Lib.hid hsl
      have hdle := hsl.le
      have hdbig := hsl.big
      have HO := Lib.hid hown
      have HL := Lib.hid hds
      rw [hds] at hdle ⊢
      generalize ts[i] = x at *
      clear r0 h2
      obtain ⟨b4, o4, hA3, hcell0⟩ : ∃ b4 o4, (0 < i → A3 = some ⟨b4, o4, none⟩) ∧ ∀ f, f < i → ∃ y : Int, wr.cell? ⟨b4, o4 + f, none⟩ = some (.int .i64 y) := by
        by_cases h0 : 0 < i
        · obtain ⟨b4, o4, hA4, hb4, hr4⟩ := hsl.sl (by omega)
          refine ⟨b4, o4, fun _ => hA4, fun f hf => ?_⟩
          have := hr4 f _ (List.getElem?_eq_getElem (show f < ds.length by omega))
          unfold RInt at this
          rw [Nat.mul_one] at this
          exact ⟨_, this⟩
        · exact ⟨0, 0, fun h => absurd h h0, fun f hf => by omega⟩
      have hcell := Lib.hid hcell0
      have hfl : Hid (∀ j (h : j < x.flds.length), ∃ (f b3 o3 : Nat), f < i ∧ A2 = some ⟨b3, o3, none⟩ ∧ wr.cell? ⟨b3, o3 + j, none⟩ = some (.int .i64 f)) := Lib.hid (fun j h => by
        have hf := H2.out _ (List.getElem_mem h)
        obtain ⟨f, hf1⟩ := Int.eq_ofNat_of_zero_le hf.1
        have hf2 : f < i := by omega
        obtain ⟨b3, o3, hA3, hb3, hr3⟩ := r8.at_ h
        unfold RInt at hr3
        rw [Nat.mul_one, hf1] at hr3
        exact ⟨f, b3, o3, hf2, hA3, hr3⟩)
      clear r8 H2 hsl hown hcell0 hds
      by_cases hkd : x.kind = 3
      · have hk2 : (x.kind == 3) = true := by simp [hkd]
        have hf := h1 hkd
        obtain ⟨f, he⟩ := Int.eq_ofNat_of_zero_le hf.1
        have hfi : f < i := by omega
        obtain ⟨y, hy⟩ := hcell.out f hfi
        have hA := hA3 (by omega)
        subst hA
        rw [he] at r4
        clear hkd hA3 h1 hf he
        go_wp2
        go_loopw [7, 8] (fun a j wr' => wr' = wr ∧ ∃ (y : Int) (m : Nat), m ≤ x.flds.length ∧ a = .int .i64 y ∧ j = .int .i64 m) (fun _ j _ => x.flds.length - (intOf j).toNat)
        case atStart => exact ⟨rfl, _, 0, by omega, rfl, rfl⟩
        case round =>
          obtain ⟨rfl, y1, m, hm, rfl, rfl⟩ := hrel
          by_cases hlt3 : m < x.flds.length
          · obtain ⟨f2, b3, o3, hf3, rfl, hc3⟩ := hfl.out m hlt3
            obtain ⟨y2, hy2⟩ := hcell.out f2 hf3
            clear hfl hcell
            go_wp2
            all_goals
              go_roundw
              case rel => exact ⟨trivial, _, m + 1, by omega, rfl, by go_num⟩
              case measure => simp [intOf]; omega
          · have hme : m = x.flds.length := by omega
            subst hme
            clear hfl hcell
            have hown1 := HO.out
            rw [HL.out] at hown1
            have hown2 := hown1.alloc (.cells #[.int .i64 (wrap64 (y1 + 1))] 3)
            have hsz := hB.size
            go_wp2_with (at_builtin; refine wpList_append_own _ rfl _ _ 39 rfl w.heap.size 3 i0 (.int .i64 0) 1 8 Try.underlying39 hi hz0 hz1 hz2 rfl (by decide) _ _ _ rfl hown2 ⟨wr.heap.size, 0, none⟩ 1 1 [.int .i64 (wrap64 (y1 + 1))] rfl rfl ?c1 ?c2 ?c3 ?c4 ?c5 ?_)
            case c1 =>
              intro j u hj
              match j, hj with
              | 0, hj =>
                simp at hj; subst hj
                rw [add0]
                go_simp
            case c2 => intro u hu; simp at hu; subst hu; rfl
            case c3 => unfold maxLen; omega
            case c4 => omega
            case c5 => simp; omega
            intro v' w3 hown' hgrow _
            have hB3 : Below w.heap.size w w3 := (hB.alloc hsz _).grown hgrow (by simp; omega) (fun g hg => (hown2.lt g hg).1)
            have hown3 : Hid (w3.ownsRow w.heap.size 3 1 v' (ds ++ [wrap64 (y1 + 1)]).length ((ds ++ [wrap64 (y1 + 1)]).map (Value.int .i64))) := Lib.hid (by
              rw [List.length_append, List.length_singleton, HL.out, List.map_append]
              exact hown')
            clear hown' hgrow hown2 hown1 hB r1 r2 r3 r4 r5
            go_wp2
            go_roundw
            case rel => exact ⟨i + 1, ds ++ [wrap64 (y1 + 1)], by omega, by go_num, by rw [List.length_append, HL.out]; rfl, hown3.out, hB3⟩
            case measure => simp [intOf]; omega
      · have hk2 : (x.kind == 3) = false := by simp [hkd]
        have HA3 := Lib.hid hA3
        clear hkd h1 hA3
        go_wp2
        go_loopw [7, 8] (fun a j wr' => wr' = wr ∧ ∃ (y : Int) (m : Nat), m ≤ x.flds.length ∧ a = .int .i64 y ∧ j = .int .i64 m) (fun _ j _ => x.flds.length - (intOf j).toNat)
        case atStart => exact ⟨rfl, _, 0, by omega, rfl, rfl⟩
        case round =>
          obtain ⟨rfl, y1, m, hm, rfl, rfl⟩ := hrel
          by_cases hlt3 : m < x.flds.length
          · obtain ⟨f2, b3, o3, hf3, rfl, hc3⟩ := hfl.out m hlt3
            obtain ⟨y2, hy2⟩ := hcell.out f2 hf3
            have hA := HA3.out (by omega)
            subst hA
            clear HA3
            clear hfl hcell
            go_wp2
            all_goals
              go_roundw
              case rel => exact ⟨trivial, _, m + 1, by omega, rfl, by go_num⟩
              case measure => simp [intOf]; omega
          · have hme : m = x.flds.length := by omega
            subst hme
            clear hfl hcell
            have hown1 := HO.out
            rw [HL.out] at hown1
            have hown2 := hown1.alloc (.cells #[.int .i64 (wrap64 (y1 + 1))] 3)
            have hsz := hB.size
            go_wp2_with (at_builtin; refine wpList_append_own _ rfl _ _ 39 rfl w.heap.size 3 i0 (.int .i64 0) 1 8 Try.underlying39 hi hz0 hz1 hz2 rfl (by decide) _ _ _ rfl hown2 ⟨wr.heap.size, 0, none⟩ 1 1 [.int .i64 (wrap64 (y1 + 1))] rfl rfl ?c1 ?c2 ?c3 ?c4 ?c5 ?_)
            case c1 =>
              intro j u hj
              match j, hj with
              | 0, hj =>
                simp at hj; subst hj
                rw [add0]
                go_simp
            case c2 => intro u hu; simp at hu; subst hu; rfl
            case c3 => unfold maxLen; omega
            case c4 => omega
            case c5 => simp; omega
            intro v' w3 hown' hgrow _
            have hB3 : Below w.heap.size w w3 := (hB.alloc hsz _).grown hgrow (by simp; omega) (fun g hg => (hown2.lt g hg).1)
            have hown3 : Hid (w3.ownsRow w.heap.size 3 1 v' (ds ++ [wrap64 (y1 + 1)]).length ((ds ++ [wrap64 (y1 + 1)]).map (Value.int .i64))) := Lib.hid (by
              rw [List.length_append, List.length_singleton, HL.out, List.map_append]
              exact hown')
            clear hown' hgrow hown2 hown1 hB r1 r2 r3 r4 r5
            go_wp2
            go_roundw
            case rel => exact ⟨i + 1, ds ++ [wrap64 (y1 + 1)], by omega, by go_num, by rw [List.length_append, HL.out]; rfl, hown3.out, hB3⟩
            case measure => simp [intOf]; omega
    · have hie : i = n := by omega
      subst hie
      rw [hds] at hown
      obtain ⟨A2, c2, rfl, hsl⟩ := slc_of_ints (ys := ds) (by rw [hds]; exact hown)
      have HL := Lib.hid hds
      rw [hds]
      have HD := Lib.hid hsl
      clear hown hsl hds
      go_wp2
      go_ret
      exact ⟨⟨A2, c2, ds, HL.out, rfl, HD.out⟩, hB⟩
end Go.Proofs.Ytmfdppgfbgjmcaa
