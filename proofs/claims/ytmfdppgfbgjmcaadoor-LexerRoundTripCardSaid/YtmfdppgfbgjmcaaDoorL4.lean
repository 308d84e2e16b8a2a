/-
  Walk: number.
-/
import Derived.Test.YtmfdppgfbgjmcaaDoorL3
import Derived.Lib.IndexBytes
import Derived.Laws.Strings
namespace Go.Proofs.YtmfdppgfbgjmcaaDoor
open Go Go.RowKit

/-- What the library's two error variables hold. -/
structure VarsOk (w : World) : Prop where
  syn : ∃ te pe, w.cell? ⟨2, 0, none⟩ = some (.iface te pe)
  rng : ∃ te pe, w.cell? ⟨3, 0, none⟩ = some (.iface te pe)
theorem VarsOk.keep {w w' : World} (h : VarsOk w) (hb : Below w.heap.size w w') : VarsOk w' := by
  obtain ⟨⟨a, b, h1⟩, c, d, h2⟩ := h
  exact ⟨⟨a, b, cell_keep hb h1⟩, c, d, cell_keep hb h2⟩

theorem dlist (d : ByteArray) : d.toList = d.data.toList := ByteArray.toList_eq d
/-- ParseInt's answer. -/
theorem parse_any (d : ByteArray) (w : World) (hv : VarsOk w) (hd : d.size ≤ 1000000) :
    (∃ v, Lib.parseIntB 64 d.data.toList = .ok v ∧ Calls Tryd.prog 33 #[.string d, .int .i64 10, .int .i64 64] w fun e' w' => e' = .returned (.tuple #[.int .i64 v, .nilIface]) ∧ Below w.heap.size w w') ∨
    ((∀ v, Lib.parseIntB 64 d.data.toList ≠ .ok v) ∧ Calls Tryd.prog 33 #[.string d, .int .i64 10, .int .i64 64] w fun e' w' => (∃ x t N, e' = .returned (.tuple #[.int .i64 x, .iface t (.pointer (some ⟨N, 0, none⟩))])) ∧ Below w.heap.size w w') := by
  rcases h : Lib.parseIntB 64 d.data.toList with v | _ | _
  · refine Or.inl ⟨v, rfl, (Tryd.strconv_ParseInt_10_at64_ok d (by omega) v h w).mono ?_⟩
    rintro e' w' ⟨rfl, hw⟩
    refine ⟨rfl, ?_⟩
    rcases hw with rfl | ⟨t, rfl⟩
    · exact Below.refl _ _
    · exact Lib.bytesWorld_below _ _ _
  · obtain ⟨te, pe, hc⟩ := hv.syn
    refine Or.inr ⟨by simp, (Any.strconv_ParseInt_10_at64_syntax Tryd.laysC174 d (by omega) h _ w hc (Or.inr ⟨te, pe, rfl⟩)).mono ?_⟩
    rintro e' w' ⟨N, rfl, _, _, hb⟩
    exact ⟨⟨_, _, _, rfl⟩, hb⟩
  · obtain ⟨te, pe, hc⟩ := hv.rng
    refine Or.inr ⟨by simp, (Any.strconv_ParseInt_10_at64_range Tryd.laysC174 d (by omega) h _ w hc (Or.inr ⟨te, pe, rfl⟩)).mono ?_⟩
    rintro e' w' ⟨N, rfl, _, _, hb⟩
    exact ⟨⟨_, _, _, rfl⟩, hb⟩

set_option maxRecDepth 100000 in
set_option maxHeartbeats 2000000 in
theorem number_any (d : ByteArray) (most : Int) (w : World) (hv : VarsOk w) (hd : d.size ≤ 1000000) :
    Calls Tryd.prog 25 #[.string d, .int .i64 most] w fun e' w' => e' = .returned (.tuple #[.int .i64 (numL d.data.toList most).1, .int .i64 (numL d.data.toList most).2]) ∧ Below w.heap.size w w' := by
  have hT := Lib.hid (Tryd.strings_TrimPrefix d ⟨#[45]⟩ w)
  obtain ⟨x, hx⟩ : ∃ x, Lib.trimPrefix d.data.toList [45] = x := ⟨_, rfl⟩
  have HT : Hid (Calls Tryd.prog 32 #[.string d, .string ⟨#[45]⟩] w fun e' w' => e' = .returned (.string ⟨x.toArray⟩) ∧ w' = w) := Lib.hid (by
    have := hT.out
    rw [show (⟨#[45]⟩ : ByteArray).data.toList = [45] from rfl, hx] at this
    exact this)
  clear hT
  match x, hx, HT with
  | [], hx, HT =>
    have HN : Hid (numL d.data.toList most = (0, 18)) := Lib.hid (by unfold numL; rw [hx]; simp)
    clear hx
    go_enter Tryd.func25, Tryd.ntmps25
    go_wp2_with (go_at_call 32; refine HT.out.mono ?_; rintro e' w' ⟨rfl, rfl⟩)
    go_ret2
    exact ⟨by rw [HN.out]; rfl, Below.refl _ _⟩
  | c :: r, hx, HT =>
    have e0 : ∀ h, (⟨(c :: r).toArray⟩ : ByteArray)[0]'h = c := fun _ => rfl
    by_cases hc : c = 48 ∧ d.data.toList ≠ [48]
    · have HN : Hid (numL d.data.toList most = (0, 18)) := Lib.hid (by unfold numL; rw [hx, if_pos]; exact Or.inr ⟨by rw [hc.1]; rfl, hc.2⟩)
      obtain ⟨rfl, hd1⟩ := hc
      have hd2 : (d.toList == [48]) = false := by rw [dlist]; simpa using hd1
      clear hx hd1
      go_enter Tryd.func25, Tryd.ntmps25
      go_wp2_with (go_at_call 32; refine HT.out.mono ?_; rintro e' w' ⟨rfl, rfl⟩)
      go_ret2
      exact ⟨by rw [HN.out]; rfl, Below.refl _ _⟩
    · have HN : Hid (numL d.data.toList most = match Lib.parseIntB 64 d.data.toList with | .ok v => if v > most then (0, 3) else (v, 0) | _ => (0, 3)) := Lib.hid (by
        unfold numL
        rw [hx, if_neg]
        · rfl
        · rintro (h | ⟨h1, h2⟩)
          · cases h
          · exact hc ⟨by simpa using h1, h2⟩)
      clear hx
      have hcd : (c = 48 ∧ (d.toList == [48]) = true) ∨ ((c.toNat : Int) == 48) = false := by
        rw [dlist]
        by_cases h1 : c = 48
        · refine Or.inl ⟨h1, ?_⟩
          rcases Classical.em (d.data.toList = [48]) with h2 | h2
          · simp [h2]
          · exact absurd ⟨h1, h2⟩ hc
        · refine Or.inr ?_
          simp
          intro h2
          exact h1 (UInt8.toNat_inj.1 (by simpa using (show c.toNat = 48 by omega)))
      clear hc
      rcases parse_any d w hv hd with ⟨v, hv1, hp⟩ | ⟨hno, hp⟩
      · rw [hv1] at HN
        have HP := Lib.hid hp
        by_cases hvm : v > most
        · have HN2 : Hid (numL d.data.toList most = (0, 3)) := Lib.hid (by rw [HN.out]; simp [hvm])
          clear HN hv1 hp
          rcases hcd with ⟨rfl, hcd⟩ | hcd
          all_goals
            go_enter Tryd.func25, Tryd.ntmps25
            go_wp2_with (first
              | (go_at_call 32; refine HT.out.mono ?_; rintro e' w' ⟨rfl, rfl⟩)
              | (go_at_call 33; refine HP.out.mono ?_; rintro e' w2 ⟨rfl, hb2⟩))
            go_ret2
            exact ⟨by rw [HN2.out]; rfl, hb2⟩
        · have HN2 : Hid (numL d.data.toList most = (v, 0)) := Lib.hid (by rw [HN.out]; simp [hvm])
          clear HN hv1 hp
          rcases hcd with ⟨rfl, hcd⟩ | hcd
          all_goals
            go_enter Tryd.func25, Tryd.ntmps25
            go_wp2_with (first
              | (go_at_call 32; refine HT.out.mono ?_; rintro e' w' ⟨rfl, rfl⟩)
              | (go_at_call 33; refine HP.out.mono ?_; rintro e' w2 ⟨rfl, hb2⟩))
            go_ret2
            exact ⟨by rw [HN2.out]; rfl, hb2⟩
      · have HP := Lib.hid hp
        have HN2 : Hid (numL d.data.toList most = (0, 3)) := Lib.hid (by rw [HN.out]; split; exact absurd ‹_› (hno _); rfl)
        clear HN hno hp
        rcases hcd with ⟨rfl, hcd⟩ | hcd
        all_goals
          go_enter Tryd.func25, Tryd.ntmps25
          go_wp2_with (first
            | (go_at_call 32; refine HT.out.mono ?_; rintro e' w' ⟨rfl, rfl⟩)
            | (go_at_call 33; refine HP.out.mono ?_; rintro e' w2 ⟨⟨x, t, N, rfl⟩, hb2⟩))
          go_ret2
          exact ⟨by rw [HN2.out]; rfl, hb2⟩
end Go.Proofs.YtmfdppgfbgjmcaaDoor
