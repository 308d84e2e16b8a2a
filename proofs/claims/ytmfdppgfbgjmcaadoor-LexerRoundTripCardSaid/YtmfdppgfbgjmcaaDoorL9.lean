/-
  Walk: signOf.
-/
import Derived.Test.YtmfdppgfbgjmcaaDoorL5
namespace Go.Proofs.YtmfdppgfbgjmcaaDoor
open Go Go.RowKit Go.Maps Go.WideElems

/-- The sign of a kind. -/
def signS (k : Int) : List UInt8 := if k = 3 then [37] else if k = 4 then [39] else if k = 5 then [64] else if k = 6 then [35] else if k = 7 then [94] else []

theorem byte_of {x : Int} (h : (Lit.int .u8 x).wf = true) : ∃ c : UInt8, x = c.toNat := by
  have h2 : 0 ≤ x ∧ x ≤ 255 := by simpa [Lit.wf, IntKind.min, IntKind.max, IntKind.signed, IntKind.bits] using h
  exact ⟨x.toNat.toUInt8, by simp; omega⟩
theorem sign_val {x c : Int} (h : (Lit.int .u8 x).wf = true) (hat : ∀ zd, signD.atKey (.int .u8 x) zd = .lit (.int .i64 c)) : (x = 37 ∧ c = 3) ∨ (x = 39 ∧ c = 4) ∨ (x = 64 ∧ c = 5) ∨ (x = 35 ∧ c = 6) ∨ (x = 94 ∧ c = 7) ∨ (x = 45 ∧ c = 2) := by
  obtain ⟨b, rfl⟩ := byte_of h
  have h2 := hat .nil
  rw [sign_at] at h2
  unfold signK at h2
  by_cases h1 : b = 37
  · subst h1; simp at h2; exact Or.inl ⟨rfl, h2.symm⟩
  by_cases h3 : b = 39
  · subst h3; simp at h2; exact Or.inr (Or.inl ⟨rfl, h2.symm⟩)
  by_cases h4 : b = 64
  · subst h4; simp at h2; exact Or.inr (Or.inr (Or.inl ⟨rfl, h2.symm⟩))
  by_cases h5 : b = 35
  · subst h5; simp at h2; exact Or.inr (Or.inr (Or.inr (Or.inl ⟨rfl, h2.symm⟩)))
  by_cases h6 : b = 94
  · subst h6; simp at h2; exact Or.inr (Or.inr (Or.inr (Or.inr (Or.inl ⟨rfl, h2.symm⟩))))
  by_cases h7 : b = 45
  · subst h7; simp at h2; exact Or.inr (Or.inr (Or.inr (Or.inr (Or.inr ⟨rfl, h2.symm⟩))))
  simp [h1, h3, h4, h5, h6, h7] at h2

/-- A sign and its kind. -/
def pairS (x c : Int) : Prop := (x = 37 ∧ c = 3) ∨ (x = 39 ∧ c = 4) ∨ (x = 64 ∧ c = 5) ∨ (x = 35 ∧ c = 6) ∨ (x = 94 ∧ c = 7) ∨ (x = 45 ∧ c = 2)
theorem pair_has {x c : Int} (h : pairS x c) : Maps.has signD (.int .u8 x) = true := by
  rcases h with ⟨rfl, rfl⟩ | ⟨rfl, rfl⟩ | ⟨rfl, rfl⟩ | ⟨rfl, rfl⟩ | ⟨rfl, rfl⟩ | ⟨rfl, rfl⟩ <;> rfl
theorem pair_fun {x c d : Int} (h : pairS x c) (h2 : pairS x d) : c = d := by unfold pairS at *; omega
theorem pair_sign {x c : Int} (h : pairS x c) (hc : c ≠ 2) : ∃ b : UInt8, x = b.toNat ∧ signS c = [b] ∧ b < 128 := by
  rcases h with ⟨rfl, rfl⟩ | ⟨rfl, rfl⟩ | ⟨rfl, rfl⟩ | ⟨rfl, rfl⟩ | ⟨rfl, rfl⟩ | ⟨rfl, rfl⟩
  · exact ⟨37, rfl, rfl, by decide⟩
  · exact ⟨39, rfl, rfl, by decide⟩
  · exact ⟨64, rfl, rfl, by decide⟩
  · exact ⟨35, rfl, rfl, by decide⟩
  · exact ⟨94, rfl, rfl, by decide⟩
  · exact absurd rfl hc
theorem sign_none {k : Int} (h : ∀ x c, pairS x c → ¬ (c = k ∧ c ≠ 2)) : signS k = [] := by
  have h1 := h 37 3 (by simp [pairS])
  have h2 := h 39 4 (by simp [pairS])
  have h3 := h 64 5 (by simp [pairS])
  have h4 := h 35 6 (by simp [pairS])
  have h5 := h 94 7 (by simp [pairS])
  unfold signS
  rw [if_neg (by omega), if_neg (by omega), if_neg (by omega), if_neg (by omega), if_neg (by omega)]

set_option maxRecDepth 100000 in
set_option maxHeartbeats 4000000 in
theorem signOf_any (k : Int) (w : World) : Calls Tryd.prog 15 #[.int .i64 k] w fun e' w' => e' = .returned (.string ⟨(signS k).toArray⟩) ∧ Below w.heap.size w w' := by
  go_enter Tryd.func15, Tryd.ntmps15
  go_wp2_with fail
  go_at_call 24
  refine (signs_any _).mono ?_
  rintro e' w1 ⟨rfl, hS, hb1⟩
  have hlt := hS.lt
  go_wp2_with (at_range; refine wpList_range_own _ rfl _ 53 rfl 5 3 law5 Tryd.underlying53 _ w.heap.size 6 _ rfl hS ?_; intro w2 hrg hg2 hs2)
  have HB2 : Hid (Below w.heap.size w w2) := Lib.hid (hb1.grown hg2 hb1.size (fun g hg => by cases hg))
  clear hS hg2
  go_frame
  go_loopw [3] (fun _ wr => ∃ (left : Lit → Bool) (cnt : Nat), wr.ranges Tryd.prog 5 (plainElem (H := Unit) Tryd.prog 3) w.heap.size w1.heap.size 6 signD left cnt ∧ Hid (Below w.heap.size w wr) ∧ Hid (∀ x c, pairS x c → left (.int .u8 x) = false → ¬ (c = k ∧ c ≠ 2))) (fun _ wr => wr.rangeLeft w.heap.size w1.heap.size)
  case atStart => exact ⟨_, _, hrg, HB2, Lib.hid (fun x c h hl => absurd hl (by rw [pair_has h]; simp))⟩
  case round =>
    clear hrg HB2
    obtain ⟨left, cnt, hrg, HB, hall⟩ := hrel
    go_wp2_with (at_next; refine wpList_next_ranges_ii _ rfl _ rfl 5 3 .u8 .i64 law5 Tryd.underlying5 Tryd.underlying3 w.heap.size w1.heap.size 6 _ _ _ rfl hrg ?_ ?_)
    · intro _ hl0
      have HN : Hid (signS k = []) := Lib.hid (sign_none (fun x c h => hall.out x c h (hl0 _)))
      clear hrg hall hl0
      go_wp2_with fail
      go_ret
      exact ⟨by rw [HN.out]; rfl, HB.out⟩
    · intro x c w3 cnt3 hwx hwc hlx hat hrg3 hcnt hg3 hs3 hen
      have hp : pairS x c := sign_val hwx hat
      have HB3 : Hid (Below w.heap.size w w3) := Lib.hid (HB.out.grown hg3 HB.out.size (fun g hg => by cases hg; omega))
      have HCNT := Lib.hid (hrg.left_eq)
      have HCNT3 := Lib.hid (hrg3.left_eq)
      have HP := Lib.hid hp
      clear hg3 hat hwx hwc hlx hrg hp HB
      by_cases hck : c = k ∧ c ≠ 2
      · obtain ⟨rfl, hc2⟩ := hck
        have hp := HP.out
        clear hall HP
        rcases hp with ⟨rfl, rfl⟩ | ⟨rfl, rfl⟩ | ⟨rfl, rfl⟩ | ⟨rfl, rfl⟩ | ⟨rfl, rfl⟩ | ⟨rfl, rfl⟩
        · go_wp2_with fail
          go_ret
          exact ⟨rfl, HB3.out⟩
        · go_wp2_with fail
          go_ret
          exact ⟨rfl, HB3.out⟩
        · go_wp2_with fail
          go_ret
          exact ⟨rfl, HB3.out⟩
        · go_wp2_with fail
          go_ret
          exact ⟨rfl, HB3.out⟩
        · go_wp2_with fail
          go_ret
          exact ⟨rfl, HB3.out⟩
        · exact absurd rfl hc2
      · have hall3 : Hid (∀ y d, pairS y d → (left (.int .u8 y) && !(Lit.int .u8 y).sameKey (.int .u8 x)) = false → ¬ (d = k ∧ d ≠ 2)) := Lib.hid (fun y d hyd hl => by
          by_cases hyx : y = x
          · subst hyx
            rw [pair_fun hyd HP.out]
            exact hck
          · refine hall.out y d hyd ?_
            have : (Lit.int .u8 y).sameKey (.int .u8 x) = false := by simp [Lit.sameKey, hyx]
            rw [this] at hl
            simpa using hl)
        clear hall
        have hck2 : (c == k) = false ∨ ((c == k) = true ∧ (c != 2) = false) := by
          by_cases h1 : c = k
          · exact Or.inr ⟨by simpa using h1, by simp; exact Classical.byContradiction (fun h2 => hck ⟨h1, h2⟩)⟩
          · exact Or.inl (by simpa using h1)
        clear hck
        rcases hck2 with h1 | ⟨h1, h2⟩
        all_goals
          go_wp2_with fail
          go_roundw
          case rel => exact ⟨_, _, hrg3, HB3, hall3⟩
          case measure => rw [HCNT.out, HCNT3.out]; exact hcnt
end Go.Proofs.YtmfdppgfbgjmcaaDoor
