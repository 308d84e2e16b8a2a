/-
  Plain laws: the canonical form of a token is what it was read from; the forms with spaces between them are read as the same tokens.
-/
import Derived.Test.YtmfdppgfbgjmcaaDoorL19
import Derived.Test.YtmfdppgfbgjmcaaDoorL9
import Derived.Lib.ItoaMem
import Derived.Lib.Join
namespace Go.Proofs.YtmfdppgfbgjmcaaDoor
open Go

theorem dec_app {a d : Nat} (ha : 1 ≤ a) (hd : d < 10) : Lib.decDigits (a * 10 + d) = Lib.decDigits a ++ [UInt8.ofNat (48 + d)] := by
  rw [Lib.decDigits, dif_neg (by omega), show (a * 10 + d) / 10 = a by omega, show (a * 10 + d) % 10 = d by omega]
theorem byte_dec (c : UInt8) (h : 48 ≤ c.toNat) : UInt8.ofNat (48 + (c.toNat - 48)) = c := by
  rw [show 48 + (c.toNat - 48) = c.toNat by omega]
  simp
theorem parse_dec (M : Nat) : ∀ (l : List UInt8) (a u : Nat), 1 ≤ a → Lib.parseUintM M a l = .ok u → Lib.decDigits u = Lib.decDigits a ++ l ∧ 1 ≤ u
  | [], a, u, ha, h => by
    simp only [Lib.parseUintM] at h
    injection h with h
    subst h
    exact ⟨by simp, ha⟩
  | c :: r, a, u, ha, h => by
    simp only [Lib.parseUintM] at h
    split at h
    · rename_i hc
      split at h
      · cases h
      · split at h
        · cases h
        · obtain ⟨h1, h2⟩ := parse_dec M r _ u (by omega) h
          refine ⟨?_, h2⟩
          rw [h1, dec_app ha (by omega), byte_dec c hc.1, List.append_assoc]
          rfl
    · cases h
theorem parse_dec0 (M : Nat) (c : UInt8) (r : List UInt8) (u : Nat) (hc0 : c ≠ 48) (h : Lib.parseUintM M 0 (c :: r) = .ok u) : Lib.decDigits u = c :: r ∧ 1 ≤ u := by
  simp only [Lib.parseUintM] at h
  split at h
  · rename_i hc
    have hne : c.toNat ≠ 48 := fun e => hc0 (UInt8.toNat_inj.1 (by simpa using e))
    split at h
    · cases h
    · split at h
      · cases h
      · obtain ⟨h1, h2⟩ := parse_dec M r _ u (by omega) h
        refine ⟨?_, h2⟩
        rw [h1, Nat.zero_mul, Nat.zero_add, Lib.decDigits, dif_pos (by omega), byte_dec c hc.1]
        rfl
  · cases h

theorem num_form {d : List UInt8} {most n : Int} (h43 : d.head? ≠ some 43) (h : numL d most = (n, 0)) : Lib.itoa n = d ∧ -9223372036854775808 ≤ n ∧ n ≤ 9223372036854775807 := by
  unfold numL at h
  by_cases hb : Lib.trimPrefix d [45] = [] ∨ ((Lib.trimPrefix d [45]).head? = some 48 ∧ d ≠ [48])
  · rw [if_pos hb] at h
    cases h
  · rw [if_neg hb] at h
    match d, h43, hb, h with
    | [], _, hb, _ => exact absurd (Or.inl rfl) hb
    | c :: r, h43, hb, h =>
      have hc43 : ¬ c.toNat = 43 := fun e => h43 (by simp; exact UInt8.toNat_inj.1 (by simpa using e))
      by_cases hc : c.toNat = 45
      · obtain rfl : c = 45 := UInt8.toNat_inj.1 (by simpa using hc)
        have ht : Lib.trimPrefix (45 :: r) [45] = r := by simp [Lib.trimPrefix, Lib.hasPrefix, List.isPrefixOf]
        rw [ht] at hb
        simp only [Lib.parseIntB] at h
        cases hu : Lib.parseUintB 64 r with
        | ok u =>
          by_cases hlt : 9223372036854775808 < u
          · simp [hu, hlt] at h
          · by_cases hmo : most < -(u : Int)
            · simp [hu, hlt, hmo] at h
            · simp [hu, hlt, hmo] at h
              subst h
              match r, hb, hu with
              | [], hb, _ => exact absurd (Or.inl rfl) hb
              | x :: y, hb, hu =>
                have hx : x ≠ 48 := fun e => hb (Or.inr ⟨by rw [e]; rfl, by simp⟩)
                unfold Lib.parseUintB at hu
                rw [if_neg (by simp)] at hu
                obtain ⟨h1, h2⟩ := parse_dec0 _ x y u hx hu
                refine ⟨?_, by omega, by omega⟩
                rw [Lib.itoa_neg u h2, h1]
        | _ => simp [hu] at h
      · have ht : Lib.trimPrefix (c :: r) [45] = c :: r := by
          have : c ≠ 45 := fun e => hc (by rw [e]; rfl)
          simp [Lib.trimPrefix, Lib.hasPrefix, List.isPrefixOf]
          intro e
          exact absurd e.symm this
        rw [ht] at hb
        simp only [Lib.parseIntB] at h
        cases hu : Lib.parseUintB 64 (c :: r) with
        | ok u =>
          by_cases hlt : 9223372036854775808 ≤ u
          · simp [hc, hc43, hu, hlt] at h
          · by_cases hmo : most < (u : Int)
            · simp [hc, hc43, hu, hlt, hmo] at h
            · simp [hc, hc43, hu, hlt, hmo] at h
              subst h
              unfold Lib.parseUintB at hu
              rw [if_neg (by simp)] at hu
              by_cases h48 : c = 48
              · have hd : c :: r = [48] := Classical.byContradiction (fun e => hb (Or.inr ⟨by rw [h48]; rfl, e⟩))
                rw [hd] at hu ⊢
                have : u = 0 := by
                  simp [Lib.parseUintM] at hu
                  exact hu.symm
                subst this
                exact ⟨by rw [Lib.itoa_nonneg, Lib.decDigits]; rfl, by omega, by omega⟩
              · obtain ⟨h1, h2⟩ := parse_dec0 _ c r u h48 hu
                exact ⟨by rw [Lib.itoa_nonneg, h1], by omega, by omega⟩
        | _ => simp [hc, hc43, hu] at h
end Go.Proofs.YtmfdppgfbgjmcaaDoor
