/-
  Plain laws: the prefixes of a place with a type; one more projection.
-/
import Derived.Test.YtmfdppgfbgjmcaaW16
namespace Go.Proofs.Ytmfdppgfbgjmcaa

/-- The regions of a prefix are the first ones. -/
theorem refs_take {ts : List Ty} {ls : List Lc} {l : Int} {ps : List Pj} (h : (tyOf ts ls l ps).2 = 0) (k : Nat) : (refsOf ts ls l (ps.take k)).1 <+: (refsOf ts ls l ps).1 := by
  by_cases hk : ps.length ≤ k
  · rw [List.take_of_length_le hk]
    exact List.prefix_refl _
  · have h2 := refs_take h (k + 1)
    have h3 := tyOf_take h (k + 1)
    rw [List.take_succ_eq_append_getElem (by omega)] at h2 h3
    rw [refsOf_snoc h3] at h2
    exact (List.prefix_append _ _).trans h2
termination_by ps.length - k

/-- Whether the prefix of k projections is mutable. -/
def mutAt (ts : List Ty) (ls : List Lc) (l : Int) (ps : List Pj) (k : Nat) : Bool := !(refsOf ts ls l (ps.take k)).1.any notMu
theorem mut_take {ts : List Ty} {ls : List Lc} {l : Int} {ps : List Pj} (h : (tyOf ts ls l ps).2 = 0) (k : Nat) : ((refsOf ts ls l (ps.take k)).2 && !(refsOf ts ls l (ps.take k)).1.any notMu) = mutAt ts ls l ps k := by
  rw [refsOf_snd, tyOf_take h k]
  simp [mutAt]
theorem mut_mono {ts : List Ty} {ls : List Lc} {l : Int} {ps : List Pj} (h : (tyOf ts ls l ps).2 = 0) (k : Nat) : (mutAt ts ls l ps (k + 1) && !mutAt ts ls l ps k) = false := by
  have hp : (refsOf ts ls l (ps.take k)).1 <+: (refsOf ts ls l (ps.take (k + 1))).1 := by
    have h2 := refs_take (tyOf_take h (k + 1)) k
    rwa [List.take_take, Nat.min_eq_left (by omega)] at h2
  obtain ⟨r, hr⟩ := hp
  unfold mutAt
  rw [← hr, List.any_append]
  cases (refsOf ts ls l (ps.take k)).1.any notMu <;> simp
/-- Whether the prefix before the one of k projections is mutable; true ahead of the first. -/
def lastAt (ts : List Ty) (ls : List Lc) (l : Int) (ps : List Pj) : Nat → Bool
  | 0 => true
  | k + 1 => mutAt ts ls l ps k
theorem last_mono {ts : List Ty} {ls : List Lc} {l : Int} {ps : List Pj} (h : (tyOf ts ls l ps).2 = 0) (k : Nat) : (mutAt ts ls l ps k && !lastAt ts ls l ps k) = false := by
  cases k with
  | zero => simp [lastAt]
  | succ k => exact mut_mono h k
/-- The regions of a prefix as numbers. -/
def regAt (ts : List Ty) (ls : List Lc) (l : Int) (ps : List Pj) (k : Nat) : List Int := (refsOf ts ls l (ps.take k)).1.map (·.reg)
theorem reg_take {ts : List Ty} {ls : List Lc} {l : Int} {ps : List Pj} (h : (tyOf ts ls l ps).2 = 0) (k : Nat) :
    (regAt ts ls l ps k).length ≤ ((refsOf ts ls l ps).1.map (·.reg)).length ∧ ((refsOf ts ls l ps).1.map (·.reg)).take (regAt ts ls l ps k).length = regAt ts ls l ps k := by
  obtain ⟨r, hr⟩ := refs_take h k
  unfold regAt
  rw [← hr]
  simp

/-- The type of a place with one more projection. -/
theorem project_law {ts : List Ty} {ls : List Lc} {l : Int} {ps : List Pj} (hok : Okay ts ls) (hn : 0 < ps.length) (h : (tyOf ts ls l ps).2 = 0) :
    (tyOf ts ls l (ps.take (ps.length - 1))).2 = 0 ∧ ∃ (i : Nat) (hi : i < ts.length), (tyOf ts ls l (ps.take (ps.length - 1))).1 = i ∧
      ((ps[ps.length - 1].kind = 0 ∧ ts[i].kind = 3 ∧ (tyOf ts ls l ps).1 = ts[i].elem) ∨
        (ps[ps.length - 1].kind ≠ 0 ∧ ts[i].kind = 4 ∧ ∃ f : Nat, ps[ps.length - 1].field = f ∧ ∃ hf : f < ts[i].flds.length, (tyOf ts ls l ps).1 = ts[i].flds[f])) := by
  have hp := tyOf_take h (ps.length - 1)
  obtain ⟨h0, h1⟩ := tyOf_ok hok hp
  refine ⟨hp, (tyOf ts ls l (ps.take (ps.length - 1))).1.toNat, by omega, by omega, ?_⟩
  have hsp : ps = ps.take (ps.length - 1) ++ [ps[ps.length - 1]] := by
    have := List.take_succ_eq_append_getElem (l := ps) (i := ps.length - 1) (by omega)
    rw [← this, Nat.sub_add_cancel hn, List.take_length]
  obtain ⟨hc, _, hl⟩ := tyOf_good h
  have hs : tyOf ts ls l ps = stepE ts (tyOf ts ls l (ps.take (ps.length - 1))) ps[ps.length - 1] := by
    rw [hsp] at hc
    have := tyOf_snoc (ts := ts) hc hl
    rwa [← hsp] at this
  have hck : (ps[ps.length - 1].kind = 0 ∨ ps[ps.length - 1].kind = 1) ∧ 0 ≤ ps[ps.length - 1].field := by
    rw [hsp] at hc
    exact (chk_snoc hc).2
  rw [hs] at h ⊢
  generalize ps[ps.length - 1] = x at *
  have hi : (tyOf ts ls l (ps.take (ps.length - 1))).1.toNat < ts.length := by omega
  simp only [stepE, hp, ne_eq, not_true_eq_false, if_false, List.getElem?_eq_getElem hi] at h ⊢
  generalize ts[(tyOf ts ls l (ps.take (ps.length - 1))).1.toNat] = t at *
  unfold prT at h ⊢
  by_cases c1 : x.kind = 0 ∧ t.kind = 3
  · rw [if_pos c1] at h ⊢
    exact Or.inl ⟨c1.1, c1.2, rfl⟩
  · rw [if_neg c1] at h ⊢
    by_cases c2 : x.kind = 1 ∧ t.kind = 4
    · rw [if_pos c2] at h ⊢
      by_cases c3 : x.field < t.flds.length
      · rw [if_pos c3]
        refine Or.inr ⟨by omega, c2.2, x.field.toNat, by omega, by omega, ?_⟩
        simp [List.getD, List.getElem?_eq_getElem (show x.field.toNat < t.flds.length by omega)]
      · rw [if_neg c3] at h
        cases h
    · rw [if_neg c2] at h
      cases h
end Go.Proofs.Ytmfdppgfbgjmcaa
