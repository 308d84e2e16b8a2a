/-
  Laws: the references of a place with a type.
-/
import Derived.Test.YtmfdppgfbgjmcaaW12
namespace Go.Proofs.Ytmfdppgfbgjmcaa
open Go.RowKit Go.Shelf

def refT (ts : List Ty) (i : Int) (x : Pj) : List Ty := if x.kind = 0 then ts[i.toNat]?.toList else []
def refsW (ts : List Ty) : Int → List Pj → List Ty
  | _, [] => []
  | i, x :: r => refT ts i x ++ match ts[i.toNat]? with
    | none => []
    | some t => refsW ts (prT t x).1 r

theorem refStep_at (ts : List Ty) (pre r : List Pj) (x : Pj) (i e : Int) : refStep ts (pre ++ x :: r) ⟨pre.length, i, e⟩ = refT ts i x := by
  unfold refStep refT
  rw [List.getElem?_append_right (Nat.le_refl _), Nat.sub_self, List.getElem?_cons_zero]
  simp only []
  split
  · cases ts[i.toNat]? <;> rfl
  · rfl
theorem refsL_walk (ts : List Ty) : ∀ (ps pre : List Pj) (i : Int), (lastS (walkS ts i pre.length ps)).2 = 0 → refsL ts (pre ++ ps) (walkS ts i pre.length ps) = refsW ts i ps
  | [], pre, i, _ => by simp [walkS, refsL, refStep, refsW]
  | x :: r, pre, i, h => by
    rw [walkS] at h ⊢
    rw [refsL, List.flatMap_cons, refStep_at, refsW]
    congr 1
    cases ht : ts[i.toNat]? with
    | none => rfl
    | some t =>
      rw [ht] at h
      simp only [] at h ⊢
      by_cases h2 : (prT t x).2 = 0
      · rw [if_pos h2] at h ⊢
        rw [lastS_cons (walkS_ne _ _ _ _)] at h
        have ih := refsL_walk ts r (pre ++ [x]) (prT t x).1 (by simpa using h)
        simpa [refsL] using ih
      · rw [if_neg h2] at h
        exact absurd (by simpa [lastS] using h) h2
theorem refsW_snoc (ts : List Ty) (x : Pj) : ∀ (qs : List Pj) (i : Int) (k : Nat), (lastS (walkS ts i k qs)).2 = 0 → refsW ts i (qs ++ [x]) = refsW ts i qs ++ refT ts (lastS (walkS ts i k qs)).1 x
  | [], i, k, _ => by
    simp only [List.nil_append, refsW, walkS, lastS]
    cases ts[i.toNat]? <;> simp
  | y :: qs, i, k, h => by
    rw [List.cons_append, refsW, refsW]
    rw [walkS] at h ⊢
    cases ht : ts[i.toNat]? with
    | none => simp [lastS, refT, ht]
    | some t =>
      rw [ht] at h
      simp only [] at h ⊢
      by_cases h2 : (prT t y).2 = 0
      · rw [if_pos h2] at h ⊢
        rw [lastS_cons (walkS_ne _ _ _ _)] at h ⊢
        rw [refsW_snoc ts x qs _ _ h, List.append_assoc]
      · rw [if_neg h2] at h
        exact absurd (by simpa [lastS] using h) h2
theorem walkS_any (ts : List Ty) : ∀ (ps : List Pj) (i : Int) (k : Nat), (walkS ts i k ps).any (fun s => s.err != 0) = ((lastS (walkS ts i k ps)).2 != 0)
  | [], i, k => by simp [walkS, lastS]
  | x :: r, i, k => by
    rw [walkS, List.any_cons]
    cases ht : ts[i.toNat]? with
    | none => simp [lastS]
    | some t =>
      simp only []
      by_cases h2 : (prT t x).2 = 0
      · rw [if_pos h2, lastS_cons (walkS_ne _ _ _ _), walkS_any ts r _ _]
        simp
      · rw [if_neg h2]
        simp [lastS]
theorem pth_any (ts : List Ty) (ls : List Lc) (l : Int) (ps : List Pj) : (pth ts ls l ps).any (fun s => s.err != 0) = ((tyOf ts ls l ps).2 != 0) := by
  unfold tyOf pth
  split
  · simp [lastS]
  · cases ls[l.toNat]? with
    | none => simp [lastS]
    | some x => exact walkS_any ts ps _ _
theorem refsOf_bad {ts : List Ty} {ls : List Lc} {l : Int} {ps : List Pj} (h : (tyOf ts ls l ps).2 ≠ 0) : refsOf ts ls l ps = ([], false) := by
  rw [refsOf, pth_any, if_pos (by simpa using h)]
theorem tyOf_good {ts : List Ty} {ls : List Lc} {l : Int} {ps : List Pj} (h : (tyOf ts ls l ps).2 = 0) : chk l ps = 0 ∧ 0 ≤ l ∧ l < ls.length := by
  have hc : chk l ps = 0 := by
    apply Classical.byContradiction
    intro hc
    rw [tyOf_chk hc] at h
    exact hc h
  refine ⟨hc, (chk_low hc).1, ?_⟩
  apply Classical.byContradiction
  intro hl
  rw [tyOf_loc hc (by omega)] at h
  cases h
theorem pth_good {ts : List Ty} {ls : List Lc} {l : Nat} {ps : List Pj} (hc : chk l ps = 0) (hl : l < ls.length) : pth ts ls l ps = walkS ts ls[l].type 0 ps := by
  unfold pth
  rw [if_neg (by simpa using hc), Int.toNat_natCast, List.getElem?_eq_getElem hl]
theorem refsOf_good {ts : List Ty} {ls : List Lc} {l : Nat} {ps : List Pj} (h : (tyOf ts ls l ps).2 = 0) (hl : l < ls.length) : refsOf ts ls l ps = (refsW ts ls[l].type ps, true) := by
  rw [refsOf, pth_any, if_neg (by simpa using h), pth_good (tyOf_good h).1 hl]
  have := refsL_walk ts ps [] ls[l].type (by
    have h' := h
    rw [tyOf, pth_good (tyOf_good h).1 hl] at h'
    exact h')
  rw [List.nil_append] at this
  rw [show ([] : List Pj).length = 0 from rfl] at this
  rw [this]
theorem tyOf_pre {ts : List Ty} {ls : List Lc} {l : Int} {ps : List Pj} {x : Pj} (h : (tyOf ts ls l (ps ++ [x])).2 = 0) : (tyOf ts ls l ps).2 = 0 := by
  have hg := tyOf_good h
  rw [tyOf_snoc hg.1 hg.2.2] at h
  apply Classical.byContradiction
  intro hc
  unfold stepE at h
  rw [if_pos hc] at h
  exact hc h
theorem tyOf_take {ts : List Ty} {ls : List Lc} {l : Int} {ps : List Pj} (h : (tyOf ts ls l ps).2 = 0) (k : Nat) : (tyOf ts ls l (ps.take k)).2 = 0 := by
  by_cases hk : ps.length ≤ k
  · rwa [List.take_of_length_le hk]
  · have h2 := tyOf_take h (k + 1)
    rw [List.take_succ_eq_append_getElem (by omega)] at h2
    exact tyOf_pre h2
termination_by ps.length - k
theorem refsOf_snoc {ts : List Ty} {ls : List Lc} {l : Int} {ps : List Pj} {x : Pj} (h : (tyOf ts ls l (ps ++ [x])).2 = 0) : (refsOf ts ls l (ps ++ [x])).1 = (refsOf ts ls l ps).1 ++ refT ts (tyOf ts ls l ps).1 x := by
  obtain ⟨hc, hl0, hl⟩ := tyOf_good h
  obtain ⟨m, rfl⟩ := Int.eq_ofNat_of_zero_le hl0
  have hl' : m < ls.length := by omega
  have h0 := tyOf_pre h
  rw [refsOf_good h hl', refsOf_good h0 hl']
  have h1 : tyOf ts ls m ps = lastS (walkS ts ls[m].type 0 ps) := by rw [tyOf, pth_good (tyOf_good h0).1 hl']
  rw [h1] at h0 ⊢
  exact refsW_snoc ts x ps _ _ h0
theorem refsOf_nil (ts : List Ty) (ls : List Lc) (l : Int) : (refsOf ts ls l []).1 = [] := by
  by_cases h : (tyOf ts ls l []).2 = 0
  · obtain ⟨hc, hl0, hl⟩ := tyOf_good h
    obtain ⟨m, rfl⟩ := Int.eq_ofNat_of_zero_le hl0
    rw [refsOf_good h (by omega), refsW]
  · rw [refsOf_bad h]
end Go.Proofs.Ytmfdppgfbgjmcaa
