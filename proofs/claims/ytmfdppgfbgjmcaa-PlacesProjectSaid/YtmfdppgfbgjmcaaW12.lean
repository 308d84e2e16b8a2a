/-
  Walks: TypeOf of the reference.
-/
import Derived.Test.YtmfdppgfbgjmcaaW11
namespace Go.Proofs.Ytmfdppgfbgjmcaa
open Go.RowKit Go.Shelf

theorem chkP_snoc : ∀ (ps : List Pj) (x : Pj), chkP (ps ++ [x]) = if chkP ps = 0 then chkP [x] else chkP ps
  | [], x => by simp [chkP]
  | y :: ps, x => by
    have ih := chkP_snoc ps x
    rw [List.cons_append, chkP, chkP, ih]
    grind
theorem chk_snoc {l : Int} {ps : List Pj} {x : Pj} (h : chk l (ps ++ [x]) = 0) : chk l ps = 0 ∧ (x.kind = 0 ∨ x.kind = 1) ∧ 0 ≤ x.field := by
  unfold chk at *
  rw [chkP_snoc] at h
  simp only [List.length_append, List.length_singleton, chkP] at h
  grind

/-- One more projection. -/
def stepE (ts : List Ty) (q : Int × Int) (x : Pj) : Int × Int := if q.2 ≠ 0 then q else match ts[q.1.toNat]? with
  | none => q
  | some t => prT t x
theorem walkS_ne (ts : List Ty) (i : Int) (k : Nat) (ps : List Pj) : walkS ts i k ps ≠ [] := by cases ps <;> simp [walkS]
theorem lastS_cons {s : Stp} {L : List Stp} (h : L ≠ []) : lastS (s :: L) = lastS L := by
  unfold lastS
  cases L with
  | nil => exact absurd rfl h
  | cons a b => rw [List.getLast?_cons_cons]
theorem walkS_snoc (ts : List Ty) (x : Pj) : ∀ (ps : List Pj) (i : Int) (k : Nat), lastS (walkS ts i k (ps ++ [x])) = stepE ts (lastS (walkS ts i k ps)) x
  | [], i, k => by
    rw [List.nil_append, walkS, walkS]
    cases h : ts[i.toNat]? with
    | none => simp [lastS, stepE, h]
    | some t =>
      simp only []
      by_cases h2 : (prT t x).2 = 0
      · rw [if_pos h2]
        simp only [walkS]
        simp [lastS, stepE, h]
        rw [← h2]
      · rw [if_neg h2]
        simp [lastS, stepE, h]
  | y :: ps, i, k => by
    rw [List.cons_append, walkS, walkS]
    cases h : ts[i.toNat]? with
    | none => simp [lastS, stepE, h]
    | some t =>
      simp only []
      by_cases h2 : (prT t y).2 = 0
      · rw [if_pos h2, if_pos h2, lastS_cons (walkS_ne _ _ _ _), lastS_cons (walkS_ne _ _ _ _)]
        exact walkS_snoc ts x ps _ _
      · rw [if_neg h2, if_neg h2]
        simp [lastS, stepE, h2]

theorem tyOf_chk {ts : List Ty} {ls : List Lc} {l : Int} {ps : List Pj} (h : chk l ps ≠ 0) : tyOf ts ls l ps = (0, chk l ps) := by
  simp [tyOf, pth, h, lastS]
theorem chk_low {l : Int} {ps : List Pj} (h : chk l ps = 0) : 0 ≤ l ∧ ps.length ≤ 32 := by
  unfold chk at h
  grind
theorem tyOf_loc {ts : List Ty} {ls : List Lc} {l : Int} {ps : List Pj} (h : chk l ps = 0) (hl : (ls.length : Int) ≤ l) : tyOf ts ls l ps = (0, 3) := by
  have := chk_low h
  simp [tyOf, pth, h, lastS, List.getElem?_eq_none (show ls.length ≤ l.toNat by omega)]
theorem tyOf_nil {ts : List Ty} {ls : List Lc} {l : Nat} (h : chk l [] = 0) (hl : l < ls.length) : tyOf ts ls l [] = (ls[l].type, 0) := by
  simp [tyOf, pth, h, lastS, hl, walkS]
theorem tyOf_snoc {ts : List Ty} {ls : List Lc} {l : Int} {ps : List Pj} {x : Pj} (h : chk l (ps ++ [x]) = 0) (hl : l < ls.length) : tyOf ts ls l (ps ++ [x]) = stepE ts (tyOf ts ls l ps) x := by
  have h0 := (chk_snoc h).1
  have := chk_low h
  have h2 : ls[l.toNat]? = some ls[l.toNat] := List.getElem?_eq_getElem (by omega)
  simp only [tyOf, pth, h, h0, h2]
  exact walkS_snoc ts x ps _ _
theorem prT_err {t : Ty} {x : Pj} (h : (prT t x).2 ≠ 0) : (prT t x).1 = 0 := by
  unfold prT at *
  grind
theorem walkS_err (ts : List Ty) : ∀ (ps : List Pj) (i : Int) (k : Nat), (lastS (walkS ts i k ps)).2 ≠ 0 → (lastS (walkS ts i k ps)).1 = 0
  | [], i, k => by simp [walkS, lastS]
  | y :: ps, i, k => by
    rw [walkS]
    cases h : ts[i.toNat]? with
    | none => simp [lastS]
    | some t =>
      simp only []
      by_cases h2 : (prT t y).2 = 0
      · rw [if_pos h2, lastS_cons (walkS_ne _ _ _ _)]
        exact walkS_err ts ps _ _
      · rw [if_neg h2]
        intro h3
        simpa [lastS] using prT_err h2
theorem tyOf_err {ts : List Ty} {ls : List Lc} {l : Int} {ps : List Pj} (h : (tyOf ts ls l ps).2 ≠ 0) : (tyOf ts ls l ps).1 = 0 := by
  unfold tyOf pth at *
  split at h
  · rename_i h2; rw [if_pos h2]; rfl
  · rename_i h2
    rw [if_neg h2] at *
    cases hx : ls[l.toNat]? with
    | none => simp [lastS]
    | some x =>
      rw [hx] at h
      exact walkS_err ts ps _ _ h
theorem tyOf_ok {ts : List Ty} {ls : List Lc} (hok : Okay ts ls) {l : Int} {ps : List Pj} (h : (tyOf ts ls l ps).2 = 0) : 0 ≤ (tyOf ts ls l ps).1 ∧ (tyOf ts ls l ps).1 < ts.length := by
  have hp := pth_ok hok l ps
  unfold tyOf lastS at *
  cases hg : (pth ts ls l ps).getLast? with
  | none =>
    rw [List.getLast?_eq_none_iff] at hg
    unfold pth at hg
    split at hg
    · cases hg
    · split at hg
      · cases hg
      · exact absurd hg (walkS_ne _ _ _ _)
  | some s =>
    rw [hg] at h
    exact hp s (List.mem_of_getLast? hg) h
end Go.Proofs.Ytmfdppgfbgjmcaa
