/-
  Plain laws: where the reading ends; a row of tokens of which one is written.
-/
import Derived.Test.YtmfdppgfbgjmcaaDoorL16
import Derived.Test.YtmfdppgfbgjmcaaDoorL8
namespace Go.Proofs.YtmfdppgfbgjmcaaDoor
open Go Go.RowKit

theorem lexS_end (N : Int) : ∀ (n : Nat) (l : List UInt8) (g : Bool), l.length = n → (lexS N l g).2.2 = 0 → (lexS N l g).2.1 = N := by
  intro n
  induction n using Nat.strongRecOn with
  | ind n ih =>
    intro l g hn h0
    match l, hn, h0 with
    | [], _, _ => rfl
    | c :: r, hn, h0 =>
      by_cases hg : (g && (letters ++ digits).contains c) = true
      · obtain ⟨rfl, hc⟩ : g = true ∧ (letters ++ digits).contains c = true := by simpa [Bool.and_eq_true] using hg
        rw [lexS_glued N c r hc] at h0
        exact absurd h0 (by simp)
      · have hg' : (g && (letters ++ digits).contains c) = false := by simpa using hg
        by_cases he : (scanL (c :: r)).err = 0
        · rw [lexS_step N c r g hg' he] at h0 ⊢
          have ih1 := ih (nextL (c :: r)).length (by have := next_lt (l := c :: r) (by simp) he; omega) (nextL (c :: r)) (glued (c :: r)) rfl
          generalize lexS N (nextL (c :: r)) (glued (c :: r)) = x at *
          unfold comb at h0 ⊢
          by_cases hx : x.2.2 ≠ 0
          · rw [if_pos hx] at h0
            exact absurd h0 hx
          · rw [if_neg hx] at h0 ⊢
            exact ih1 h0
        · rw [lexS_err N c r g hg' he] at h0
          exact absurd h0 he
theorem lexL_at (l : List UInt8) : 0 ≤ (lexL l).2.1 ∧ (lexL l).2.1 ≤ l.length := by
  by_cases h : (lexL l).2.2 = 0
  · have := lexL_eq l
    rw [this] at h ⊢
    rw [lexS_end _ _ _ _ rfl h]
    omega
  · have := (lexL_good l).2 h
    omega

theorem flat_set {α : Type} {k : Nat} (f : α → List Value) (hf : ∀ y, (f y).length = k) : ∀ (ys : List α) (i : Nat) (y y' : α) (j : Nat) (v : Value), ys[i]? = some y → j < k → f y' = (f y).set j v → (ys.flatMap f).set (i * k + j) v = (ys.set i y').flatMap f
  | [], i, y, y', j, v, h, _, _ => by simp at h
  | z :: zs, 0, y, y', j, v, h, hj, he => by
    simp only [List.getElem?_cons_zero, Option.some.injEq] at h
    subst h
    rw [List.flatMap_cons, List.set_cons_zero, List.flatMap_cons, Nat.zero_mul, Nat.zero_add, List.set_append_left _ _ (by rw [hf]; exact hj), he]
  | z :: zs, i + 1, y, y', j, v, h, hj, he => by
    rw [List.getElem?_cons_succ] at h
    rw [List.flatMap_cons, List.set_cons_succ, List.flatMap_cons, List.set_append_right _ _ (by rw [hf, Nat.add_mul]; omega), hf, show (i + 1) * k + j - k = i * k + j by rw [Nat.add_mul]; omega, flat_set f hf zs i y y' j v h hj he]

/-- The first k tokens moved. -/
def mvd (B : Int) (ts : List Tk) (k : Nat) : List Tk := (ts.take k).map (mvT B) ++ ts.drop k
theorem mvd_len (B : Int) (ts : List Tk) (k : Nat) : (mvd B ts k).length = ts.length := by
  unfold mvd
  rw [List.length_append, List.length_map, ← List.length_append, List.take_append_drop]
theorem mvd_at {B : Int} {ts : List Tk} {k : Nat} (h : k < ts.length) : (mvd B ts k)[k]? = some ts[k] := by
  unfold mvd
  rw [List.getElem?_append_right (by simp; omega), List.getElem?_drop]
  simp
  rw [show k + (k - min k ts.length) = k by omega]
  simp [h]
theorem mvd_succ {B : Int} {ts : List Tk} {k : Nat} (h : k < ts.length) : (mvd B ts k).set k (mvT B ts[k]) = mvd B ts (k + 1) := by
  unfold mvd
  have hl : ((ts.take k).map (mvT B)).length = k := by simp; omega
  rw [List.set_append_right _ _ (by omega), hl, Nat.sub_self, List.drop_eq_getElem_cons h, List.set_cons_zero, List.take_succ_eq_append_getElem h, List.map_append, List.append_assoc]
  rfl
theorem mvd_flat {B : Int} {ts : List Tk} {k : Nat} (h : k < ts.length) : ((mvd B ts k).flatMap cellsT).set (k * 4 + 3) (.int .i64 (ts[k].pos + B)) = (mvd B ts (k + 1)).flatMap cellsT := by
  rw [flat_set cellsT (k := 4) (fun _ => rfl) (mvd B ts k) k ts[k] (mvT B ts[k]) 3 (.int .i64 (ts[k].pos + B)) (mvd_at h) (by omega) rfl, mvd_succ h]
theorem mvd_here {B : Int} {ts : List Tk} {k : Nat} (h : k < ts.length) : (mvd B ts (k + 1))[k]? = some (mvT B ts[k]) := by
  unfold mvd
  rw [List.getElem?_append_left (by simp; omega), List.getElem?_map, List.getElem?_take]
  simp [h]
theorem mvd_zero (B : Int) (ts : List Tk) : mvd B ts 0 = ts := by simp [mvd]

/-- One token's cells in an owned row. -/
theorem tok_cells {W : World} {base : Nat} {e : TypeId} {g n cap : Nat} {ys : List Tk} (h : W.ownsRow base e 4 (.slice (some ⟨g, 0, none⟩) n cap) n (ys.flatMap cellsT)) {k : Nat} {t : Tk} (hk : k < n) (ht : ys[k]? = some t) :
    W.cell? ⟨g, k * 4, none⟩ = some (.int .i64 t.kind) ∧ W.cell? ⟨g, k * 4 + 1, none⟩ = some (.string ⟨t.text.toArray⟩) ∧ W.cell? ⟨g, k * 4 + 2, none⟩ = some (.int .i64 t.num) ∧ W.cell? ⟨g, k * 4 + 3, none⟩ = some (.int .i64 t.pos) := by
  have hc : ∀ j u, j < 4 → (cellsT t)[j]? = some u → W.cell? ⟨g, k * 4 + j, none⟩ = some u := fun j u hj hu => by
    rw [h.cellAt (k * 4 + j) (by omega), flat_get cellsT (fun _ => rfl) ys k t ht j hj]
    exact hu
  exact ⟨hc 0 _ (by omega) rfl, hc 1 _ (by omega) rfl, hc 2 _ (by omega) rfl, hc 3 _ (by omega) rfl⟩
end Go.Proofs.YtmfdppgfbgjmcaaDoor
