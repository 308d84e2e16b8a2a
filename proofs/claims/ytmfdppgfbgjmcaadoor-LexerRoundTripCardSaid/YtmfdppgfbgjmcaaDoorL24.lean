/-
  Plain laws: the round trip of the tokens.
-/
import Derived.Test.YtmfdppgfbgjmcaaDoorL23
namespace Go.Proofs.YtmfdppgfbgjmcaaDoor
open Go

/-- The forms of tokens, each with a space behind it. -/
def joinT (ts : List Tk) : List UInt8 := ts.flatMap (fun t => formT t ++ [32])
/-- Two tokens are the same apart from their offsets. -/
def sameT (t u : Tk) : Prop := t.kind = u.kind ∧ t.text = u.text ∧ t.num = u.num
/-- A token that Format can be asked of. -/
def TkOk (t : Tk) : Prop := (t.kind = 0 ∧ formT t = []) ∨ ((t.kind = 1 ∨ t.kind = 3 ∨ t.kind = 4 ∨ t.kind = 5 ∨ t.kind = 8)) ∨ (isN t.kind = true ∧ -9223372036854775808 ≤ t.num ∧ t.num ≤ 9223372036854775807)
/-- How much the forms are, one for each token beside. -/
def sizeT (ts : List Tk) : Nat := (ts.map (fun t => (formT t).length + 1)).sum

theorem join_forms : ∀ init : List Tk, Lib.join (init.map formT ++ [[]]) [32] = joinT init
  | [] => by simp [joinT, Lib.join_one]
  | t :: r => by
    have ih := join_forms r
    rw [List.map_cons, List.cons_append, Lib.join_cons]
    have hne : ∃ y ys, r.map formT ++ [[]] = y :: ys := by
      cases r with
      | nil => exact ⟨[], [], rfl⟩
      | cons a b => exact ⟨_, _, rfl⟩
    obtain ⟨y, ys, hy⟩ := hne
    rw [hy, Lib.join_cons] at ih
    rw [hy]
    have : Lib.joinTail [32] (y :: ys) = 32 :: (y ++ Lib.joinTail [32] ys) := by simp [Lib.joinTail]
    rw [this, ih]
    simp [joinT]

theorem form_pos (t : Tk) (p : Int) : formT ⟨t.kind, t.text, t.num, p⟩ = formT t := rfl

theorem lexS_round (N : Int) : ∀ (n : Nat) (l : List UInt8) (g : Bool), l.length = n → (l.length : Int) ≤ N → (∀ c r, l = c :: r → (spaces.contains c = false ∧ c ≠ 47) ∨ (lexS N l g).2.2 ≠ 0) → (lexS N l g).2.2 = 0 →
    (skipM false (joinT (lexS N l g).1.dropLast) = joinT (lexS N l g).1.dropLast) ∧
    (∀ M : Int, ∃ vs, lexS M (joinT (lexS N l g).1.dropLast) false = (vs, M, 0) ∧ vs.length = (lexS N l g).1.length ∧ ∀ (k : Nat) (h : k < vs.length) (h2 : k < (lexS N l g).1.length), sameT vs[k] (lexS N l g).1[k]) ∧
    sizeT (lexS N l g).1 ≤ 2 * l.length + 1 ∧ (∀ t ∈ (lexS N l g).1, TkOk t ∧ t.text.length ≤ l.length) := by
  intro n
  induction n using Nat.strongRecOn with
  | ind n ih =>
    intro l g hn hN hhd h0
    match l, hn, hN, hhd, h0 with
    | [], _, _, _, _ =>
      refine ⟨rfl, fun M => ⟨[⟨0, [], 0, M⟩], rfl, rfl, fun k h h2 => ?_⟩, Nat.le_refl 1, fun t ht => ?_⟩
      · match k, h, h2 with
        | 0, h, h2 => exact ⟨rfl, rfl, rfl⟩
        | k + 1, h, _ => exact absurd h (by simp)
      · simp [lexS_nil] at ht
        subst ht
        exact ⟨Or.inl ⟨rfl, rfl⟩, by simp⟩
    | c :: r, hn, hN, hhd, h0 =>
      by_cases hg : (g && (letters ++ digits).contains c) = true
      · obtain ⟨rfl, hc⟩ : g = true ∧ (letters ++ digits).contains c = true := by simpa [Bool.and_eq_true] using hg
        rw [lexS_glued N c r hc] at h0
        exact absurd h0 (by simp)
      · have hg' : (g && (letters ++ digits).contains c) = false := by simpa using hg
        by_cases he : (scanL (c :: r)).err = 0
        · have hst := lexS_step N c r g hg' he
          have hlt := next_lt (l := c :: r) (by simp) he
          have hok := head_ok he
          have hsl := scan_len (l := c :: r) (by simp) he
          obtain ⟨hform, hnum, hkinds⟩ := scan_form he
          have halone := scan_alone he
          have hnl : (nextL (c :: r)).length ≤ (c :: r).length - (scanL (c :: r)).len := by
            have := skipM_le false ((c :: r).drop (scanL (c :: r)).len)
            rwa [List.length_drop] at this
          have hgood := (lexS_good N _ (nextL (c :: r)) (glued (c :: r)) rfl (by omega)).1
          rw [hst] at h0 ⊢
          generalize hx : lexS N (nextL (c :: r)) (glued (c :: r)) = x at *
          have hx0 : x.2.2 = 0 := by
            apply Classical.byContradiction
            intro hne
            rw [comb, if_pos hne] at h0
            exact hne h0
          have hc1 : comb [⟨(scanL (c :: r)).kind, (scanL (c :: r)).text, (scanL (c :: r)).num, N - ((c :: r).length : Int)⟩] x = (⟨(scanL (c :: r)).kind, (scanL (c :: r)).text, (scanL (c :: r)).num, N - ((c :: r).length : Int)⟩ :: x.1, x.2) := by simp [comb, hx0]
          have hne := (good_last (hgood hx0)).1
          have hih := ih (nextL (c :: r)).length (by omega) (nextL (c :: r)) (glued (c :: r)) rfl (by omega) (fun c' r' hcr => by
            rw [hx]
            left
            by_cases hg2 : (glued (c :: r) && (letters ++ digits).contains c') = true
            · obtain ⟨hgt, hc'⟩ : glued (c :: r) = true ∧ (letters ++ digits).contains c' = true := by simpa [Bool.and_eq_true] using hg2
              rw [hcr, hgt, lexS_glued N c' r' hc'] at hx
              rw [← hx] at hx0
              exact absurd hx0 (by simp)
            · have hg2' : (glued (c :: r) && (letters ++ digits).contains c') = false := by simpa using hg2
              by_cases he' : (scanL (c' :: r')).err = 0
              · exact head_ok he'
              · rw [hcr, lexS_err N c' r' _ hg2' he'] at hx
                rw [← hx] at hx0
                exact absurd hx0 he') (by rw [hx]; exact hx0)
          rw [hx] at hih
          obtain ⟨ih1, ih2, ih3, ih4⟩ := hih
          rw [hc1]
          simp only [List.dropLast_cons_of_ne_nil hne]
          have hF : formT ⟨(scanL (c :: r)).kind, (scanL (c :: r)).text, (scanL (c :: r)).num, N - ((c :: r).length : Int)⟩ = (c :: r).take (scanL (c :: r)).len := hform
          have hJ : joinT (⟨(scanL (c :: r)).kind, (scanL (c :: r)).text, (scanL (c :: r)).num, N - ((c :: r).length : Int)⟩ :: x.1.dropLast) = (c :: r).take (scanL (c :: r)).len ++ 32 :: joinT x.1.dropLast := by
            unfold joinT
            rw [List.flatMap_cons, hF, List.append_assoc]
            rfl
          obtain ⟨q, hq⟩ : ∃ q, (scanL (c :: r)).len = q + 1 := ⟨(scanL (c :: r)).len - 1, by omega⟩
          have hJ2 : (c :: r).take (scanL (c :: r)).len ++ 32 :: joinT x.1.dropLast = c :: (r.take q ++ 32 :: joinT x.1.dropLast) := by rw [hq, List.take_succ_cons]; rfl
          have hal := halone (joinT x.1.dropLast)
          rw [hJ2] at hal
          rw [hJ, hJ2]
          refine ⟨skip_id hok.1 hok.2, fun M => ?_, ?_, ?_⟩
          · have he2 : (scanL (c :: (r.take q ++ 32 :: joinT x.1.dropLast))).err = 0 := by rw [hal]; exact he
            have hdr : (c :: (r.take q ++ 32 :: joinT x.1.dropLast)).drop (scanL (c :: (r.take q ++ 32 :: joinT x.1.dropLast))).len = 32 :: joinT x.1.dropLast := by
              rw [hal, ← hJ2, List.drop_append_of_le_length (by rw [List.length_take]; omega), List.drop_take, Nat.sub_self, List.take_zero, List.nil_append]
            have hnx : nextL (c :: (r.take q ++ 32 :: joinT x.1.dropLast)) = joinT x.1.dropLast := by
              unfold nextL
              rw [hdr, skipM]
              simp only [spaces]
              exact ih1
            have hgl : glued (c :: (r.take q ++ 32 :: joinT x.1.dropLast)) = false := by
              unfold glued
              rw [hnx, hdr]
              simp
            obtain ⟨vs, hv1, hv2, hv3⟩ := ih2 M
            rw [lexS_step M c _ false (by simp) he2, hnx, hgl, hv1, hal]
            refine ⟨⟨(scanL (c :: r)).kind, (scanL (c :: r)).text, (scanL (c :: r)).num, M - ((c :: (r.take q ++ 32 :: joinT x.1.dropLast)).length : Int)⟩ :: vs, by simp [comb], by simp [hv2], fun k h h2 => ?_⟩
            match k, h, h2 with
            | 0, _, _ => exact ⟨rfl, rfl, rfl⟩
            | k + 1, h, h2 => exact hv3 k (by simpa using h) (by simpa using h2)
          · unfold sizeT at ih3 ⊢
            rw [List.map_cons, List.sum_cons, hF, List.length_take]
            omega
          · intro t ht
            rw [List.mem_cons] at ht
            rcases ht with rfl | ht
            · refine ⟨?_, ?_⟩
              · rcases hkinds with h | h | h | h | h | h
                · exact Or.inr (Or.inl (Or.inl h))
                · exact Or.inr (Or.inl (Or.inr (Or.inl h)))
                · exact Or.inr (Or.inl (Or.inr (Or.inr (Or.inl h))))
                · exact Or.inr (Or.inl (Or.inr (Or.inr (Or.inr (Or.inl h)))))
                · exact Or.inr (Or.inl (Or.inr (Or.inr (Or.inr (Or.inr h)))))
                · exact Or.inr (Or.inr ⟨h, hnum h⟩)
              · show (scanL (c :: r)).text.length ≤ _
                by_cases hnk : isN (scanL (c :: r)).kind = true
                · have : (scanL (c :: r)).text = [] := by
                    have hns : isN (scanL (c :: r)).kind = true := hnk
                    rw [scanL] at hns ⊢
                    split
                    · rw [if_pos ‹_›] at hns; cases hns
                    · rw [if_neg ‹_›] at hns
                      split
                      · rfl
                      · rw [if_neg ‹_›] at hns
                        split
                        · rfl
                        · rw [if_neg ‹_›] at hns
                          split
                          · rfl
                          · rw [if_neg ‹_›] at hns
                            exact absurd hns ‹_›
                  rw [this]
                  simp
                · have h2 : formT ⟨(scanL (c :: r)).kind, (scanL (c :: r)).text, (scanL (c :: r)).num, N - ((c :: r).length : Int)⟩ = signS (scanL (c :: r)).kind ++ (scanL (c :: r)).text := by
                    unfold formT
                    rw [if_neg hnk, if_neg kind_ne]
                  have h3 := congrArg List.length (h2.symm.trans hF)
                  rw [List.length_append, List.length_take] at h3
                  omega
            · obtain ⟨h1, h2⟩ := ih4 t ht
              exact ⟨h1, by omega⟩
        · rw [lexS_err N c r g hg' he] at h0
          exact absurd h0 he
/-- The round trip. -/
theorem lexL_round {l : List UInt8} (h : (lexL l).2.2 = 0) :
    (∃ vs M, lexL (Lib.join ((lexL l).1.map formT) [32]) = (vs, M, 0) ∧ vs.length = (lexL l).1.length ∧ ∀ (k : Nat) (h : k < vs.length) (h2 : k < (lexL l).1.length), sameT vs[k] (lexL l).1[k]) ∧
    sizeT (lexL l).1 ≤ 2 * l.length + 1 ∧ (∀ t ∈ (lexL l).1, TkOk t ∧ t.text.length ≤ l.length) := by
  have hle := skipM_le false l
  have hgood := (lexL_good l).1 h
  obtain ⟨hne, hlast⟩ := good_last hgood
  have hforms : (lexL l).1.map formT = (lexL l).1.dropLast.map formT ++ [[]] := by
    have h1 := List.dropLast_concat_getLast hne
    have h2 : (lexL l).1.getLast hne = ⟨0, [], 0, l.length⟩ := by
      rw [List.getLast_eq_getElem]
      have := List.getElem?_eq_some_iff.1 hlast
      exact this.2
    conv => lhs; rw [← h1]
    rw [List.map_append, h2]
    rfl
  rw [lexL_eq] at h
  have hr := lexS_round l.length _ (skipM false l) false rfl (by omega) (fun c r hcr => by
    by_cases he : (scanL (c :: r)).err = 0
    · exact Or.inl (head_ok he)
    · right
      rw [hcr, lexS_err _ c r false (by simp) he]
      exact he) h
  rw [← lexL_eq] at hr
  obtain ⟨h1, h2, h3, h4⟩ := hr
  refine ⟨?_, by omega, fun t ht => ⟨(h4 t ht).1, by have := (h4 t ht).2; omega⟩⟩
  rw [hforms, join_forms, lexL_eq, h1]
  obtain ⟨vs, hv⟩ := h2 (joinT (lexL l).1.dropLast).length
  exact ⟨vs, _, hv⟩
theorem sizeT_take (ts : List Tk) (k : Nat) : sizeT (ts.take k) ≤ sizeT ts := by
  unfold sizeT
  conv => rhs; rw [← List.take_append_drop k ts]
  rw [List.map_append, List.sum_append]
  omega
theorem sizeT_succ {ts : List Tk} {k : Nat} (h : k < ts.length) : sizeT (ts.take (k + 1)) = sizeT (ts.take k) + ((formT ts[k]).length + 1) := by
  unfold sizeT
  rw [List.take_succ_eq_append_getElem h, List.map_append, List.sum_append]
  simp
end Go.Proofs.YtmfdppgfbgjmcaaDoor
