/-
  Plain laws: the forms with spaces between them are read as the same tokens.
-/
import Derived.Test.YtmfdppgfbgjmcaaDoorL22
namespace Go.Proofs.YtmfdppgfbgjmcaaDoor
open Go

/-- The canonical form of a token. -/
def formT (t : Tk) : List UInt8 := if isN t.kind then signS t.kind ++ Lib.itoa t.num else if t.kind = 0 then [] else signS t.kind ++ t.text
/-- .. of what scan reads. -/
def formS (s : Sc) : List UInt8 := formT ⟨s.kind, s.text, s.num, 0⟩

theorem signK_sign (c : UInt8) (h : signK c ≠ 0) (h2 : signK c ≠ 2) : signS (signK c) = [c] := by
  unfold signK at h h2 ⊢
  by_cases h1 : c = 37
  · subst h1; rfl
  by_cases h3 : c = 39
  · subst h3; rfl
  by_cases h4 : c = 64
  · subst h4; rfl
  by_cases h5 : c = 35
  · subst h5; rfl
  by_cases h6 : c = 94
  · subst h6; rfl
  by_cases h7 : c = 45
  · subst h7; exact absurd rfl h2
  · simp [h1, h3, h4, h5, h6, h7] at h
theorem signK_two (c : UInt8) (h : signK c = 2) : c = 45 := by
  unfold signK at h
  by_cases h1 : c = 37
  · subst h1; cases h
  by_cases h3 : c = 39
  · subst h3; cases h
  by_cases h4 : c = 64
  · subst h4; cases h
  by_cases h5 : c = 35
  · subst h5; cases h
  by_cases h6 : c = 94
  · subst h6; cases h
  by_cases h7 : c = 45
  · exact h7
  · simp [h1, h3, h4, h5, h6, h7] at h
theorem span_all {set : List UInt8} : ∀ (a : List UInt8) (m : Nat), m ≤ spanL set a → ∀ x ∈ a.take m, set.contains x = true
  | [], m, _, x, hx => by simp at hx
  | c :: a, 0, _, x, hx => by simp at hx
  | c :: a, m + 1, h, x, hx => by
    rw [spanL_cons] at h
    by_cases hc : set.contains c = true
    · rw [if_pos hc] at h
      rw [List.take_succ_cons, List.mem_cons] at hx
      rcases hx with rfl | hx
      · exact hc
      · exact span_all a m (by omega) x hx
    · rw [if_neg hc] at h
      omega
theorem span_take {set : List UInt8} (h32 : set.contains 32 = false) (t : List UInt8) : ∀ (a : List UInt8) (m : Nat), m ≤ spanL set a → spanL set (a.take m ++ 32 :: t) = m
  | a, 0, _ => by rw [List.take_zero, List.nil_append, spanL_cons, h32]; rfl
  | [], m + 1, h => by rw [spanL_nil] at h; omega
  | c :: a, m + 1, h => by
    rw [spanL_cons] at h
    by_cases hc : set.contains c = true
    · rw [if_pos hc] at h
      rw [List.take_succ_cons, List.cons_append, spanL_cons, if_pos hc, span_take h32 t a m (by omega)]
    · rw [if_neg hc] at h
      omega
theorem digits_43 : digits.contains 43 = false := by decide
/-- The number's text does not begin with a plus sign. -/
theorem digs_head (a : List UInt8) (m : Nat) (h : m ≤ spanL digits a) : (a.take m).head? ≠ some 43 := by
  cases hx : a.take m with
  | nil => simp
  | cons x y =>
    have := span_all a m h x (by rw [hx]; simp)
    intro e
    simp at e
    rw [e, digits_43] at this
    cases this

/-- A token's form is what it was read from. -/
theorem scan_form {c : UInt8} {r : List UInt8} (he : (scanL (c :: r)).err = 0) :
    formS (scanL (c :: r)) = (c :: r).take (scanL (c :: r)).len ∧ (isN (scanL (c :: r)).kind = true → -9223372036854775808 ≤ (scanL (c :: r)).num ∧ (scanL (c :: r)).num ≤ 9223372036854775807) ∧
    ((scanL (c :: r)).kind = 1 ∨ (scanL (c :: r)).kind = 3 ∨ (scanL (c :: r)).kind = 4 ∨ (scanL (c :: r)).kind = 5 ∨ (scanL (c :: r)).kind = 8 ∨ isN (scanL (c :: r)).kind = true) := by
  rw [scanL] at he ⊢
  by_cases h1 : puncts.contains c = true
  · rw [if_pos h1]
    exact ⟨rfl, fun h => (by cases h), by simp⟩
  · rw [if_neg h1] at he ⊢
    by_cases h2 : isN (kindC c) = true
    · rw [if_pos h2] at he ⊢
      obtain ⟨dd, hdd⟩ : ∃ dd, (if kindC c = 2 then (c :: r).take (fromC c + spanL digits ((c :: r).drop (fromC c))) else ((c :: r).drop (fromC c)).take (spanL digits ((c :: r).drop (fromC c)))) = dd := ⟨_, rfl⟩
      obtain ⟨mo, hmo⟩ : ∃ mo : Int, (if kindC c = 2 then (9223372036854775807 : Int) else 65535) = mo := ⟨_, rfl⟩
      rw [hdd, hmo] at he ⊢
      have hnum : numL dd mo = ((numL dd mo).1, 0) := Prod.ext rfl he
      have h43 : dd.head? ≠ some 43 := by
        rw [← hdd]
        by_cases hk : kindC c = 2
        · rw [if_pos hk]
          by_cases hs : signK c = 0
          · have hf : fromC c = 0 := by simp [fromC, hs]
            rw [hf, Nat.zero_add, List.drop_zero]
            exact digs_head _ _ (Nat.le_refl _)
          · have hf : fromC c = 1 := by simp [fromC, hs]
            have : c = 45 := signK_two c (by unfold kindC at hk; rwa [if_pos hs] at hk)
            rw [hf, Nat.add_comm, List.take_succ_cons, this]
            simp
        · rw [if_neg hk]
          exact digs_head _ _ (Nat.le_refl _)
      obtain ⟨hf, hlo, hhi⟩ := num_form h43 hnum
      refine ⟨?_, fun _ => ⟨hlo, hhi⟩, Or.inr (Or.inr (Or.inr (Or.inr (Or.inr h2))))⟩
      simp only [formS, formT, h2, if_true, hf]
      rw [← hdd]
      by_cases hk : kindC c = 2
      · rw [if_pos hk, hk]
        rfl
      · rw [if_neg hk]
        have hs : signK c ≠ 0 := by
          intro hs
          unfold kindC at h2 hk
          rw [if_neg (by simpa using hs)] at h2 hk
          by_cases hd : digits.contains c = true
          · rw [if_pos hd] at hk; exact hk rfl
          · rw [if_neg hd] at h2; cases h2
        have hkc : kindC c = signK c := by unfold kindC; rw [if_pos hs]
        have hf1 : fromC c = 1 := by simp [fromC, hs]
        rw [hf1, Nat.add_comm, List.take_succ_cons, hkc, signK_sign c hs (by rwa [← hkc])]
        rfl
    · rw [if_neg h2] at he ⊢
      by_cases h3 : spanL letters ((c :: r).drop (fromC c)) = 0
      · rw [if_pos h3] at he
        cases he
      · rw [if_neg h3] at he ⊢
        by_cases h4 : 255 < spanL (letters ++ digits) ((c :: r).drop (fromC c))
        · rw [if_pos h4] at he
          cases he
        · rw [if_neg h4]
          have h2' : isN (kindC c) = false := by simpa using h2
          by_cases hs : signK c = 0
          · have hk : kindC c = 1 := by
              unfold kindC at h2' ⊢
              rw [if_neg (by simpa using hs)] at h2' ⊢
              by_cases hd : digits.contains c = true
              · rw [if_pos hd] at h2'; cases h2'
              · rw [if_neg hd]
            have hf : fromC c = 0 := by simp [fromC, hs]
            rw [hk, hf]
            exact ⟨by rw [Nat.zero_add]; rfl, fun h => (by cases h), by simp⟩
          · have hkc : kindC c = signK c := by unfold kindC; rw [if_pos hs]
            have hf1 : fromC c = 1 := by simp [fromC, hs]
            have hk2 : signK c ≠ 2 := fun h => by rw [hkc, h] at h2'; cases h2'
            refine ⟨?_, fun h => (by rw [h2'] at h; cases h), ?_⟩
            · have h2s : isN (signK c) = false := by rw [← hkc]; exact h2'
              simp only [formS, formT, hkc, h2s, Bool.false_eq_true, if_false, if_neg hs]
              rw [hf1, Nat.add_comm, List.take_succ_cons, signK_sign c hs hk2]
              rfl
            · show kindC c = 1 ∨ kindC c = 3 ∨ kindC c = 4 ∨ kindC c = 5 ∨ kindC c = 8 ∨ isN (kindC c) = true
              rw [hkc] at h2' ⊢
              unfold signK at hs h2' ⊢
              by_cases e1 : c = 37
              · simp [e1]
              by_cases e2 : c = 39
              · simp [e2]
              by_cases e3 : c = 64
              · simp [e3]
              by_cases e4 : c = 35
              · simp [e4] at h2'; cases h2'
              by_cases e5 : c = 94
              · simp [e5] at h2'; cases h2'
              by_cases e6 : c = 45
              · simp [e6] at h2'; cases h2'
              · simp [e1, e2, e3, e4, e5, e6] at hs

/-- A token alone, with a space behind it, is read as itself. -/
theorem scan_alone {c : UInt8} {r : List UInt8} (he : (scanL (c :: r)).err = 0) (t : List UInt8) : scanL ((c :: r).take (scanL (c :: r)).len ++ 32 :: t) = scanL (c :: r) := by
  obtain ⟨n, hn⟩ : ∃ n, (scanL (c :: r)).len = n + 1 := ⟨(scanL (c :: r)).len - 1, by have := (scan_len (l := c :: r) (by simp) he).1; omega⟩
  have hcons : (c :: r).take (scanL (c :: r)).len ++ 32 :: t = c :: (r.take n ++ 32 :: t) := by rw [hn, List.take_succ_cons]; rfl
  have hle := (scan_len (l := c :: r) (by simp) he).2
  rw [hcons]
  rw [scanL] at he hn hle
  conv => rhs; rw [scanL]
  conv => lhs; rw [scanL]
  by_cases h1 : puncts.contains c = true
  · rw [if_pos h1, if_pos h1]
  · rw [if_neg h1] at he hn hle
    rw [if_neg h1, if_neg h1]
    have hf : fromC c ≤ 1 := by unfold fromC; split <;> omega
    -- what stands behind the sign, for a length n + 1 = from + m
    have hdrop : ∀ m, fromC c + m = n + 1 → (c :: (r.take n ++ 32 :: t)).drop (fromC c) = ((c :: r).drop (fromC c)).take m ++ 32 :: t := by
      intro m hm
      rcases Nat.lt_or_ge (fromC c) 1 with h0 | h0
      · have h00 : fromC c = 0 := by omega
        rw [h00] at hm ⊢
        rw [List.drop_zero, List.drop_zero, show m = n + 1 by omega, List.take_succ_cons]
        rfl
      · have h01 : fromC c = 1 := by omega
        rw [h01] at hm ⊢
        rw [show m = n by omega]
        rfl
    by_cases h2 : isN (kindC c) = true
    · rw [if_pos h2] at hn
      rw [if_pos h2, if_pos h2]
      have hm := hdrop _ hn
      have hsp := span_take (set := digits) (by decide) t ((c :: r).drop (fromC c)) _ (Nat.le_refl _)
      have hl := spanL_le digits ((c :: r).drop (fromC c))
      have hnn : n ≤ r.length := by
        rw [List.length_drop] at hl
        simp at hl hn
        omega
      have ht1 : (((c :: r).drop (fromC c)).take (spanL digits ((c :: r).drop (fromC c))) ++ 32 :: t).take (spanL digits ((c :: r).drop (fromC c))) = ((c :: r).drop (fromC c)).take (spanL digits ((c :: r).drop (fromC c))) := by
        rw [List.take_append_of_le_length (by rw [List.length_take]; omega), List.take_take, Nat.min_self]
      have ht2 : (c :: (r.take n ++ 32 :: t)).take (fromC c + spanL digits ((c :: r).drop (fromC c))) = (c :: r).take (fromC c + spanL digits ((c :: r).drop (fromC c))) := by
        have hn' : fromC c + spanL digits ((c :: r).drop (fromC c)) = n + 1 := hn
        rw [hn', List.take_succ_cons, List.take_succ_cons, List.take_append_of_le_length (by rw [List.length_take]; omega), List.take_take, Nat.min_self]
      rw [hm, hsp, ht1, ht2]
    · rw [if_neg h2] at he hn
      rw [if_neg h2, if_neg h2]
      by_cases h3 : spanL letters ((c :: r).drop (fromC c)) = 0
      · rw [if_pos h3] at he
        cases he
      · rw [if_neg h3] at he hn
        rw [if_neg h3]
        by_cases h4 : 255 < spanL (letters ++ digits) ((c :: r).drop (fromC c))
        · rw [if_pos h4] at he
          cases he
        · rw [if_neg h4] at hn
          rw [if_neg h4]
          have hm := hdrop _ hn
          have hsp := span_take (set := letters ++ digits) (by decide) t ((c :: r).drop (fromC c)) _ (Nat.le_refl _)
          have hl := spanL_le (letters ++ digits) ((c :: r).drop (fromC c))
          have ht1 : (((c :: r).drop (fromC c)).take (spanL (letters ++ digits) ((c :: r).drop (fromC c))) ++ 32 :: t).take (spanL (letters ++ digits) ((c :: r).drop (fromC c))) = ((c :: r).drop (fromC c)).take (spanL (letters ++ digits) ((c :: r).drop (fromC c))) := by
            rw [List.take_append_of_le_length (by rw [List.length_take]; omega), List.take_take, Nat.min_self]
          have hlet : spanL letters (((c :: r).drop (fromC c)).take (spanL (letters ++ digits) ((c :: r).drop (fromC c))) ++ 32 :: t) ≠ 0 := by
            cases hx : (c :: r).drop (fromC c) with
            | nil => rw [hx] at h3; exact absurd rfl h3
            | cons a b =>
              rw [hx, spanL_cons] at h3
              by_cases ha : letters.contains a = true
              · have hp : 1 ≤ spanL (letters ++ digits) (a :: b) := span_pos rfl (by rw [List.contains_eq_mem] at ha ⊢; simp at ha ⊢; exact Or.inl ha)
                obtain ⟨q, hq⟩ : ∃ q, spanL (letters ++ digits) (a :: b) = q + 1 := ⟨_, (Nat.sub_add_cancel hp).symm⟩
                rw [hq, List.take_succ_cons, List.cons_append, spanL_cons, if_pos ha]
                omega
              · rw [if_neg ha] at h3; exact absurd rfl h3
          rw [hm, hsp, if_neg hlet, if_neg h4, ht1]

/-- No token begins with white space or a slash. -/
theorem head_ok {c : UInt8} {r : List UInt8} (he : (scanL (c :: r)).err = 0) : spaces.contains c = false ∧ c ≠ 47 := by
  have hbad : c = 32 ∨ c = 9 ∨ c = 10 ∨ c = 13 ∨ c = 47 → (scanL (c :: r)).err = 18 := by
    rintro (rfl | rfl | rfl | rfl | rfl) <;> simp [scanL, puncts, kindC, fromC, signK, digits, isN, spanL_cons, letters]
  constructor
  · cases hs : spaces.contains c with
    | false => rfl
    | true =>
      have : c = 32 ∨ c = 9 ∨ c = 10 ∨ c = 13 := by simpa [spaces] using hs
      rw [hbad (by rcases this with h | h | h | h <;> simp [h])] at he
      cases he
  · rintro rfl
    rw [hbad (by simp)] at he
    cases he
theorem skip_id {c : UInt8} {r : List UInt8} (h1 : spaces.contains c = false) (h2 : c ≠ 47) : skipM false (c :: r) = c :: r := by
  rw [skipM, h1]
  simp [h2]
end Go.Proofs.YtmfdppgfbgjmcaaDoor
