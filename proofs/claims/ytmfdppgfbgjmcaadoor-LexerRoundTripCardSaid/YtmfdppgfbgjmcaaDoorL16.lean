/-
  Plain laws: a text behind white space and comments; two texts with a newline between them.
-/
import Derived.Test.YtmfdppgfbgjmcaaDoorL12
namespace Go.Proofs.YtmfdppgfbgjmcaaDoor
open Go

/-- Tokens, offset and error, all offsets greater by B. -/
def mvT (B : Int) (t : Tk) : Tk := ⟨t.kind, t.text, t.num, t.pos + B⟩
def shiftT (B : Int) (x : List Tk × Int × Int) : List Tk × Int × Int := (x.1.map (mvT B), x.2.1 + B, x.2.2)
theorem comb_shift (B : Int) (t : Tk) (x : List Tk × Int × Int) : comb [mvT B t] (shiftT B x) = shiftT B (comb [t] x) := by
  unfold comb shiftT
  by_cases h : x.2.2 ≠ 0
  · simp [h]
  · simp [h]
theorem lexS_shift (N B : Int) : ∀ (n : Nat) (l : List UInt8) (g : Bool), l.length = n → lexS (N + B) l g = shiftT B (lexS N l g) := by
  intro n
  induction n using Nat.strongRecOn with
  | ind n ih =>
    intro l g hn
    match l, hn with
    | [], _ => simp [lexS_nil, shiftT, mvT]
    | c :: r, hn =>
      by_cases hg : (g && (letters ++ digits).contains c) = true
      · obtain ⟨rfl, hc⟩ : g = true ∧ (letters ++ digits).contains c = true := by simpa [Bool.and_eq_true] using hg
        rw [lexS_glued _ c r hc, lexS_glued _ c r hc]
        simp only [shiftT, List.map_nil, Prod.mk.injEq, true_and, and_true]
        omega
      · have hg' : (g && (letters ++ digits).contains c) = false := by simpa using hg
        by_cases he : (scanL (c :: r)).err = 0
        · rw [lexS_step _ c r g hg' he, lexS_step _ c r g hg' he, ih (nextL (c :: r)).length (by have := next_lt (l := c :: r) (by simp) he; omega) _ _ rfl, ← comb_shift]
          have : N + B - ((c :: r).length : Int) = N - ((c :: r).length : Int) + B := by omega
          rw [this]
          rfl
        · rw [lexS_err _ c r g hg' he, lexS_err _ c r g hg' he]
          simp only [shiftT, List.map_nil, Prod.mk.injEq, true_and, and_true]
          omega

theorem skip_comment : ∀ (m r : List UInt8), m.contains 10 = false → skipM true (m ++ 10 :: r) = skipM false r
  | [], r, _ => by simp [skipM]
  | c :: m, r, h => by
    have hc : c ≠ 10 := by
      intro e
      subst e
      simp at h
    have h2 : m.contains 10 = false := by
      rw [List.contains_cons] at h
      simpa using (Bool.or_eq_false_iff.1 h).2
    rw [List.cons_append, skipM, if_neg hc]
    exact skip_comment m r h2
theorem skip_before (m l : List UInt8) (h : m.contains 10 = false) : skipM false ([32, 9, 47, 47] ++ m ++ [10, 13] ++ l) = skipM false l := by
  have h1 : skipM false ([32, 9, 47, 47] ++ m ++ [10, 13] ++ l) = skipM true (47 :: (m ++ 10 :: 13 :: l)) := by
    simp [skipM, spaces]
  have h2 : skipM true (47 :: (m ++ 10 :: 13 :: l)) = skipM true (m ++ 10 :: 13 :: l) := by rw [skipM]; simp
  rw [h1, h2, skip_comment m _ h]
  simp [skipM, spaces]
/-- White space and a comment before a text. -/
theorem lexL_before (m l : List UInt8) (h : m.contains 10 = false) : lexL ([32, 9, 47, 47] ++ m ++ [10, 13] ++ l) = shiftT (m.length + 6) (lexL l) := by
  rw [lexL_eq, lexL_eq, skip_before m l h, ← lexS_shift _ _ _ _ _ rfl]
  congr 1
  simp
  omega

theorem skip_app : ∀ (a t : List UInt8) (b : Bool), skipM b (a ++ 10 :: t) = if skipM b a = [] then skipM false t else skipM b a ++ 10 :: t
  | [], t, true => by simp [skipM]
  | [], t, false => by simp [skipM, spaces]
  | c :: a, t, true => by
    rw [List.cons_append, skipM, skipM]
    by_cases hc : c = 10
    · rw [if_pos hc, if_pos hc]
      exact skip_app a t false
    · rw [if_neg hc, if_neg hc]
      exact skip_app a t true
  | c :: a, t, false => by
    rw [List.cons_append, skipM, skipM]
    by_cases hc : spaces.contains c = true
    · rw [if_pos hc, if_pos hc]
      exact skip_app a t false
    · rw [if_neg hc, if_neg hc]
      by_cases h2 : c = 47 ∧ a.head? = some 47
      · have h3 : c = 47 ∧ (a ++ 10 :: t).head? = some 47 := ⟨h2.1, by
          cases a with
          | nil => simp at h2
          | cons x y => simpa using h2.2⟩
        rw [if_pos h2, if_pos h3]
        exact skip_app a t true
      · have h3 : ¬ (c = 47 ∧ (a ++ 10 :: t).head? = some 47) := fun h => h2 ⟨h.1, by
          cases a with
          | nil => simp at h
          | cons x y => simpa using h.2⟩
        rw [if_neg h2, if_neg h3]
        simp
theorem span_app {set : List UInt8} (h10 : set.contains 10 = false) : ∀ (a t : List UInt8), spanL set (a ++ 10 :: t) = spanL set a
  | [], t => by rw [List.nil_append, spanL_cons, h10]; rfl
  | c :: a, t => by rw [List.cons_append, spanL_cons, spanL_cons, span_app h10 a t]
theorem scan_app (c : UInt8) (r t : List UInt8) : scanL (c :: r ++ 10 :: t) = scanL (c :: r) := by
  have hf : fromC c ≤ (c :: r).length := by
    have : fromC c ≤ 1 := by unfold fromC; split <;> omega
    simp
    omega
  have hd : (c :: r ++ 10 :: t).drop (fromC c) = (c :: r).drop (fromC c) ++ 10 :: t := List.drop_append_of_le_length hf
  have s1 := span_app (set := digits) (by decide) ((c :: r).drop (fromC c)) t
  have s2 := span_app (set := letters) (by decide) ((c :: r).drop (fromC c)) t
  have s3 := span_app (set := letters ++ digits) (by decide) ((c :: r).drop (fromC c)) t
  have l1 := spanL_le digits ((c :: r).drop (fromC c))
  have l3 := spanL_le (letters ++ digits) ((c :: r).drop (fromC c))
  have t1 : ((c :: r).drop (fromC c) ++ 10 :: t).take (spanL digits ((c :: r).drop (fromC c))) = ((c :: r).drop (fromC c)).take (spanL digits ((c :: r).drop (fromC c))) := List.take_append_of_le_length l1
  have t3 : ((c :: r).drop (fromC c) ++ 10 :: t).take (spanL (letters ++ digits) ((c :: r).drop (fromC c))) = ((c :: r).drop (fromC c)).take (spanL (letters ++ digits) ((c :: r).drop (fromC c))) := List.take_append_of_le_length l3
  have t0 : (c :: r ++ 10 :: t).take (fromC c + spanL digits ((c :: r).drop (fromC c))) = (c :: r).take (fromC c + spanL digits ((c :: r).drop (fromC c))) := List.take_append_of_le_length (by rw [List.length_drop] at l1; omega)
  rw [List.cons_append] at hd t0 ⊢
  simp only [scanL, hd, s1, s2, s3, t0, t1, t3]

theorem lexS_cat (N : Int) (t : List UInt8) : ∀ (n : Nat) (l : List UInt8) (g : Bool), l.length = n → l ≠ [] → (l.length : Int) ≤ N →
    lexS (N + 1 + t.length) (l ++ 10 :: t) g = if (lexS N l g).2.2 ≠ 0 then ([], (lexS N l g).2) else comb (lexS N l g).1.dropLast (lexS (N + 1 + t.length) (skipM false t) false) := by
  intro n
  induction n using Nat.strongRecOn with
  | ind n ih =>
    intro l g hn hne hN
    match l, hn, hne, hN with
    | c :: r, hn, _, hN =>
      have hpos : N + 1 + (t.length : Int) - ((c :: r ++ 10 :: t).length : Int) = N - ((c :: r).length : Int) := by simp; omega
      by_cases hg : (g && (letters ++ digits).contains c) = true
      · obtain ⟨rfl, hc⟩ : g = true ∧ (letters ++ digits).contains c = true := by simpa [Bool.and_eq_true] using hg
        rw [lexS_glued _ c r hc, List.cons_append, lexS_glued _ c _ hc, ← List.cons_append, hpos]
        rfl
      · have hg' : (g && (letters ++ digits).contains c) = false := by simpa using hg
        have hsc := scan_app c r t
        by_cases he : (scanL (c :: r)).err = 0
        · have he' : (scanL (c :: r ++ 10 :: t)).err = 0 := by rw [hsc]; exact he
          have hlen := (scan_len (l := c :: r) (by simp) he).2
          have hdr : (c :: r ++ 10 :: t).drop (scanL (c :: r)).len = (c :: r).drop (scanL (c :: r)).len ++ 10 :: t := List.drop_append_of_le_length hlen
          have hnx : nextL (c :: r ++ 10 :: t) = if nextL (c :: r) = [] then skipM false t else nextL (c :: r) ++ 10 :: t := by
            unfold nextL
            rw [hsc, hdr, skip_app]
          have hgl : glued (c :: r ++ 10 :: t) = (!(decide (nextL (c :: r) = [])) && glued (c :: r)) := by
            unfold glued
            rw [hnx, hsc, hdr]
            by_cases hq : nextL (c :: r) = []
            · have := skipM_le false t
              have h1 : ((skipM false t).length == ((c :: r).drop (scanL (c :: r)).len ++ 10 :: t).length) = false := by
                simp only [List.length_append, List.length_cons, beq_eq_false_iff_ne]
                omega
              rw [if_pos hq, h1]
              simp [hq]
            · rw [if_neg hq]
              simp only [List.length_append, List.length_cons, hq, decide_false, Bool.not_false, Bool.true_and]
              congr 1
              rw [Bool.eq_iff_iff]
              simp
          rw [List.cons_append] at he' hsc hnx hgl hpos ⊢
          rw [lexS_step _ c (r ++ 10 :: t) g hg' he', lexS_step _ c r g hg' he, hnx, hgl, hsc, hpos]
          have hlt := next_lt (l := c :: r) (by simp) he
          by_cases hq : nextL (c :: r) = []
          · rw [if_pos hq, hq, lexS_nil]
            simp [comb]
          · rw [if_neg hq]
            simp only [hq, decide_false, Bool.not_false, Bool.true_and]
            rw [ih (nextL (c :: r)).length (by omega) (nextL (c :: r)) (glued (c :: r)) rfl hq (by omega)]
            have hgood := (lexS_good N _ (nextL (c :: r)) (glued (c :: r)) rfl (by omega)).1
            generalize lexS N (nextL (c :: r)) (glued (c :: r)) = x at *
            by_cases hx : x.2.2 ≠ 0
            · simp [comb, hx]
            · have hx0 : x.2.2 = 0 := by simpa using hx
              have hne := (good_last (hgood hx0)).1
              rw [if_neg hx, comb_comb]
              have hc1 : comb [⟨(scanL (c :: r)).kind, (scanL (c :: r)).text, (scanL (c :: r)).num, N - ((c :: r).length : Int)⟩] x = (⟨(scanL (c :: r)).kind, (scanL (c :: r)).text, (scanL (c :: r)).num, N - ((c :: r).length : Int)⟩ :: x.1, x.2) := by simp [comb, hx0]
              rw [hc1, if_neg hx, List.dropLast_cons_of_ne_nil hne]
              rfl
        · have he' : (scanL (c :: r ++ 10 :: t)).err ≠ 0 := by rw [hsc]; exact he
          rw [List.cons_append] at he' hsc hpos ⊢
          rw [lexS_err _ c (r ++ 10 :: t) g hg' he', lexS_err _ c r g hg' he, hsc, hpos]
          simp [he]

/-- Two texts with a newline between them. -/
theorem lexL_cat (s t : List UInt8) : lexL (s ++ 10 :: t) = if (lexL s).2.2 ≠ 0 then ([], (lexL s).2) else comb (lexL s).1.dropLast (shiftT (s.length + 1) (lexL t)) := by
  have hN : ((s ++ 10 :: t).length : Int) = (s.length : Int) + 1 + t.length := by simp; omega
  have hB : lexS ((s.length : Int) + 1 + t.length) (skipM false t) false = shiftT (s.length + 1) (lexL t) := by
    rw [lexL_eq t, ← lexS_shift _ _ _ _ _ rfl]
    congr 1
    omega
  rw [lexL_eq (s ++ 10 :: t), hN, skip_app, lexL_eq s]
  by_cases h : skipM false s = []
  · rw [if_pos h, h, lexS_nil, hB]
    rw [if_neg (by simp), ← hB]
    exact (comb_nil _ _ _).symm
  · rw [if_neg h, lexS_cat _ t _ _ _ rfl h (by have := skipM_le false s; omega), hB]
theorem good_low {N lo : Int} {t : Tk} : ∀ {r : List Tk}, GoodT N lo (t :: r) → lo ≤ t.pos
  | [], h => by
    obtain ⟨h1, h2⟩ := h
    rw [h1]
    exact h2
  | _ :: _, h => h.1
theorem good_bound {N lo : Int} (h0 : 0 ≤ lo) : ∀ {ts : List Tk}, GoodT N lo ts → ∀ (k : Nat) (h : k < ts.length), 0 ≤ ts[k].pos ∧ ts[k].pos ≤ N
  | [t], hg, k, h => by
    obtain rfl : k = 0 := by simp at h; omega
    obtain ⟨h1, h2⟩ := hg
    show 0 ≤ t.pos ∧ t.pos ≤ N
    rw [h1]
    exact ⟨by show 0 ≤ N; omega, by show N ≤ N; omega⟩
  | t :: u :: r, hg, k, h => by
    have ih := good_bound (N := N) (lo := t.pos + 1) (by have := hg.1; omega) hg.2.2
    cases k with
    | zero =>
      have h1 := (ih 0 (by simp)).2
      have hlow := good_low hg.2.2
      have := hg.1
      show 0 ≤ t.pos ∧ t.pos ≤ N
      have h3 : t.pos + 1 ≤ (u :: r)[0].pos := hlow
      omega
    | succ k => exact ih k (by simpa using h)
end Go.Proofs.YtmfdppgfbgjmcaaDoor
