/-
  Plain laws: how the lexer's function unfolds.
-/
import Derived.Test.YtmfdppgfbgjmcaaDoorL3
namespace Go.Proofs.YtmfdppgfbgjmcaaDoor
open Go

theorem span_pos {set l : List UInt8} {c : UInt8} {r : List UInt8} (h : l = c :: r) (hc : set.contains c = true) : 1 ≤ spanL set l := by
  subst h
  rw [spanL_cons, if_pos hc]
  omega
theorem scan_len {l : List UInt8} (h : l ≠ []) (he : (scanL l).err = 0) : 1 ≤ (scanL l).len ∧ (scanL l).len ≤ l.length := by
  match l, h with
  | c :: r, _ =>
    have hf : fromC c ≤ 1 := by unfold fromC; split <;> omega
    have hd : ((c :: r).drop (fromC c)).length = (c :: r).length - fromC c := List.length_drop
    have hl : (c :: r).length = r.length + 1 := by simp
    have l1 := spanL_le digits ((c :: r).drop (fromC c))
    have l3 := spanL_le (letters ++ digits) ((c :: r).drop (fromC c))
    rw [hd, hl] at l1 l3
    rw [hl]
    rw [scanL] at he ⊢
    by_cases h1 : puncts.contains c = true
    · rw [if_pos h1]
      simp
    · rw [if_neg h1] at he ⊢
      by_cases h2 : isN (kindC c) = true
      · rw [if_pos h2] at he ⊢
        refine ⟨?_, by show fromC c + _ ≤ _; omega⟩
        show 1 ≤ fromC c + _
        by_cases hs : signK c = 0
        · have hk : digits.contains c = true := by
            rcases hc : digits.contains c with _ | _
            · unfold kindC at h2
              rw [if_neg (by simpa using hs), hc] at h2
              cases h2
            · rfl
          have h0 : fromC c = 0 := by simp [fromC, hs]
          have := span_pos (set := digits) (l := (c :: r).drop (fromC c)) (by rw [h0]; rfl) hk
          omega
        · have h0 : fromC c = 1 := by simp [fromC, hs]
          omega
      · rw [if_neg h2] at he ⊢
        by_cases h3 : spanL letters ((c :: r).drop (fromC c)) = 0
        · rw [if_pos h3] at he
          cases he
        · rw [if_neg h3] at he ⊢
          by_cases h4 : 255 < spanL (letters ++ digits) ((c :: r).drop (fromC c))
          · rw [if_pos h4] at he
            cases he
          · rw [if_neg h4]
            refine ⟨?_, by show fromC c + _ ≤ _; omega⟩
            show 1 ≤ fromC c + _
            have : 1 ≤ spanL (letters ++ digits) ((c :: r).drop (fromC c)) := by
              cases hx : (c :: r).drop (fromC c) with
              | nil => rw [hx] at h3; exact absurd rfl h3
              | cons a b =>
                rw [hx, spanL_cons] at h3
                by_cases ha : letters.contains a = true
                · exact span_pos rfl (by rw [List.contains_eq_mem] at ha ⊢; simp at ha ⊢; exact Or.inl ha)
                · rw [if_neg ha] at h3; exact absurd rfl h3
            omega

/-- The suffix at which the next token begins. -/
def nextL (l : List UInt8) : List UInt8 := skipM false (l.drop (scanL l).len)
/-- Whether it is glued to a number. -/
def glued (l : List UInt8) : Bool := isN (scanL l).kind && (nextL l).length == (l.drop (scanL l).len).length
theorem next_lt {l : List UInt8} (h : l ≠ []) (he : (scanL l).err = 0) : (nextL l).length < l.length := by
  obtain ⟨h1, h2⟩ := scan_len h he
  have h3 := skipM_le false (l.drop (scanL l).len)
  rw [List.length_drop] at h3
  unfold nextL
  omega

theorem lexF_fuel (N : Int) : ∀ (f : Nat) (l : List UInt8) (g : Bool), l.length + 1 ≤ f → lexF N f l g = lexF N (l.length + 1) l g := by
  intro f
  induction f using Nat.strongRecOn with
  | ind f ih =>
    intro l g hf
    match f, l, hf with
    | f + 1, [], _ => rfl
    | f + 1, c :: r, hf =>
      have hq : ∀ he : (scanL (c :: r)).err = 0, (nextL (c :: r)).length < (c :: r).length := next_lt (by simp)
      simp only [lexF]
      by_cases h1 : (g && (letters ++ digits).contains c) = true
      · rw [if_pos h1, if_pos h1]
      · rw [if_neg h1, if_neg h1]
        by_cases h2 : (scanL (c :: r)).err ≠ 0
        · rw [if_pos h2, if_pos h2]
        · rw [if_neg h2, if_neg h2]
          have h3 := hq (by simpa using h2)
          have e1 := ih f (by omega) (nextL (c :: r)) (glued (c :: r)) (by simp at hf h3; omega)
          by_cases h5 : (c :: r).length < f + 1
          · have e2 := ih (c :: r).length h5 (nextL (c :: r)) (glued (c :: r)) (by omega)
            unfold nextL glued at e1 e2
            unfold nextL at e1 e2
            rw [e1, e2]
          · have : (c :: r).length = f := by simp at hf h5 ⊢; omega
            rw [this]

/-- What Lex answers from the suffix l on, at a text of N bytes. -/
def lexS (N : Int) (l : List UInt8) (g : Bool) : List Tk × Int × Int := lexF N (l.length + 1) l g
theorem lexS_nil (N : Int) (g : Bool) : lexS N [] g = ([⟨0, [], 0, N⟩], N, 0) := rfl
theorem lexS_glued (N : Int) (c : UInt8) (r : List UInt8) (h : (letters ++ digits).contains c = true) : lexS N (c :: r) true = ([], N - (c :: r).length, 18) := by
  unfold lexS
  rw [lexF, Bool.true_and, if_pos h]
theorem lexS_err (N : Int) (c : UInt8) (r : List UInt8) (g : Bool) (h : (g && (letters ++ digits).contains c) = false) (he : (scanL (c :: r)).err ≠ 0) : lexS N (c :: r) g = ([], N - (c :: r).length, (scanL (c :: r)).err) := by
  unfold lexS
  rw [lexF, h, if_neg (by simp), if_pos he]
/-- What stands before put ahead of what follows. -/
def comb (acc : List Tk) (x : List Tk × Int × Int) : List Tk × Int × Int := if x.2.2 ≠ 0 then ([], x.2) else (acc ++ x.1, x.2)
theorem lexS_step (N : Int) (c : UInt8) (r : List UInt8) (g : Bool) (h : (g && (letters ++ digits).contains c) = false) (he : (scanL (c :: r)).err = 0) :
    lexS N (c :: r) g = comb [⟨(scanL (c :: r)).kind, (scanL (c :: r)).text, (scanL (c :: r)).num, N - (c :: r).length⟩] (lexS N (nextL (c :: r)) (glued (c :: r))) := by
  unfold lexS
  rw [lexF, h, if_neg (by simp), if_neg (by simpa using he)]
  have h3 := next_lt (l := c :: r) (by simp) he
  have e1 := lexF_fuel N (c :: r).length (nextL (c :: r)) (glued (c :: r)) (by omega)
  unfold comb
  rw [← e1]
  rfl
theorem comb_comb (a b : List Tk) (x : List Tk × Int × Int) : comb a (comb b x) = comb (a ++ b) x := by
  unfold comb
  by_cases h : x.2.2 ≠ 0
  · simp [h]
  · simp [h]
theorem lexL_eq (l : List UInt8) : lexL l = lexS l.length (skipM false l) false := by
  unfold lexL lexS
  exact lexF_fuel _ _ _ _ (by have := skipM_le false l; omega)
theorem comb_nil (N : Int) (l : List UInt8) (g : Bool) : comb [] (lexS N l g) = lexS N l g := by
  match l with
  | [] => rfl
  | c :: r =>
    by_cases h : (g && (letters ++ digits).contains c) = true
    · obtain ⟨rfl, hc⟩ : g = true ∧ (letters ++ digits).contains c = true := by simpa [Bool.and_eq_true] using h
      rw [lexS_glued N c r hc]
      rfl
    · have h' : (g && (letters ++ digits).contains c) = false := by simpa using h
      by_cases he : (scanL (c :: r)).err = 0
      · rw [lexS_step N c r g h' he, comb_comb]
        rfl
      · rw [lexS_err N c r g h' he]
        simp [comb]

/-- One step of Lex at offset m. -/
theorem lex_next {l : List UInt8} {m : Nat} {c : UInt8} {r : List UInt8} (hd : l.drop m = c :: r) (hm : m ≤ l.length) (he : (scanL (c :: r)).err = 0) :
    m + (scanL (c :: r)).len ≤ l.length ∧ l.drop (m + (scanL (c :: r)).len) = (c :: r).drop (scanL (c :: r)).len ∧
    (skipM false (l.drop (m + (scanL (c :: r)).len))).length ≤ l.length - (m + (scanL (c :: r)).len) ∧
    l.drop (l.length - (skipM false (l.drop (m + (scanL (c :: r)).len))).length) = nextL (c :: r) ∧ (c :: r).length = l.length - m := by
  have h1 := scan_len (l := c :: r) (by simp) he
  have h2 : (c :: r).length = l.length - m := by rw [← hd, List.length_drop]
  have h3 : l.drop (m + (scanL (c :: r)).len) = (c :: r).drop (scanL (c :: r)).len := by rw [← hd, List.drop_drop]
  refine ⟨by omega, h3, ?_, ?_, h2⟩
  · have := skipM_le false (l.drop (m + (scanL (c :: r)).len))
    rwa [List.length_drop] at this
  · unfold nextL
    rw [← h3]
    exact drop_suffix ((skip_suffix false _).trans (List.drop_suffix _ _))
end Go.Proofs.YtmfdppgfbgjmcaaDoor
