/-
  Plain laws: the offsets of the tokens.
-/
import Derived.Test.YtmfdppgfbgjmcaaDoorL7
namespace Go.Proofs.YtmfdppgfbgjmcaaDoor
open Go

/-- Tokens whose offsets increase from lo on; the last is the only one of the kind End, at N. -/
def GoodT (N : Int) : Int → List Tk → Prop
  | _, [] => False
  | lo, [t] => t = ⟨0, [], 0, N⟩ ∧ lo ≤ N
  | lo, t :: u :: r => lo ≤ t.pos ∧ t.kind ≠ 0 ∧ GoodT N (t.pos + 1) (u :: r)
theorem good_mono {N lo lo' : Int} (h : lo' ≤ lo) : ∀ {ts : List Tk}, GoodT N lo ts → GoodT N lo' ts
  | [t], hg => ⟨hg.1, by have := hg.2; omega⟩
  | t :: u :: r, hg => ⟨by have := hg.1; omega, hg.2⟩
theorem good_cons {N lo : Int} {t : Tk} {ts : List Tk} (h1 : lo ≤ t.pos) (h2 : t.kind ≠ 0) (h3 : GoodT N (t.pos + 1) ts) : GoodT N lo (t :: ts) := by
  match ts, h3 with
  | u :: r, h3 => exact ⟨h1, h2, h3⟩
theorem kind_ne {c : UInt8} {r : List UInt8} : (scanL (c :: r)).kind ≠ 0 := by
  have hk : kindC c ≠ 0 := by
    unfold kindC
    by_cases h : signK c ≠ 0
    · rw [if_pos h]; exact h
    · rw [if_neg h]
      split <;> decide
  rw [scanL]
  split
  · simp
  · split
    · exact hk
    · split
      · exact hk
      · split
        · exact hk
        · exact hk

theorem lexS_good (N : Int) : ∀ (n : Nat) (l : List UInt8) (g : Bool), l.length = n → (l.length : Int) ≤ N →
    ((lexS N l g).2.2 = 0 → GoodT N (N - l.length) (lexS N l g).1) ∧ ((lexS N l g).2.2 ≠ 0 → (lexS N l g).1 = [] ∧ N - l.length ≤ (lexS N l g).2.1 ∧ (lexS N l g).2.1 < N) := by
  intro n
  induction n using Nat.strongRecOn with
  | ind n ih =>
    intro l g hn hN
    match l, hn, hN with
    | [], hn, hN =>
      rw [lexS_nil]
      exact ⟨fun _ => (show GoodT N (N - ([] : List UInt8).length) [⟨0, [], 0, N⟩] from ⟨rfl, by simp⟩), fun h => absurd rfl h⟩
    | c :: r, hn, hN =>
      have hlen : ((c :: r).length : Int) = r.length + 1 := by simp
      by_cases hg : (g && (letters ++ digits).contains c) = true
      · obtain ⟨rfl, hc⟩ : g = true ∧ (letters ++ digits).contains c = true := by simpa [Bool.and_eq_true] using hg
        rw [lexS_glued N c r hc]
        exact ⟨fun h => absurd h (by simp), fun _ => ⟨rfl, Int.le_refl _, by show N - ((c :: r).length : Int) < N; omega⟩⟩
      · have hg' : (g && (letters ++ digits).contains c) = false := by simpa using hg
        by_cases he : (scanL (c :: r)).err = 0
        · rw [lexS_step N c r g hg' he]
          have hlt := next_lt (l := c :: r) (by simp) he
          obtain ⟨h1, h2⟩ := ih (nextL (c :: r)).length (by omega) (nextL (c :: r)) (glued (c :: r)) rfl (by omega)
          generalize lexS N (nextL (c :: r)) (glued (c :: r)) = x at *
          unfold comb
          by_cases hx : x.2.2 ≠ 0
          · obtain ⟨h3, h4, h5⟩ := h2 hx
            rw [if_pos hx]
            exact ⟨fun h => absurd h hx, fun _ => ⟨rfl, by show N - ((c :: r).length : Int) ≤ x.2.1; omega, h5⟩⟩
          · rw [if_neg hx]
            have hx0 : x.2.2 = 0 := by simpa using hx
            refine ⟨fun _ => ?_, fun h => absurd hx0 h⟩
            rw [List.singleton_append]
            exact good_cons (Int.le_refl _) kind_ne (good_mono (by simp only; omega) (h1 hx0))
        · rw [lexS_err N c r g hg' he]
          exact ⟨fun h => absurd h he, fun _ => ⟨rfl, Int.le_refl _, by show N - ((c :: r).length : Int) < N; omega⟩⟩

theorem lexL_good (l : List UInt8) : ((lexL l).2.2 = 0 → GoodT l.length 0 (lexL l).1) ∧ ((lexL l).2.2 ≠ 0 → (lexL l).1 = [] ∧ 0 ≤ (lexL l).2.1 ∧ (lexL l).2.1 < l.length) := by
  have hle := skipM_le false l
  obtain ⟨h1, h2⟩ := lexS_good l.length _ (skipM false l) false rfl (by omega)
  rw [lexL_eq]
  refine ⟨fun h => good_mono (by omega) (h1 h), fun h => ?_⟩
  obtain ⟨h3, h4, h5⟩ := h2 h
  exact ⟨h3, by omega, h5⟩
theorem good_last {N lo : Int} : ∀ {ts : List Tk}, GoodT N lo ts → ts ≠ [] ∧ ts[ts.length - 1]? = some ⟨0, [], 0, N⟩
  | [t], h => ⟨by simp, by simp [h.1]⟩
  | t :: u :: r, h => ⟨by simp, by
    have := (good_last h.2.2).2
    simpa using this⟩
end Go.Proofs.YtmfdppgfbgjmcaaDoor
