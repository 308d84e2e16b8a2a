/-
  Plain functions: what the lexer computes, on lists of bytes.
-/
import Derived.Lib.Strings
import Derived.Lib.Bytealg
import Derived.Lib.ParseIntB
namespace Go.Proofs.YtmfdppgfbgjmcaaDoor
open Go

/-- The sets of bytes. -/
def spaces : List UInt8 := [32, 9, 10, 13]
def digits : List UInt8 := [48, 49, 50, 51, 52, 53, 54, 55, 56, 57]
def letters : List UInt8 := [95, 97, 98, 99, 100, 101, 102, 103, 104, 105, 106, 107, 108, 109, 110, 111, 112, 113, 114, 115, 116, 117, 118, 119, 120, 121, 122, 65, 66, 67, 68, 69, 70, 71, 72, 73, 74, 75, 76, 77, 78, 79, 80, 81, 82, 83, 84, 85, 86, 87, 88, 89, 90]
def puncts : List UInt8 := [123, 125, 40, 41, 44, 59, 58, 61, 38, 46, 42]

theorem index_of_mem (c : UInt8) : ∀ l : List UInt8, (0 ≤ Lib.indexByte l c ∧ l.contains c = true) ∨ (Lib.indexByte l c = -1 ∧ l.contains c = false)
  | [] => Or.inr ⟨rfl, rfl⟩
  | b :: l => by
    unfold Lib.indexByte
    by_cases hb : b = c
    · subst hb
      exact Or.inl ⟨by simp, by simp⟩
    · have hb2 : (b == c) = false := by simpa using hb
      have hb3 : (c == b) = false := by simpa using fun h => hb h.symm
      rw [hb2, List.contains_cons, hb3]
      rcases index_of_mem c l with ⟨h1, h2⟩ | ⟨h1, h2⟩
      · refine Or.inl ⟨?_, by simpa using h2⟩
        have : (Lib.indexByte l c == -1) = false := by simp; omega
        rw [this]
        simp
        omega
      · refine Or.inr ⟨?_, by simpa using h2⟩
        rw [h1]
        rfl

/-- How many bytes at the head of a list are in a set. -/
def spanL (set l : List UInt8) : Nat := (l.takeWhile set.contains).length
theorem spanL_nil (set : List UInt8) : spanL set [] = 0 := rfl
theorem spanL_cons (set l : List UInt8) (c : UInt8) : spanL set (c :: l) = if set.contains c then spanL set l + 1 else 0 := by
  unfold spanL
  rw [List.takeWhile_cons]
  split <;> simp_all
theorem spanL_le (set l : List UInt8) : spanL set l ≤ l.length := (List.takeWhile_sublist _).length_le

/-- What is left behind white space and comments; in a comment or not. -/
def skipM : Bool → List UInt8 → List UInt8
  | _, [] => []
  | true, c :: r => if c = 10 then skipM false r else skipM true r
  | false, c :: r => if spaces.contains c then skipM false r else if c = 47 ∧ r.head? = some 47 then skipM true r else c :: r
theorem skipM_le : ∀ (m : Bool) (l : List UInt8), (skipM m l).length ≤ l.length
  | _, [] => by simp [skipM]
  | true, c :: r => by
    rw [skipM]
    split
    · have := skipM_le false r; simp; omega
    · have := skipM_le true r; simp; omega
  | false, c :: r => by
    rw [skipM]
    split
    · have := skipM_le false r; simp; omega
    · split
      · have := skipM_le true r; simp; omega
      · simp

/-- A number between limits. -/
def numL (d : List UInt8) (most : Int) : Int × Int :=
  if Lib.trimPrefix d [45] = [] ∨ ((Lib.trimPrefix d [45]).head? = some 48 ∧ d ≠ [48]) then (0, 18)
  else match Lib.parseIntB 64 d with
    | .ok v => if v > most then (0, 3) else (v, 0)
    | _ => (0, 3)

/-- A token. -/
structure Tk where
  kind : Int
  text : List UInt8
  num : Int
  pos : Int
  deriving DecidableEq

/-- The kind that a sign names, or 0. -/
def signK (c : UInt8) : Int := if c = 37 then 3 else if c = 39 then 4 else if c = 64 then 5 else if c = 35 then 6 else if c = 94 then 7 else if c = 45 then 2 else 0

/-- What one token's reading gives: kind, text, number, how many bytes, error. -/
structure Sc where
  kind : Int
  text : List UInt8
  num : Int
  len : Nat
  err : Int
  deriving DecidableEq

/-- Kind of a token that begins with a byte which is no punct. -/
def kindC (c : UInt8) : Int := if signK c ≠ 0 then signK c else if digits.contains c then 2 else 1
/-- Where its text begins. -/
def fromC (c : UInt8) : Nat := if signK c ≠ 0 then 1 else 0
/-- Whether a kind bears a number. -/
def isN (k : Int) : Bool := k == 2 || k == 6 || k == 7

def scanL : List UInt8 → Sc
  | [] => ⟨0, [], 0, 0, 0⟩
  | c :: r =>
    if puncts.contains c then ⟨8, [c], 0, 1, 0⟩
    else if isN (kindC c) then
      ⟨kindC c, [], (numL (if kindC c = 2 then (c :: r).take (fromC c + spanL digits ((c :: r).drop (fromC c))) else ((c :: r).drop (fromC c)).take (spanL digits ((c :: r).drop (fromC c)))) (if kindC c = 2 then 9223372036854775807 else 65535)).1,
        fromC c + spanL digits ((c :: r).drop (fromC c)), (numL (if kindC c = 2 then (c :: r).take (fromC c + spanL digits ((c :: r).drop (fromC c))) else ((c :: r).drop (fromC c)).take (spanL digits ((c :: r).drop (fromC c)))) (if kindC c = 2 then 9223372036854775807 else 65535)).2⟩
    else if spanL letters ((c :: r).drop (fromC c)) = 0 then ⟨kindC c, [], 0, 0, 18⟩
    else if 255 < spanL (letters ++ digits) ((c :: r).drop (fromC c)) then ⟨kindC c, [], 0, 0, 20⟩
    else ⟨kindC c, ((c :: r).drop (fromC c)).take (spanL (letters ++ digits) ((c :: r).drop (fromC c))), 0, fromC c + spanL (letters ++ digits) ((c :: r).drop (fromC c)), 0⟩

/-- The tokens of what is left of a text of N bytes; glued: the token before was a number and ended just here. -/
def lexF (N : Int) : Nat → List UInt8 → Bool → List Tk × Int × Int
  | 0, l, _ => ([], N - l.length, 99)
  | _ + 1, [], _ => ([⟨0, [], 0, N⟩], N, 0)
  | f + 1, c :: r, g =>
    if g && (letters ++ digits).contains c then ([], N - (c :: r).length, 18)
    else if (scanL (c :: r)).err ≠ 0 then ([], N - (c :: r).length, (scanL (c :: r)).err)
    else
      let q := skipM false ((c :: r).drop (scanL (c :: r)).len)
      let x := lexF N f q (isN (scanL (c :: r)).kind && q.length == ((c :: r).drop (scanL (c :: r)).len).length)
      if x.2.2 ≠ 0 then ([], x.2) else (⟨(scanL (c :: r)).kind, (scanL (c :: r)).text, (scanL (c :: r)).num, N - (c :: r).length⟩ :: x.1, x.2)

/-- What Lex answers. -/
def lexL (l : List UInt8) : List Tk × Int × Int := lexF l.length (l.length + 1) (skipM false l) false
end Go.Proofs.YtmfdppgfbgjmcaaDoor
