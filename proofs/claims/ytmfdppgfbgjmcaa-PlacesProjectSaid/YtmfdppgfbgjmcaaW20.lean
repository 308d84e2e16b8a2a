/-
  The examples of the chapter: contracts at the examples' values.
-/
import Derived.Test.YtmfdppgfbgjmcaaW16
import Derived.Test.YtmfdppgfbgjmcaaW4
namespace Go.Proofs.Ytmfdppgfbgjmcaa
open Go.RowKit Go.Shelf

def exT : List Ty := [⟨2, false, 0, 0, []⟩, ⟨3, true, 1, 0, []⟩, ⟨4, false, 0, 0, [1, 0]⟩]
def exL (n : ByteArray) : List Lc := [⟨n, 2⟩]
def exP : List Pj := [⟨1, 0⟩, ⟨0, 0⟩]

theorem exOk (n : ByteArray) : Okay exT (exL n) := by
  refine ⟨?_, ?_, ?_⟩
  · intro t ht hk; simp [exT] at ht ⊢; rcases ht with rfl | rfl | rfl <;> simp at hk ⊢
  · intro t ht f hf; simp [exT] at ht ⊢; rcases ht with rfl | rfl | rfl <;> simp at hf ⊢; rcases hf with rfl | rfl <;> simp
  · intro x hx; simp [exL] at hx; subst hx; simp [exT]
theorem ex1 (n : ByteArray) : tyOf exT (exL n) 0 exP = (0, 0) := by rfl
theorem ex2 (n : ByteArray) : tyOf exT (exL n) 0 [⟨1, 2⟩] = (0, 3) := by rfl
theorem ex3 (n : ByteArray) : (tyOf exT (exL n) 0 [⟨0, 0⟩]).2 = 22 := by rfl
theorem ex4 (n : ByteArray) : refsOf exT (exL n) 0 exP = ([⟨3, true, 1, 0, []⟩], true) := by rfl

section
variable (n : ByteArray) (A B C D : Option Addr) (c d e g : Nat) (w : World)
theorem exType (hT : Slc 5 RTy w A c exT) (hL : Slc 2 RLc w B d (exL n)) (hP : Slc 2 RPj w C e exP) :
    Calls Try.prog 13 #[.slice A 3 c, .slice B 1 d, .agg #[.int .i64 0, .slice C 2 e]] w fun e' w' => e' = .returned (.tuple #[.int .i64 0, .int .i64 0]) ∧ Below w.heap.size w w' := by
  have h := typeOf_any exT (exL n) 0 exP A B C c d e w hT hL hP (exOk n)
  rw [ex1] at h
  exact h
theorem exType2 (hT : Slc 5 RTy w A c exT) (hL : Slc 2 RLc w B d (exL n)) (hP : Slc 2 RPj w C e [⟨1, 2⟩]) :
    Calls Try.prog 13 #[.slice A 3 c, .slice B 1 d, .agg #[.int .i64 0, .slice C 1 e]] w fun e' w' => e' = .returned (.tuple #[.int .i64 0, .int .i64 3]) ∧ Below w.heap.size w w' := by
  have h := typeOf_any exT (exL n) 0 [⟨1, 2⟩] A B C c d e w hT hL hP (exOk n)
  rw [ex2] at h
  exact h
theorem exType3 (hT : Slc 5 RTy w A c exT) (hL : Slc 2 RLc w B d (exL n)) (hP : Slc 2 RPj w C e [⟨0, 0⟩]) :
    Calls Try.prog 13 #[.slice A 3 c, .slice B 1 d, .agg #[.int .i64 0, .slice C 1 e]] w fun e' w' => (∃ q, e' = .returned (.tuple #[.int .i64 q, .int .i64 22])) ∧ Below w.heap.size w w' := by
  have h := typeOf_any exT (exL n) 0 [⟨0, 0⟩] A B C c d e w hT hL hP (exOk n)
  rw [ex3] at h
  exact h.mono (fun e' w' ⟨h1, h2⟩ => ⟨⟨_, h1⟩, h2⟩)
theorem exMut (hT : Slc 5 RTy w A c exT) (hL : Slc 2 RLc w B d (exL n)) (hP : Slc 2 RPj w C e exP) :
    Calls Try.prog 15 #[.slice A 3 c, .slice B 1 d, .agg #[.int .i64 0, .slice C 2 e]] w fun e' w' => e' = .returned (.bool true) ∧ Below w.heap.size w w' := by
  have h := mutable_any exT (exL n) 0 exP A B C c d e w hT hL hP (exOk n)
  rw [ex4] at h
  exact h
theorem exReg (hT : Slc 5 RTy w A c exT) (hL : Slc 2 RLc w B d (exL n)) (hP : Slc 2 RPj w C e exP) :
    Calls Try.prog 18 #[.slice A 3 c, .slice B 1 d, .agg #[.int .i64 0, .slice C 2 e]] w fun e' w' => ∃ A' c', e' = .returned (.slice A' 1 c') ∧ Slc 1 RInt w' A' c' [1] ∧ Below w.heap.size w w' := by
  have h := regions_any exT (exL n) 0 exP A B C c d e w hT hL hP (exOk n)
  rw [ex4] at h
  exact h
theorem exEqInt (hA : Slc 1 RInt w A c [1]) (hB : Slc 1 RInt w B d [1]) :
    Calls Try.prog 17 #[.slice A 1 c, .slice B 1 d] w fun e' w' => e' = .returned (.bool true) ∧ ∃ q, w' = w.drewN q := eqInt_any A B c d [1] [1] w hA hB
theorem exCheck (hP : Slc 2 RPj w C e exP) :
    Calls Try.prog 10 #[.agg #[.int .i64 0, .slice C 2 e]] w fun e' w' => e' = .returned (.int .i64 0) ∧ Below w.heap.size w w' := check_any 0 C e exP w hP
theorem exEqual (hP : Slc 2 RPj w C e exP) :
    Calls Try.prog 20 #[.agg #[.int .i64 0, .slice C 2 e], .agg #[.int .i64 0, .slice C 2 e]] w fun e' w' => e' = .returned (.bool true) ∧ Below w.heap.size w w' := by
  have h := equal_any ⟨0, exP⟩ ⟨0, exP⟩ C C e e w hP hP
  exact h
theorem exPre (hP : Slc 2 RPj w C e exP) :
    Calls Try.prog 22 #[.agg #[.int .i64 0, .slice none 0 0], .agg #[.int .i64 0, .slice C 2 e]] w fun e' w' => e' = .returned (.bool true) ∧ Below w.heap.size w w' := by
  have h := isPre_any ⟨0, []⟩ ⟨0, exP⟩ none C 0 e w ⟨Sl.nil, by simp, by omega⟩ hP
  exact h
theorem exDer1 (hP : Slc 2 RPj w C e exP) :
    Calls Try.prog 24 #[.agg #[.int .i64 0, .slice C 2 e], .int .i64 1] w fun e' w' => e' = .returned (.bool true) ∧ Below w.heap.size w w' := hasD_any ⟨0, exP⟩ 1 C e w hP
theorem exDer2 (hP : Slc 2 RPj w C e exP) :
    Calls Try.prog 24 #[.agg #[.int .i64 0, .slice C 2 e], .int .i64 2] w fun e' w' => e' = .returned (.bool false) ∧ Below w.heap.size w w' := hasD_any ⟨0, exP⟩ 2 C e w hP
end
end Go.Proofs.Ytmfdppgfbgjmcaa
