/-
  Plain laws for the round trip's walk: lengths, the row of the forms.
-/
import Derived.Test.YtmfdppgfbgjmcaaDoorL25
import Derived.Test.YtmfdppgfbgjmcaaDoorL11
namespace Go.Proofs.YtmfdppgfbgjmcaaDoor
open Go Go.RowKit Go.WideShapes

theorem len_sizeT (ts : List Tk) : ts.length ≤ sizeT ts := by
  unfold sizeT
  induction ts with
  | nil => simp
  | cons t r ih =>
    rw [List.map_cons, List.sum_cons, List.length_cons]
    omega
theorem form_sizeT {ts : List Tk} {k : Nat} (h : k < ts.length) : (formT ts[k]).length + 1 ≤ sizeT ts := by
  have h1 := sizeT_succ h
  have h2 := sizeT_take ts (k + 1)
  omega
theorem lens_sizeT (ts : List Tk) : Lib.lens (ts.map formT) + ts.length = sizeT ts := by
  unfold sizeT Lib.lens
  induction ts with
  | nil => rfl
  | cons t r ih =>
    simp only [List.map_cons, List.sum_cons, List.length_cons] at ih ⊢
    omega
theorem join_sizeT (ts : List Tk) : (Lib.join (ts.map formT) [32]).length ≤ sizeT ts := by
  cases ts with
  | nil => simp [Lib.join_nil]
  | cons t r =>
    have h := lens_sizeT (t :: r)
    rw [List.map_cons] at h ⊢
    rw [Lib.join_length, List.length_map]
    simp only [List.length_cons, List.length_nil] at h ⊢
    omega
/-- A form as a text. -/
def formB (t : Tk) : ByteArray := ⟨(formT t).toArray⟩
theorem formB_size (t : Tk) : (formB t).size = (formT t).length := by
  show (formT t).toArray.size = _
  simp
theorem forms_back (ts : List Tk) : (ts.map formB).map (·.data.toList) = ts.map formT := by
  rw [List.map_map]
  rfl
/-- The forms' cells. -/
def formV (t : Tk) : Value := .string (formB t)
theorem take_formV {ts : List Tk} {k : Nat} (h : k < ts.length) : (ts.take (k + 1)).map formV = (ts.take k).map formV ++ [formV ts[k]] := by
  rw [List.take_succ_eq_append_getElem h, List.map_append]
  rfl
theorem infoS : (Tryd.prog.info? 9).map (fun i => (i.zero, i.size, i.bytes)) = some (some (.string ⟨#[]⟩), 1, 16) := by kernel_rfl

/-- Join over the forms' row. -/
theorem join_forms_any {W : World} {base : Nat} {v : Value} {ts : List Tk} (ho : W.ownsRow base 9 1 v ts.length (ts.map formV)) (hp : 0 < ts.length) (hz : sizeT ts ≤ 1000000) :
    Calls Tryd.prog 10 #[v, .string ⟨#[32]⟩] W fun e' w' => e' = .returned (.string ⟨(Lib.join (ts.map formT) [32]).toArray⟩) ∧ Below W.heap.size W w' := by
  have hl := len_sizeT ts
  rcases ho.2 with ⟨_, h0⟩ | ⟨g, cap, cur, rfl, _, hgg, hc, _, _, _⟩
  · omega
  · have hj := Tryd.strings_Join g 0 cap (ts.map formB) ⟨#[32]⟩ W (fun j x hx => by
      have := ho.cells (g := g) rfl j (.string x) (by
        rw [List.getElem?_map] at hx ⊢
        cases hy : ts[j]? with
        | none => rw [hy] at hx; cases hx
        | some y =>
          rw [hy] at hx
          simp at hx
          subst hx
          rfl)
      rw [add0] at this
      rw [Nat.zero_add]
      exact this) (Array.getElem?_eq_some_iff.1 hgg).1 (by rw [List.length_map]; omega) (by rw [List.length_map]; simpa using hc) (by
        rw [forms_back]
        have := join_sizeT ts
        show (Lib.join (ts.map formT) [32]).length ≤ _
        omega)
    rw [forms_back, List.length_map] at hj
    exact hj
end Go.Proofs.YtmfdppgfbgjmcaaDoor
