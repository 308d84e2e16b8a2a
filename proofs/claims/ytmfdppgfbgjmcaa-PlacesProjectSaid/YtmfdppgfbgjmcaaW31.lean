/-
  The rows' own steps: types and locals that came in.
-/
import Derived.Test.YtmfdppgfbgjmcaaW24
namespace Go.Proofs.Ytmfdppgfbgjmcaa
open Go.ChangeShapes Go.WideShapes Go.ChangeAt Go.RowKit Go.Joins Go.Deep
section
variable {H : Type} {enc : TypeId × Value → H} {w : World} {base : Nat} {spare : Nat → Bool} {held : Bool}

/-- A slice of types. -/
theorem open_types {r : Reach} {b0 : Nat} {v : Value} {d : DataW H} {p : List MemPlace} (hv : Value.okWide Try.prog w r b0 30 v) (h : DataW.Trod enc Try.prog w base spare held 30 v d p) :
    ∃ (A : Option Addr) (c : Nat) (ts : List Ty), v = .slice A ts.length c ∧ Slc 5 RTy w A c ts := by
  obtain ⟨a0, len, cap, rfl⟩ := okWide_slice Try.underlying30 hv
  obtain ⟨fuel, hf⟩ := h
  obtain ⟨A, c, ts, hts, hs⟩ := open_sl (R := RTy) (k := 5) Try.underlying30 (by kernel_rfl) (by omega) hf (fun b o m cs' y hl' hc ht => by
    obtain ⟨x0, m0, y0, e0, g0⟩ := fields_of (j := 0) Try.underlying48 (by kernel_rfl) ht hl' rfl
    obtain ⟨x1, m1, y1, e1, g1⟩ := fields_of (j := 1) Try.underlying48 (by kernel_rfl) ht hl' rfl
    obtain ⟨x2, m2, y2, e2, g2⟩ := fields_of (j := 2) Try.underlying48 (by kernel_rfl) ht hl' rfl
    obtain ⟨x3, m3, y3, e3, g3⟩ := fields_of (j := 3) Try.underlying48 (by kernel_rfl) ht hl' rfl
    obtain ⟨x4, m4, y4, e4, g4⟩ := fields_of (j := 4) Try.underlying48 (by kernel_rfl) ht hl' rfl
    obtain ⟨k0, q0, _, _⟩ := DataW.trod_int (k := .i64) Try.underlying3 g0
    obtain ⟨k1, q1, _⟩ := DataW.trod_bool Try.underlying4 g1
    obtain ⟨k2, q2, _, _⟩ := DataW.trod_int (k := .i64) Try.underlying3 g2
    obtain ⟨k3, q3, _, _⟩ := DataW.trod_int (k := .i64) Try.underlying3 g3
    obtain ⟨A4, c4, fs, q4, s4⟩ := open_sl (R := RInt) (k := 1) Try.underlying39 (by kernel_rfl) (by omega) g4 (fun b' o' m' cs'' y' hl'' hc' ht' => by
      obtain ⟨z, hz, _, _⟩ := DataW.trod_int (k := .i64) Try.underlying3 ht'
      subst hz
      exact ⟨z, hc' 0 (by omega)⟩)
    obtain rfl : x0 = .int .i64 k0 := by simpa using q0
    obtain rfl : x1 = .bool k1 := by simpa using q1
    obtain rfl : x2 = .int .i64 k2 := by simpa using q2
    obtain rfl : x3 = .int .i64 k3 := by simpa using q3
    obtain rfl : x4 = .slice A4 fs.length c4 := by simpa using q4
    exact ⟨⟨k0, k1, k2, k3, fs⟩, (hc 0 (by omega)).trans e0, (hc 1 (by omega)).trans e1, (hc 2 (by omega)).trans e2, (hc 3 (by omega)).trans e3, A4, c4, (hc 4 (by omega)).trans e4, s4.le, s4.big, s4.sl⟩)
  have hvv : Value.slice a0 len cap = .slice A ts.length c := by simpa [Value.cells] using hts
  exact ⟨A, c, ts, hvv, hs⟩

/-- A slice of locals. -/
theorem open_locals {r : Reach} {b0 : Nat} {v : Value} {d : DataW H} {p : List MemPlace} (hv : Value.okWide Try.prog w r b0 31 v) (h : DataW.Trod enc Try.prog w base spare held 31 v d p) :
    ∃ (A : Option Addr) (c : Nat) (ls : List Lc), v = .slice A ls.length c ∧ Slc 2 RLc w A c ls := by
  obtain ⟨a0, len, cap, rfl⟩ := okWide_slice Try.underlying31 hv
  obtain ⟨fuel, hf⟩ := h
  obtain ⟨A, c, ls, hts, hs⟩ := open_sl (R := RLc) (k := 2) Try.underlying31 (by kernel_rfl) (by omega) hf (fun b o m cs' y hl' hc ht => by
    obtain ⟨x0, m0, y0, e0, g0⟩ := fields_of (j := 0) Try.underlying50 (by kernel_rfl) ht hl' rfl
    obtain ⟨x1, m1, y1, e1, g1⟩ := fields_of (j := 1) Try.underlying50 (by kernel_rfl) ht hl' rfl
    obtain ⟨k0, q0, _, _⟩ := DataW.trod_string Try.underlying9 g0
    obtain ⟨k1, q1, _, _⟩ := DataW.trod_int (k := .i64) Try.underlying3 g1
    obtain rfl : x0 = .string k0 := by simpa using q0
    obtain rfl : x1 = .int .i64 k1 := by simpa using q1
    exact ⟨⟨k0, k1⟩, (hc 0 (by omega)).trans e0, (hc 1 (by omega)).trans e1⟩)
  have hvv : Value.slice a0 len cap = .slice A ls.length c := by simpa [Value.cells] using hts
  exact ⟨A, c, ls, hvv, hs⟩
end
end Go.Proofs.Ytmfdppgfbgjmcaa
