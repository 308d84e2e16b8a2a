/-
  Walk: alive, the examples of the chapter.
-/
import Derived.Test.YtmfdppgfbgjmcaaDoorL10
namespace Go.Proofs.YtmfdppgfbgjmcaaDoor
open Go Go.RowKit Go.WideShapes

def ex1T : List Tk := [⟨3, [120], 0, 0⟩, ⟨8, [61], 0, 3⟩, ⟨2, [], -12, 5⟩, ⟨8, [59], 0, 8⟩, ⟨0, [], 0, 14⟩]
theorem ex1L : lexL [37, 120, 32, 61, 32, 45, 49, 50, 59, 32, 47, 47, 32, 121] = (ex1T, 14, 0) := by kernel_rfl
theorem ex2L : lexL [49, 97] = ([], 1, 18) := by kernel_rfl
theorem ex3L : lexL [48, 49, 50] = ([], 0, 18) := by kernel_rfl

theorem lex1 (w : World) (hv : VarsOk w) : Calls Tryd.prog 8 #[.string ⟨#[37, 120, 32, 61, 32, 45, 49, 50, 59, 32, 47, 47, 32, 121]⟩] w fun e' w' => ∃ A c, e' = .returned (.tuple #[.slice A 5 c, .int .i64 14, .int .i64 0]) ∧ Slc 4 RTk w' A c ex1T ∧ Below w.heap.size w w' := by
  refine (lex_any _ w (by decide) hv).mono ?_
  rintro e' w' ⟨⟨A, c, rfl, hs⟩, hb⟩
  rw [show (⟨#[37, 120, 32, 61, 32, 45, 49, 50, 59, 32, 47, 47, 32, 121]⟩ : ByteArray).data.toList = [37, 120, 32, 61, 32, 45, 49, 50, 59, 32, 47, 47, 32, 121] from rfl, ex1L] at *
  exact ⟨A, c, rfl, hs, hb⟩
theorem lex2 (w : World) (hv : VarsOk w) : Calls Tryd.prog 8 #[.string ⟨#[49, 97]⟩] w fun e' w' => ∃ A c, e' = .returned (.tuple #[.slice A 0 c, .int .i64 1, .int .i64 18]) ∧ Below w.heap.size w w' := by
  refine (lex_any _ w (by decide) hv).mono ?_
  rintro e' w' ⟨⟨A, c, rfl, hs⟩, hb⟩
  rw [show (⟨#[49, 97]⟩ : ByteArray).data.toList = [49, 97] from rfl, ex2L] at *
  exact ⟨A, c, rfl, hb⟩
theorem lex3 (w : World) (hv : VarsOk w) : Calls Tryd.prog 8 #[.string ⟨#[48, 49, 50]⟩] w fun e' w' => ∃ A c, e' = .returned (.tuple #[.slice A 0 c, .int .i64 0, .int .i64 18]) ∧ Below w.heap.size w w' := by
  refine (lex_any _ w (by decide) hv).mono ?_
  rintro e' w' ⟨⟨A, c, rfl, hs⟩, hb⟩
  rw [show (⟨#[48, 49, 50]⟩ : ByteArray).data.toList = [48, 49, 50] from rfl, ex3L] at *
  exact ⟨A, c, rfl, hb⟩

set_option maxRecDepth 100000 in
set_option maxHeartbeats 4000000 in
theorem alive_any (w : World) (hv : VarsOk w) : Calls Tryd.prog 7 #[] w fun e' w' => e' = .returned (.bool true) ∧ Below w.heap.size w w' := by
  have HV0 := Lib.hid hv
  clear hv
  go_enter Tryd.func7, Tryd.ntmps7
  go_wp2_with fail
  go_at_call 8
  refine (lex1 _ HV0.out).mono ?_
  rintro e' w1 ⟨A, c, rfl, hs1, hb1⟩
  have HB1 := Lib.hid hb1
  have HS1 := Lib.hid hs1
  have HV1 := Lib.hid (HV0.out.keep hb1)
  clear hb1 hs1 HV0
  go_wp2_with fail
  go_at_call 8
  refine (lex2 _ HV1.out).mono ?_
  rintro e' w2 ⟨A2, c2, rfl, hb2⟩
  have HB2 := Lib.hid (HB1.out.trans (hb2.mono HB1.out.size))
  have HS2 := Lib.hid (HS1.out.keep RTk.keeps hb2)
  have HV2 := Lib.hid (HV1.out.keep hb2)
  clear hb2 HS1 HV1 HB1
  go_wp2_with fail
  go_at_call 8
  refine (lex3 _ HV2.out).mono ?_
  rintro e' w3 ⟨A3, c3, rfl, hb3⟩
  have HB3 := Lib.hid (HB2.out.trans (hb3.mono HB2.out.size))
  have hs3 := HS2.out.keep RTk.keeps hb3
  clear hb3 HS2 HV2 HB2
  obtain ⟨b, o, rfl, hb, hr⟩ := hs3.sl (by decide)
  obtain ⟨x0, x1, x2, x3⟩ := hr 0 _ rfl
  obtain ⟨y0, y1, y2, y3⟩ := hr 2 _ rfl
  obtain ⟨z0, z1, z2, z3⟩ := hr 4 _ rfl
  clear hs3 hr
  simp only [Nat.zero_mul, Nat.add_zero] at x0 x1 x2 x3
  have hF : Hid (Calls Tryd.prog 9 #[.agg #[.int .i64 3, .string ⟨#[120]⟩, .int .i64 0, .int .i64 0]] w3 fun e' w' => e' = .returned (.string ⟨#[37, 120]⟩) ∧ Below w3.heap.size w3 w') := Lib.hid (format_text ⟨3, [120], 0, 0⟩ w3 (by simp) (by simp))
  go_wp2_with (go_at_call 9; refine hF.out.mono ?_; rintro e' w4 ⟨rfl, hb4⟩)
  go_ret
  exact ⟨rfl, HB3.out.trans (hb4.mono HB3.out.size)⟩
end Go.Proofs.YtmfdppgfbgjmcaaDoor
