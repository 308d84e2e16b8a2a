/-
  Walks: project of places (the type of a component).
-/
import Derived.Test.YtmfdppgfbgjmcaaW4
namespace Go.Proofs.Ytmfdppgfbgjmcaa
open Go.RowKit

/-- The type of a component of t: its index and an error. -/
def prT (t : Ty) (x : Pj) : Int × Int :=
  if x.kind = 0 ∧ t.kind = 3 then (t.elem, 0)
  else if x.kind = 1 ∧ t.kind = 4 then (if x.field < t.flds.length then (t.flds.getD x.field.toNat 0, 0) else (0, 3))
  else (0, 22)

set_option maxHeartbeats 2000000 in
theorem project_any (ts : List Ty) (i : Nat) (t : Ty) (x : Pj) (A : Option Addr) (c : Nat) (w : World) (hx : Slc 5 RTy w A c ts) (hi : i < ts.length) (ht : ts[i] = t) (hf : x.kind = 1 → 0 ≤ x.field) :
    Calls Try.prog 39 #[.slice A ts.length c, .int .i64 i, .agg #[.int .i64 x.kind, .int .i64 x.field]] w fun e w' => e = .returned (.agg #[.int .i64 (prT t x).1, .int .i64 (prT t x).2]) ∧ Below w.heap.size w w' := by
  obtain ⟨hs, hle, hbig⟩ := hx
  obtain ⟨b, off, rfl, hb, hr⟩ := hs.at_ hi
  rw [ht] at hr
  clear ht hs
  obtain ⟨g1, g2, g3, g4, A2, c2, g5, hl2, hm2, hs2⟩ := hr
  by_cases h0 : x.kind = 0
  · have t1 : (x.kind == 0) = true := by simp [h0]
    have t1' : (x.kind == 1) = false := by simp [h0]
    by_cases h1 : t.kind = 3
    · have e1 : Hid ((prT t x).1 = t.elem) := Lib.hid (by simp [prT, h0, h1])
      have e2 : Hid ((prT t x).2 = 0) := Lib.hid (by simp [prT, h0, h1])
      have t2 : (t.kind == 3) = true := by simp [h1]
      clear h0 h1 hs2 hf
      go_enter Try.func39, Try.ntmps39
      go_wp2
      exact bodyPost_ret (by simp [results, Try.results39, go_sem]; rfl) rfl ⟨by rw [e1.out, e2.out], by (repeat (first | exact Below.refl _ _ | assumption | refine Below.alloc ?_ (by first | omega | (simp; done) | (simp; omega)) _ | refine below_drewN ?_ _ | refine Below.drew ?_ | refine Below.setCell ?_ (by first | omega | (simp; done) | (simp; omega)) _))⟩
    · have e1 : Hid ((prT t x).1 = 0) := Lib.hid (by simp [prT, h0, h1])
      have e2 : Hid ((prT t x).2 = 22) := Lib.hid (by simp [prT, h0, h1])
      have t2 : (t.kind == 3) = false := by simp [h1]
      clear h0 h1 hs2 hf
      go_enter Try.func39, Try.ntmps39
      go_wp2
      exact bodyPost_ret (by simp [results, Try.results39, go_sem]; rfl) rfl ⟨by rw [e1.out, e2.out], by (repeat (first | exact Below.refl _ _ | assumption | refine Below.alloc ?_ (by first | omega | (simp; done) | (simp; omega)) _ | refine below_drewN ?_ _ | refine Below.drew ?_ | refine Below.setCell ?_ (by first | omega | (simp; done) | (simp; omega)) _))⟩
  · have t1 : (x.kind == 0) = false := by simp [h0]
    by_cases h1 : x.kind = 1
    · have t1' : (x.kind == 1) = true := by simp [h1]
      have hf0 := hf h1
      by_cases h2 : t.kind = 4
      · have t2 : (t.kind == 4) = true := by simp [h2]
        by_cases h3 : x.field < t.flds.length
        · obtain ⟨kd, fd⟩ := x
          simp only [] at *
          obtain ⟨j, rfl⟩ := Int.eq_ofNat_of_zero_le hf0
          have h4 : j < t.flds.length := by omega
          obtain ⟨b3, off3, rfl, hb3, hr3⟩ := hs2.at_ h4
          have e1 : Hid ((prT t ⟨kd, j⟩).1 = t.flds[j]) := Lib.hid (by simp [prT, h1, h2, h4])
          have e2 : Hid ((prT t ⟨kd, j⟩).2 = 0) := Lib.hid (by simp [prT, h1, h2, h4])
          generalize t.flds[j] = y at *
          unfold RInt at hr3
          rw [Nat.mul_one] at hr3
          have hbs := lt_steps hb3
          clear h0 h1 h2 hs2 hf hf0
          go_enter Try.func39, Try.ntmps39
          go_wp2
          exact bodyPost_ret (by simp [results, Try.results39, go_sem]; rfl) rfl ⟨by rw [e1.out, e2.out], by (repeat (first | exact Below.refl _ _ | assumption | refine Below.alloc ?_ (by first | omega | (simp; done) | (simp; omega)) _ | refine below_drewN ?_ _ | refine Below.drew ?_ | refine Below.setCell ?_ (by first | omega | (simp; done) | (simp; omega)) _))⟩
        · have e1 : Hid ((prT t x).1 = 0) := Lib.hid (by simp [prT, h1, h2, h3])
          have e2 : Hid ((prT t x).2 = 3) := Lib.hid (by simp [prT, h1, h2, h3])
          have hd : decide (x.field < (t.flds.length : Int)) = false := by simpa using h3
          clear h0 h1 h2 hs2 hf
          go_enter Try.func39, Try.ntmps39
          go_wp2
          exact bodyPost_ret (by simp [results, Try.results39, go_sem]; rfl) rfl ⟨by rw [e1.out, e2.out], by (repeat (first | exact Below.refl _ _ | assumption | refine Below.alloc ?_ (by first | omega | (simp; done) | (simp; omega)) _ | refine below_drewN ?_ _ | refine Below.drew ?_ | refine Below.setCell ?_ (by first | omega | (simp; done) | (simp; omega)) _))⟩
      · have e1 : Hid ((prT t x).1 = 0) := Lib.hid (by simp [prT, h1, h2])
        have e2 : Hid ((prT t x).2 = 22) := Lib.hid (by simp [prT, h1, h2])
        have t2 : (t.kind == 4) = false := by simp [h2]
        clear h0 h1 h2 hs2 hf
        go_enter Try.func39, Try.ntmps39
        go_wp2
        exact bodyPost_ret (by simp [results, Try.results39, go_sem]; rfl) rfl ⟨by rw [e1.out, e2.out], by (repeat (first | exact Below.refl _ _ | assumption | refine Below.alloc ?_ (by first | omega | (simp; done) | (simp; omega)) _ | refine below_drewN ?_ _ | refine Below.drew ?_ | refine Below.setCell ?_ (by first | omega | (simp; done) | (simp; omega)) _))⟩
    · have t1' : (x.kind == 1) = false := by simp [h1]
      have e1 : Hid ((prT t x).1 = 0) := Lib.hid (by simp [prT, h1, h0])
      have e2 : Hid ((prT t x).2 = 22) := Lib.hid (by simp [prT, h1, h0])
      clear h0 h1 hs2 hf
      go_enter Try.func39, Try.ntmps39
      go_wp2
      exact bodyPost_ret (by simp [results, Try.results39, go_sem]; rfl) rfl ⟨by rw [e1.out, e2.out], by (repeat (first | exact Below.refl _ _ | assumption | refine Below.alloc ?_ (by first | omega | (simp; done) | (simp; omega)) _ | refine below_drewN ?_ _ | refine Below.drew ?_ | refine Below.setCell ?_ (by first | omega | (simp; done) | (simp; omega)) _))⟩
end Go.Proofs.Ytmfdppgfbgjmcaa
