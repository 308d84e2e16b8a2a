import Derived.Test.YtmfdppgfbgjmcaaW1
namespace Go.Proofs.Ytmfdppgfbgjmcaa
open Go.RowKit

set_option maxHeartbeats 1000000 in
theorem rcheck_any (l : Int) (A : Option Addr) (c : Nat) (ps : List Pj) (w : World) (h : Slc 2 RPj w A c ps) :
    Calls Try.prog 11 #[.agg #[.int .i64 l, .slice A ps.length c]] w fun e w' => e = .returned (.int .i64 (chk l ps)) ∧ Below w.heap.size w w' := by
  obtain ⟨hs, hle, hbig⟩ := h
  by_cases hq : l < 0 ∨ 32 < ps.length
  · go_enter Try.func11, Try.ntmps11
    go_wp2
    · go_ret
      exact ⟨ret_i (by simp [chk, *]), (Below.refl _ _).alloc (Nat.le_refl _) _⟩
    · go_ret
      exact ⟨ret_i (by rw [chk, if_neg (by omega), if_pos (by omega)]), (Below.refl _ _).alloc (Nat.le_refl _) _⟩
  have hz : Hid (chk l ps = chkP (ps.drop 0)) := Lib.hid (by rw [chk, if_neg (by omega), if_neg (by omega)]; simp)
  go_enter Try.func11, Try.ntmps11
  go_wp2
  go_loopw [3] (fun v wr => ∃ k : Nat, k ≤ ps.length ∧ v = .int .i64 k ∧ wr.cell? ⟨w.heap.size, 1, none⟩ = some (.slice A ps.length c) ∧ w.heap.size < wr.heap.size ∧ Below w.heap.size w wr ∧ Hid (chk l ps = chkP (ps.drop k))) (fun v _ => ps.length - (intOf v).toNat)
  case atStart => exact ⟨0, by omega, rfl, by simp, by simp, (Below.refl _ _).alloc (Nat.le_refl _) _, hz⟩
  case round =>
    obtain ⟨k, hk, rfl, hcA, hlt0, hB, he⟩ := hrel
    clear hz
    by_cases hlt : k < ps.length
    · obtain ⟨b, off, rfl, hb, hr⟩ := hs.at_ hlt
      have hd := Lib.hid (drop_cons hlt)
      generalize ps[k] = x at hr hd
      obtain ⟨g1, g2⟩ := RPj.keeps _ _ _ w.heap.size _ _ _ (Nat.le_refl _) hb hB hr
      have hsz := hB.size
      clear hr hs
      go_wp2
      all_goals
        first
        | (go_ret
           exact ⟨ret_i (by rw [he.out, hd.out, chkP]; grind), hB.alloc hsz _⟩)
        | (go_roundw
           case rel => exact ⟨k + 1, by omega, by go_num, by go_simp, by simp; omega, hB.alloc hsz _, Lib.hid (by rw [he.out, hd.out, chkP]; grind)⟩
           case measure => simp [intOf]; omega)
    · have hd : ps.drop k = [] := List.drop_eq_nil_of_le (by omega)
      have hfin : Hid (chk l ps = 0) := Lib.hid (by rw [he.out, hd, chkP])
      clear he hd hs
      go_wp2
      go_ret
      exact ⟨ret_i hfin.out.symm, hB⟩
end Go.Proofs.Ytmfdppgfbgjmcaa
