/-
  The walks of the two functions Check of places.
-/
import Derived.Test.YtmfdppgfbgjmcaaBase
namespace Go.Proofs.Ytmfdppgfbgjmcaa
open Go.RowKit

/-- What Check answers for a list of projections. -/
def chkP : List Pj → Int
  | [] => 0
  | x :: r => if x.kind ≠ 0 ∧ x.kind ≠ 1 then 14 else if x.kind = 0 ∧ x.field ≠ 0 then 2 else if x.field < 0 then 3 else chkP r
/-- What Check answers. -/
def chk (l : Int) (ps : List Pj) : Int := if l < 0 then 3 else if 32 < ps.length then 19 else chkP ps

theorem drop_cons {α : Type} {l : List α} {k : Nat} (h : k < l.length) : l.drop k = l[k] :: l.drop (k + 1) := List.drop_eq_getElem_cons h

theorem ret_i {k : IntKind} {a b : Int} (h : a = b) : Ending.returned (.int k a) = .returned (.int k b) := by rw [h]

set_option maxHeartbeats 1000000 in
theorem check_any (l : Int) (A : Option Addr) (c : Nat) (ps : List Pj) (w : World) (h : Slc 2 RPj w A c ps) :
    Calls Try.prog 10 #[.agg #[.int .i64 l, .slice A ps.length c]] w fun e w' => e = .returned (.int .i64 (chk l ps)) ∧ Below w.heap.size w w' := by
  obtain ⟨hs, hle, hbig⟩ := h
  by_cases h1 : l < 0
  · go_enter Try.func10, Try.ntmps10
    go_wp2
    go_ret
    exact ⟨ret_i (by simp [chk, h1]), (Below.refl _ _).alloc (Nat.le_refl _) _⟩
  by_cases h2 : 32 < ps.length
  · go_enter Try.func10, Try.ntmps10
    go_wp2
    go_ret
    exact ⟨ret_i (by simp [chk, h1, h2]), (Below.refl _ _).alloc (Nat.le_refl _) _⟩
  have hz : Hid (chk l ps = chkP (ps.drop 0)) := Lib.hid (by simp [chk, h1, h2])
  go_enter Try.func10, Try.ntmps10
  go_wp2
  go_loopw [17] (fun v wr => ∃ k : Nat, k ≤ ps.length ∧ v = .int .i64 k ∧ Below w.heap.size w wr ∧ Hid (chk l ps = chkP (ps.drop k))) (fun v _ => ps.length - (intOf v).toNat)
  case atStart => exact ⟨0, by omega, rfl, (Below.refl _ _).alloc (Nat.le_refl _) _, hz⟩
  case round =>
    obtain ⟨k, hk, rfl, hB, he⟩ := hrel
    clear hz
    by_cases hlt : k < ps.length
    · obtain ⟨b, off, rfl, hb, hr⟩ := hs.at_ hlt
      have hd := Lib.hid (drop_cons hlt)
      generalize ps[k] = x at hr hd
      obtain ⟨g1, g2⟩ := RPj.keeps _ _ _ w.heap.size _ _ _ (Nat.le_refl _) hb hB hr
      have hsz := hB.size
      clear hr hs
      by_cases c1 : x.kind = 0
      · by_cases c2 : x.field = 0
        · have t1 : (x.kind == 0) = true := by simp [c1]
          have t2 : (x.kind != 0) = false := by simp [c1]
          have t3 : (x.field != 0) = false := by simp [c2]
          have c3 : ¬ x.field < 0 := by omega
          have he' : Hid (chk l ps = chkP (ps.drop (k + 1))) := Lib.hid (by rw [he.out, hd.out, chkP, if_neg (by simp [c1]), if_neg (by simp [c2]), if_neg c3])
          clear he hd c1 c2
          go_wp2
          go_roundw
          case rel => exact ⟨k + 1, by omega, by go_num, hB.alloc hsz _, he'⟩
          case measure => simp [intOf]; omega
        · have t1 : (x.kind == 0) = true := by simp [c1]
          have t2 : (x.kind != 0) = false := by simp [c1]
          have t3 : (x.field != 0) = true := by simp [c2]
          have hfin : Hid (chk l ps = 2) := Lib.hid (by rw [he.out, hd.out, chkP, if_neg (by simp [c1]), if_pos (by simp [c1, c2])])
          clear he hd c1 c2
          go_wp2
          go_ret
          exact ⟨ret_i hfin.out.symm, hB.alloc hsz _⟩
      · by_cases c2 : x.kind = 1
        · have t1 : (x.kind == 0) = false := by simp [c1]
          have t2 : (x.kind != 0) = true := by simp [c1]
          have t3 : (x.kind != 1) = false := by simp [c2]
          by_cases c3 : x.field < 0
          · have hfin : Hid (chk l ps = 3) := Lib.hid (by rw [he.out, hd.out, chkP, if_neg (by simp [c2]), if_neg (by simp [c1]), if_pos c3])
            clear he hd c1 c2
            go_wp2
            go_ret
            exact ⟨ret_i hfin.out.symm, hB.alloc hsz _⟩
          · have he' : Hid (chk l ps = chkP (ps.drop (k + 1))) := Lib.hid (by rw [he.out, hd.out, chkP, if_neg (by simp [c2]), if_neg (by simp [c1]), if_neg c3])
            clear he hd c1 c2
            go_wp2
            go_roundw
            case rel => exact ⟨k + 1, by omega, by go_num, hB.alloc hsz _, he'⟩
            case measure => simp [intOf]; omega
        · have t2 : (x.kind != 0) = true := by simp [c1]
          have t3 : (x.kind != 1) = true := by simp [c2]
          have hfin : Hid (chk l ps = 14) := Lib.hid (by rw [he.out, hd.out, chkP, if_pos ⟨c1, c2⟩])
          clear he hd c1 c2
          go_wp2
          go_ret
          exact ⟨ret_i hfin.out.symm, hB.alloc hsz _⟩
    · have hd : ps.drop k = [] := List.drop_eq_nil_of_le (by omega)
      have hfin : Hid (chk l ps = 0) := Lib.hid (by rw [he.out, hd, chkP])
      clear he hd hs
      go_wp2
      go_ret
      exact ⟨ret_i hfin.out.symm, hB⟩
end Go.Proofs.Ytmfdppgfbgjmcaa
