/-
  Walks: span and skip.
-/
import Derived.Test.YtmfdppgfbgjmcaaDoorL0
import Derived.Test.YtmfdppgfbgjmcaaDoorL1
import Derived.Test.YtmfdppgfbgjmcaaDoorSh
import Derived.Deep.LoopGhost
namespace Go.Proofs.YtmfdppgfbgjmcaaDoor
open Go Go.RowKit

theorem ret_i {a b : Int} (h : a = b) : Ending.returned (.int .i64 a) = .returned (.int .i64 b) := by rw [h]
theorem byte_back (c : UInt8) : (c.toNat : Int).toNat.toUInt8 = c := by simp
theorem drop_at (s : ByteArray) (k : Nat) (h : k < s.size) : s.data.toList.drop k = s[k] :: s.data.toList.drop (k + 1) := by
  rw [List.drop_eq_getElem_cons (by simpa using h)]
  rfl
theorem drop_end (s : ByteArray) (k : Nat) (h : s.size ≤ k) : s.data.toList.drop k = [] := List.drop_eq_nil_of_le (by simpa using h)
theorem len_list (s : ByteArray) : s.data.toList.length = s.size := by simp

/-- IndexByte as a test. -/
theorem ib_any (set : ByteArray) (c : UInt8) (w : World) : ∃ j : Int, ((0 ≤ j ∧ set.data.toList.contains c = true) ∨ (j = -1 ∧ set.data.toList.contains c = false)) ∧
    Calls Tryd.prog 13 #[.string set, .int .u8 c.toNat] w fun e' w' => e' = .returned (.int .i64 j) ∧ w' = w := by
  refine ⟨_, index_of_mem c set.data.toList, ?_⟩
  have h := Tryd.strings_IndexByte set c.toNat w
  rwa [byte_back] at h

set_option maxRecDepth 100000 in
set_option maxHeartbeats 2000000 in
theorem span_any (s set : ByteArray) (k0 : Nat) (w : World) (hk : k0 ≤ s.size) (hs : s.size ≤ 1000000) :
    Calls Tryd.prog 21 #[.string s, .int .i64 k0, .string set] w fun e' w' => e' = .returned (.int .i64 (spanL set.data.toList (s.data.toList.drop k0))) ∧ w' = w := by
  go_enter Tryd.func21, Tryd.ntmps21
  go_wp2_with fail
  go_loop [7] (fun v => ∃ n : Nat, k0 + n ≤ s.size ∧ v = .int .i64 n ∧ Hid (spanL set.data.toList (s.data.toList.drop k0) = n + spanL set.data.toList (s.data.toList.drop (k0 + n)))) (fun v => s.size - k0 - (intOf v).toNat)
  case atStart => exact ⟨0, by omega, rfl, Lib.hid (by simp)⟩
  case round =>
    obtain ⟨n, hn, rfl, hsp⟩ := hrel
    by_cases hlt : k0 + n < s.size
    · have hd := drop_at s (k0 + n) hlt
      obtain ⟨j, hj, hib⟩ := ib_any set s[k0 + n] w
      have HIB := Lib.hid hib
      have HSP : Hid (spanL set.data.toList (s.data.toList.drop k0) = n + if set.data.toList.contains s[k0 + n] then spanL set.data.toList (s.data.toList.drop (k0 + n + 1)) + 1 else 0) := Lib.hid (by rw [hsp.out, hd, spanL_cons])
      clear hib hd hsp
      rcases hj with ⟨hj, hc⟩ | ⟨rfl, hc⟩
      · have HN : Hid (spanL set.data.toList (s.data.toList.drop k0) = (n + 1 : Nat) + spanL set.data.toList (s.data.toList.drop (k0 + (n + 1)))) := Lib.hid (by rw [HSP.out, if_pos hc, show k0 + (n + 1) = k0 + n + 1 by omega]; omega)
        clear HSP hc
        go_wp2_with (go_at_call 13; refine HIB.out.mono ?_; rintro e' w' ⟨rfl, rfl⟩)
        go_round
        case rel => exact ⟨n + 1, by omega, by go_num, HN⟩
        case measure => simp [intOf]; omega
      · have HN : Hid (spanL set.data.toList (s.data.toList.drop k0) = n) := Lib.hid (by rw [HSP.out, hc]; rfl)
        clear HSP hc
        go_wp2_with (go_at_call 13; refine HIB.out.mono ?_; rintro e' w' ⟨rfl, rfl⟩)
        go_ret
        exact ⟨ret_i (by rw [HN.out]), rfl⟩
    · have HN : Hid (spanL set.data.toList (s.data.toList.drop k0) = n) := Lib.hid (by rw [hsp.out, drop_end s (k0 + n) (by omega), spanL_nil]; rfl)
      clear hsp
      go_wp2_with fail
      go_ret
      exact ⟨ret_i (by rw [HN.out]), rfl⟩
end Go.Proofs.YtmfdppgfbgjmcaaDoor
