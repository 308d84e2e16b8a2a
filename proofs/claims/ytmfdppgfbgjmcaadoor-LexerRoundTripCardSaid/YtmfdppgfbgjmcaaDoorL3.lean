/-
  Walk: skip.
-/
import Derived.Test.YtmfdppgfbgjmcaaDoorL2
namespace Go.Proofs.YtmfdppgfbgjmcaaDoor
open Go Go.RowKit

theorem skip_true (l : List UInt8) : skipM true l = if l.contains 10 then skipM false (l.drop (Lib.indexByte l 10).toNat) else [] := by
  induction l with
  | nil => rfl
  | cons c r ih =>
    rw [skipM]
    by_cases hc : c = 10
    · subst hc
      simp [Lib.indexByte, skipM, spaces]
    · rw [if_neg hc, ih]
      have h1 : (c == 10) = false := by simpa using hc
      have h2 : (10 == c) = false := by simpa using fun h => hc h.symm
      rw [List.contains_cons, h2, Bool.false_or]
      rcases index_of_mem 10 r with ⟨h3, h4⟩ | ⟨h3, h4⟩
      · rw [if_pos h4, if_pos h4]
        have h5 : (Lib.indexByte r 10 == -1) = false := by simp; omega
        have h6 : Lib.indexByte (c :: r) 10 = Lib.indexByte r 10 + 1 := by simp [Lib.indexByte, hc, h5]
        rw [h6, show (Lib.indexByte r 10 + 1).toNat = (Lib.indexByte r 10).toNat + 1 by omega, List.drop_succ_cons]
      · rw [h4]
        simp
theorem index_lt (c : UInt8) : ∀ l : List UInt8, Lib.indexByte l c < l.length
  | [] => by simp [Lib.indexByte]
  | b :: l => by
    have := index_lt c l
    unfold Lib.indexByte
    split
    · simp
    · split
      · simp; omega
      · simp; omega
theorem index_slash (l : List UInt8) (h : Lib.hasPrefix l [47, 47] = true) : Lib.indexByte l 10 ≠ 0 := by
  match l, h with
  | a :: r, h =>
    simp [Lib.hasPrefix, List.isPrefixOf] at h
    obtain ⟨rfl, _⟩ := h
    have := index_of_mem 10 r
    simp [Lib.indexByte]
    split <;> omega
  | [], h => simp [Lib.hasPrefix, List.isPrefixOf] at h
theorem skip_spaces (l : List UInt8) : skipM false l = skipM false (l.drop (spanL spaces l)) := by
  induction l with
  | nil => rfl
  | cons c r ih =>
    rw [spanL_cons]
    by_cases hc : spaces.contains c = true
    · rw [if_pos hc, List.drop_succ_cons, ← ih, skipM, if_pos hc]
    · rw [if_neg hc]
      rfl
theorem span_stop (set l : List UInt8) : ∀ c r, l.drop (spanL set l) = c :: r → set.contains c = false := by
  induction l with
  | nil => intro c r h; simp at h
  | cons a l ih =>
    intro c r h
    rw [spanL_cons] at h
    by_cases ha : set.contains a = true
    · rw [if_pos ha, List.drop_succ_cons] at h
      exact ih c r h
    · rw [if_neg ha] at h
      simp at h
      rw [← h.1]
      simpa using ha
theorem skip_slash (l : List UInt8) (h : Lib.hasPrefix l [47, 47] = true) : skipM false l = if l.contains 10 then skipM false (l.drop (Lib.indexByte l 10).toNat) else [] := by
  match l, h with
  | a :: b :: r, h =>
    simp [Lib.hasPrefix, List.isPrefixOf] at h
    obtain ⟨rfl, rfl⟩ := h
    have e1 : skipM false (47 :: 47 :: r) = skipM true (47 :: r) := by simp [skipM, spaces]
    have e2 : skipM true (47 :: 47 :: r) = skipM true (47 :: r) := by simp [skipM]
    rw [← skip_true, e1, e2]
  | [a], h => simp [Lib.hasPrefix, List.isPrefixOf] at h
  | [], h => simp [Lib.hasPrefix, List.isPrefixOf] at h
theorem skip_stay (l : List UInt8) (h : Lib.hasPrefix l [47, 47] = false) (hs : ∀ c r, l = c :: r → spaces.contains c = false) : skipM false l = l := by
  match l, h, hs with
  | [], _, _ => rfl
  | [a], h, hs =>
    rw [skipM, hs a [] rfl]
    simp
  | a :: b :: r, h, hs =>
    rw [skipM, hs a (b :: r) rfl]
    simp only [Bool.false_eq_true, if_false]
    rw [if_neg]
    rintro ⟨rfl, h2⟩
    simp at h2
    subst h2
    simp [Lib.hasPrefix, List.isPrefixOf] at h
theorem skip_suffix : ∀ (m : Bool) (l : List UInt8), skipM m l <:+ l
  | true, [] => by simp [skipM]
  | false, [] => by simp [skipM]
  | true, c :: r => by
    rw [skipM]
    split
    · exact (skip_suffix false r).trans (List.suffix_cons _ _)
    · exact (skip_suffix true r).trans (List.suffix_cons _ _)
  | false, c :: r => by
    rw [skipM]
    split
    · exact (skip_suffix false r).trans (List.suffix_cons _ _)
    · split
      · exact (skip_suffix true r).trans (List.suffix_cons _ _)
      · exact List.suffix_refl _
theorem drop_suffix {l m : List UInt8} (h : m <:+ l) : l.drop (l.length - m.length) = m := by
  obtain ⟨p, rfl⟩ := h
  simp

set_option maxRecDepth 100000 in
set_option maxHeartbeats 2000000 in
theorem skip_any (s : ByteArray) (k0 : Nat) (w : World) (hk : k0 ≤ s.size) (hs : s.size ≤ 1000000) :
    Calls Tryd.prog 12 #[.string s, .int .i64 k0] w fun e' w' => e' = .returned (.int .i64 ((s.size - (skipM false (s.data.toList.drop k0)).length : Nat))) ∧ w' = w := by
  go_enter Tryd.func12, Tryd.ntmps12
  go_wp2_with fail
  go_step3
  go_wp2_with fail
  go_step3
  go_wp2_with fail
  go_loop [1] (fun v => ∃ k : Nat, k ≤ s.size ∧ v = .int .i64 k ∧ Hid (skipM false (s.data.toList.drop k0) = skipM false (s.data.toList.drop k))) (fun v => s.size - (intOf v).toNat)
  case atStart => exact ⟨k0, hk, rfl, Lib.hid rfl⟩
  case round =>
    obtain ⟨k, hk, rfl, hsk⟩ := hrel
    obtain ⟨n, hn⟩ : ∃ n, spanL spaces (s.data.toList.drop k) = n := ⟨_, rfl⟩
    have hkn : k + n ≤ s.size := by
      have := spanL_le spaces (s.data.toList.drop k)
      rw [List.length_drop, len_list, hn] at this
      omega
    have hd : s.data.toList.drop (k + n) = (s.data.toList.drop k).drop n := by rw [List.drop_drop]
    have hst := span_stop spaces (s.data.toList.drop k)
    rw [hn, ← hd] at hst
    have hsk2 : skipM false (s.data.toList.drop k0) = skipM false (s.data.toList.drop (k + n)) := by rw [hsk.out, skip_spaces, hn, hd]
    have hS := span_any s ⟨#[32, 9, 10, 13]⟩ k w hk hs
    rw [show (⟨#[32, 9, 10, 13]⟩ : ByteArray).data.toList = spaces from rfl, hn] at hS
    have HS := Lib.hid hS
    have hP := Tryd.strings_HasPrefix (s.extract (k + n) s.size) ⟨#[47, 47]⟩ w
    rw [Lib.extract_to_end, show (⟨#[47, 47]⟩ : ByteArray).data.toList = [47, 47] from rfl] at hP
    obtain ⟨b, hb⟩ : ∃ b, Lib.hasPrefix (s.data.toList.drop (k + n)) [47, 47] = b := ⟨_, rfl⟩
    rw [hb] at hP
    have HP := Lib.hid hP
    have hI := Tryd.strings_IndexByte (s.extract (k + n) s.size) 10 w
    rw [Lib.extract_to_end, show (10 : Int).toNat.toUInt8 = 10 from rfl] at hI
    have hsl := skip_slash (s.data.toList.drop (k + n))
    have hjd := index_of_mem 10 (s.data.toList.drop (k + n))
    have hjl := index_lt 10 (s.data.toList.drop (k + n))
    have hj0 := index_slash (s.data.toList.drop (k + n))
    rw [List.length_drop, len_list] at hjl
    obtain ⟨j, hj⟩ : ∃ j, Lib.indexByte (s.data.toList.drop (k + n)) 10 = j := ⟨_, rfl⟩
    rw [hj] at hI hjd hjl hj0 hsl
    have HI := Lib.hid hI
    clear hS hP hI hn hsk
    cases b
    · clear hd
      have HR : Hid (((s.size - (skipM false (s.data.toList.drop k0)).length : Nat) : Int) = ((k + n : Nat) : Int)) := Lib.hid (by
        rw [hsk2, skip_stay _ hb hst, List.length_drop, len_list]
        omega)
      clear hsk2 hst hj hjd hb hjl hj0 hsl HI
      go_wp2_with (first
        | (go_at_call 21; refine HS.out.mono ?_; rintro e' w' ⟨rfl, rfl⟩)
        | (go_at_call 22; refine HP.out.mono ?_; rintro e' w' ⟨rfl, rfl⟩))
      rw [Exit.noGoto_ret]
      go_ret
      exact ⟨ret_i HR.out.symm, rfl⟩
    · replace hj0 := hj0 hb
      rcases hjd with ⟨hj1, hc⟩ | ⟨rfl, hc⟩
      · obtain ⟨m, rfl⟩ := Int.eq_ofNat_of_zero_le hj1
        have HN : Hid (skipM false (s.data.toList.drop k0) = skipM false (s.data.toList.drop (k + n + m))) := Lib.hid (by
          rw [hsk2, hsl hb, if_pos hc, List.drop_drop, Int.toNat_natCast])
        clear hsk2 hst hj hb hsl hc hd
        go_wp2_with (first
          | (go_at_call 21; refine HS.out.mono ?_; rintro e' w' ⟨rfl, rfl⟩)
          | (go_at_call 22; refine HP.out.mono ?_; rintro e' w' ⟨rfl, rfl⟩)
          | (go_at_call 13; refine HI.out.mono ?_; rintro e' w' ⟨rfl, rfl⟩))
        go_round
        case rel => exact ⟨k + n + m, by omega, by go_num, HN⟩
        case measure => simp [intOf]; omega
      · have HR : Hid (((s.size - (skipM false (s.data.toList.drop k0)).length : Nat) : Int) = (s.size : Int)) := Lib.hid (by
          rw [hsk2, hsl hb, hc]
          simp)
        clear hsk2 hst hj hb hsl hc hd
        go_wp2_with (first
          | (go_at_call 21; refine HS.out.mono ?_; rintro e' w' ⟨rfl, rfl⟩)
          | (go_at_call 22; refine HP.out.mono ?_; rintro e' w' ⟨rfl, rfl⟩)
          | (go_at_call 13; refine HI.out.mono ?_; rintro e' w' ⟨rfl, rfl⟩))
        rw [Exit.noGoto_ret]
        go_ret
        exact ⟨ret_i HR.out.symm, rfl⟩
end Go.Proofs.YtmfdppgfbgjmcaaDoor
