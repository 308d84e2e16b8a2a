/-
  Walk: the law LexerOffsets.
-/
import Derived.Test.YtmfdppgfbgjmcaaDoorL11
import Derived.Test.YtmfdppgfbgjmcaaDoorL12
namespace Go.Proofs.YtmfdppgfbgjmcaaDoor
open Go Go.RowKit Go.WideShapes

set_option maxRecDepth 100000 in
set_option maxHeartbeats 4000000 in
theorem offsets_any (s : ByteArray) (w : World) (hs : s.size ≤ 9223372036854775807) (hv : VarsOk w) : Calls Tryd.prog 3 #[.string s] w fun e' w' => e' = .returned (.bool true) ∧ Below w.heap.size w w' := by
  have HV := Lib.hid hv
  clear hv
  by_cases h5 : 5000 < s.size
  · go_enter Tryd.func3, Tryd.ntmps3
    go_wp2_with (go_at_call 7; refine (alive_any _ HV.out).mono ?_; rintro e' w1 ⟨rfl, hb1⟩)
    go_ret
    exact ⟨rfl, hb1⟩
  have HLX := Lib.hid (lex_any s w (by omega) HV.out)
  obtain ⟨hg, hbad⟩ := lexL_good s.data.toList
  rw [len_list] at hg hbad
  obtain ⟨ts, at', er, hx⟩ : ∃ ts at' er, lexL s.data.toList = (ts, at', er) := ⟨_, _, _, rfl⟩
  unfold lexP at HLX
  rw [hx] at HLX hg hbad
  simp only at HLX hg hbad
  have HG := Lib.hid hg
  clear hx hg
  go_enter Tryd.func3, Tryd.ntmps3
  go_wp2_with fail
  go_at_call 8
  refine HLX.out.mono ?_
  rintro e' w1 ⟨⟨A, c, rfl, hs1⟩, hb1⟩
  have HB1 := Lib.hid hb1
  have HV1 := Lib.hid (HV.out.keep hb1)
  have HS1 := Lib.hid hs1
  have hle := hs1.le
  have hbig := hs1.big
  clear hb1 hs1 HLX HV
  by_cases he : er = 0
  case neg =>
    obtain ⟨rfl, h0, h1⟩ := hbad he
    have e1 : (er == 0) = false := by simp [he]
    have e2 : (er != 0) = true := by simp [he]
    clear HG hbad
    go_wp2_with (go_at_call 7; refine (alive_any _ HV1.out).mono ?_; rintro e' w2 ⟨rfl, hb2⟩)
    go_ret
    exact ⟨rfl, HB1.out.trans (hb2.mono HB1.out.size)⟩
  case pos =>
  subst he
  have hgood := HG.out rfl
  obtain ⟨hne, hlast⟩ := good_last hgood
  have hpos : 0 < ts.length := List.length_pos_iff.2 hne
  obtain ⟨b, o, rfl, hb, hr⟩ := HS1.out.sl hpos
  obtain ⟨x0, x1, x2, x3⟩ := hr _ _ hlast
  have HR := Lib.hid hr
  have HGD := Lib.hid hgood
  have hw1 : IntKind.i64.wrap ((ts.length : Int) - 1) = ((ts.length - 1 : Nat) : Int) := by rw [IntKind.wrap_i64]; omega
  have h0 : ((ts.length : Int) == 0) = false := by simp; omega
  clear hbad HG hne hlast hr hgood
  go_wp2_with fail
  clear x0 x1 x2 x3
  go_loopw [6, 54] (fun la u wr => ∃ (k : Nat) (lo : Int), k ≤ ts.length ∧ u = .int .i64 k ∧ la = .int .i64 lo ∧ Hid (k = ts.length ∨ GoodT s.size (lo + 1) (ts.drop k)) ∧ Hid (Below w.heap.size w wr) ∧ Hid (Slc 4 RTk wr (some ⟨b, o, none⟩) c ts) ∧ Hid (VarsOk wr)) (fun _ u _ => ts.length - (intOf u).toNat)
  case atStart => exact ⟨0, -1, by omega, rfl, rfl, Lib.hid (Or.inr HGD.out), HB1, HS1, HV1⟩
  case round =>
    clear HB1 HS1 HV1 HGD HR
    obtain ⟨k, lo, hk, rfl, rfl, hgd, HB, HS, HV⟩ := hrel
    by_cases hlt : k < ts.length
    · have hg2 : GoodT s.size (lo + 1) (ts.drop k) := by
        rcases hgd.out with h | h
        · omega
        · exact h
      rw [List.drop_eq_getElem_cons hlt] at hg2
      obtain ⟨b', o', hbo, hb', hr'⟩ := HS.out.sl.at_ hlt
      obtain ⟨rfl, rfl⟩ : b = b' ∧ o = o' := by simpa using hbo
      obtain ⟨x0, x1, x2, x3⟩ := hr'
      have HK := Lib.hid (HS.out.keep RTk.keeps ((Below.refl _ _).alloc (Nat.le_refl _) (.cells #[.int .i64 ts[k].kind, .string ⟨ts[k].text.toArray⟩, .int .i64 ts[k].num, .int .i64 ts[k].pos] 28)))
      have HVK := Lib.hid (HV.out.keep ((Below.refl _ _).alloc (Nat.le_refl _) (.cells #[.int .i64 ts[k].kind, .string ⟨ts[k].text.toArray⟩, .int .i64 ts[k].num, .int .i64 ts[k].pos] 28)))
      have HBK := Lib.hid (HB.out.alloc HB.out.size (.cells #[.int .i64 ts[k].kind, .string ⟨ts[k].text.toArray⟩, .int .i64 ts[k].num, .int .i64 ts[k].pos] 28))
      cases hdr : ts.drop (k + 1) with
      | nil =>
        rw [hdr] at hg2
        obtain ⟨ht, hlo⟩ := hg2
        have hkn : k + 1 = ts.length := by
          have := congrArg List.length hdr
          simp at this
          omega
        have hk1 : ((k : Int) == ((ts.length - 1 : Nat) : Int)) = true := by simp; omega
        rw [ht] at x0 x1 x2 x3 HK HVK HBK
        clear hdr hgd hbo ht hkn HB HS HV
        go_wp2_with fail
        go_roundw
        case rel => exact ⟨k + 1, _, by omega, by go_num, rfl, Lib.hid (Or.inl (by simp at hk1; omega)), HBK, HK, HVK⟩
        case measure => simp [intOf]; omega
      | cons u r =>
        rw [hdr] at hg2
        obtain ⟨hlo, hkd, hg3⟩ := hg2
        have hkn : k + 1 < ts.length := by
          have := congrArg List.length hdr
          simp at this
          omega
        have hk1 : ((k : Int) == ((ts.length - 1 : Nat) : Int)) = false := by simp; omega
        have hkd2 : (ts[k].kind == 0) = false := by simpa using hkd
        have HN : Hid (k + 1 = ts.length ∨ GoodT s.size (ts[k].pos + 1) (ts.drop (k + 1))) := Lib.hid (Or.inr (by rw [hdr]; exact hg3))
        generalize ts[k] = t at *
        clear hdr hgd hbo hg3 hkd HB HS HV
        go_wp2_with fail
        go_roundw
        case rel => exact ⟨k + 1, _, by omega, by go_num, rfl, HN, HBK, HK, HVK⟩
        case measure => simp [intOf]; omega
    · go_wp2_with (go_at_call 7; refine (alive_any _ HV.out).mono ?_; rintro e' w2 ⟨rfl, hb2⟩)
      go_ret
      exact ⟨rfl, HB.out.trans (hb2.mono HB.out.size)⟩
end Go.Proofs.YtmfdppgfbgjmcaaDoor
