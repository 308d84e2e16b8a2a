/-
  Walk: the law LexerConcatenation.
-/
import Derived.Test.YtmfdppgfbgjmcaaDoorL11
import Derived.Test.YtmfdppgfbgjmcaaDoorL16
namespace Go.Proofs.YtmfdppgfbgjmcaaDoor
open Go Go.RowKit Go.WideShapes

theorem cat_bytes (s t : ByteArray) : (s ++ (⟨#[10]⟩ : ByteArray) ++ t).data.toList = s.data.toList ++ 10 :: t.data.toList := by simp [ByteArray.data_append]

set_option maxRecDepth 100000 in
set_option maxHeartbeats 8000000 in
theorem concat_any (s t : ByteArray) (w : World) (hs : s.data.size ≤ 140737488351232) (ht : t.data.size ≤ 140737488351232) (hv : VarsOk w) : Calls Tryd.prog 4 #[.string s, .string t] w fun e' w' => e' = .returned (.bool true) ∧ Below w.heap.size w w' := by
  have hs' : s.size ≤ 140737488351232 := hs
  have ht' : t.size ≤ 140737488351232 := ht
  have HV := Lib.hid hv
  clear hv hs ht
  by_cases h5 : 5000 < s.size + t.size
  · go_enter Tryd.func4, Tryd.ntmps4
    go_wp2_with (go_at_call 7; refine (alive_any _ HV.out).mono ?_; rintro e' w1 ⟨rfl, hb1⟩)
    go_ret
    exact ⟨rfl, hb1⟩
  have hg1 := lexL_good s.data.toList
  have hg2 := lexL_good t.data.toList
  rw [len_list] at hg1 hg2
  have hcat := lexL_cat s.data.toList t.data.toList
  rw [len_list] at hcat
  obtain ⟨ts, pa, ea, hx⟩ : ∃ ts pa ea, lexL s.data.toList = (ts, pa, ea) := ⟨_, _, _, rfl⟩
  obtain ⟨us, pb, eb, hy⟩ : ∃ us pb eb, lexL t.data.toList = (us, pb, eb) := ⟨_, _, _, rfl⟩
  obtain ⟨vs, pc, ec, hz⟩ : ∃ vs pc ec, lexL (s.data.toList ++ 10 :: t.data.toList) = (vs, pc, ec) := ⟨_, _, _, rfl⟩
  have HL1 : Hid (∀ W, VarsOk W → Calls Tryd.prog 8 #[.string s] W fun e' w' => ∃ A c, e' = .returned (.tuple #[.slice A ts.length c, .int .i64 pa, .int .i64 ea]) ∧ Slc 4 RTk w' A c ts ∧ Below W.heap.size W w') := Lib.hid (fun W hW => by
    refine (lex_any s W (by omega) hW).mono ?_
    rintro e' w' ⟨⟨A, c, rfl, hs⟩, hb⟩
    rw [hx] at *
    exact ⟨A, c, rfl, hs, hb⟩)
  have HL2 : Hid (∀ W, VarsOk W → Calls Tryd.prog 8 #[.string t] W fun e' w' => ∃ A c, e' = .returned (.tuple #[.slice A us.length c, .int .i64 pb, .int .i64 eb]) ∧ Slc 4 RTk w' A c us ∧ Below W.heap.size W w') := Lib.hid (fun W hW => by
    refine (lex_any t W (by omega) hW).mono ?_
    rintro e' w' ⟨⟨A, c, rfl, hs⟩, hb⟩
    rw [hy] at *
    exact ⟨A, c, rfl, hs, hb⟩)
  have HL3 : Hid (∀ W, VarsOk W → Calls Tryd.prog 8 #[.string (s ++ (⟨#[10]⟩ : ByteArray) ++ t)] W fun e' w' => ∃ A c, e' = .returned (.tuple #[.slice A vs.length c, .int .i64 pc, .int .i64 ec]) ∧ Slc 4 RTk w' A c vs ∧ Below W.heap.size W w') := Lib.hid (fun W hW => by
    refine (lex_any _ W (by simp [ByteArray.size_append]; show s.size + 1 + t.size ≤ _; omega) hW).mono ?_
    rintro e' w' ⟨⟨A, c, rfl, hs⟩, hb⟩
    rw [cat_bytes, hz] at *
    exact ⟨A, c, rfl, hs, hb⟩)
  rw [hx] at hg1
  rw [hy] at hg2
  rw [hx, hy, hz] at hcat
  simp only at hg1 hg2 hcat
  have HC := Lib.hid hcat
  have HG1 := Lib.hid hg1
  have HG2 := Lib.hid hg2
  clear hx hy hz hg1 hg2 hcat
  go_enter Tryd.func4, Tryd.ntmps4
  go_wp2_with fail
  go_at_call 8
  refine (HL1.out _ HV.out).mono ?_
  rintro e' w1 ⟨A1, c1, rfl, hs1, hb1⟩
  have HB1 := Lib.hid hb1
  have HV1 := Lib.hid (HV.out.keep hb1)
  have HS1 := Lib.hid hs1
  clear hb1 hs1 HL1 HV
  go_wp2_with fail
  go_at_call 8
  refine (HL2.out _ HV1.out).mono ?_
  rintro e' w2 ⟨A2, c2, rfl, hs2, hb2⟩
  have HB2 := Lib.hid (HB1.out.trans (hb2.mono HB1.out.size))
  have HV2 := Lib.hid (HV1.out.keep hb2)
  have HS2 := Lib.hid (HS1.out.keep RTk.keeps hb2)
  have HT2 := Lib.hid hs2
  clear hb2 hs2 HL2 HV1 HB1 HS1
  go_wp2_with fail
  go_at_call 8
  refine (HL3.out _ HV2.out).mono ?_
  rintro e' w3 ⟨A3, c3, rfl, hs3, hb3⟩
  have HB3 := Lib.hid (HB2.out.trans (hb3.mono HB2.out.size))
  have HV3 := Lib.hid (HV2.out.keep hb3)
  have HS3 := Lib.hid (HS2.out.keep RTk.keeps hb3)
  have HT3 := Lib.hid (HT2.out.keep RTk.keeps hb3)
  have HU3 := Lib.hid hs3
  have hle1 := HS3.out.le
  have hbig1 := HS3.out.big
  have hle2 := HT3.out.le
  have hbig2 := HT3.out.big
  have hle3 := hs3.le
  have hbig3 := hs3.big
  clear hb3 hs3 HL3 HV2 HB2 HS2 HT2
  by_cases he : ea = 0
  case neg =>
    have hc := HC.out
    rw [if_pos he] at hc
    simp only [Prod.mk.injEq] at hc
    obtain ⟨rfl, rfl, rfl⟩ := hc
    have e1 : (ec == 0) = false := by simp [he]
    have e2 : (ec != 0) = true := by simp [he]
    clear HC HG1 HG2
    go_wp2_with (go_at_call 7; refine (alive_any _ HV3.out).mono ?_; rintro e' wz ⟨rfl, hbz⟩)
    go_ret
    exact ⟨rfl, HB3.out.trans (hbz.mono HB3.out.size)⟩
  case pos =>
  subst he
  have hc := HC.out
  rw [if_neg (by simp)] at hc
  have hgood := HG1.out.1 rfl
  obtain ⟨hne, _⟩ := good_last hgood
  clear HC HG1 hgood
  by_cases hf : eb = 0
  case neg =>
    obtain ⟨_, hp0, hp1⟩ := HG2.out.2 hf
    have hc2 : (vs, pc, ec) = ([], (s.size : Int) + 1 + pb, eb) := by
      rw [hc]
      simp [comb, shiftT, hf]
      omega
    simp only [Prod.mk.injEq] at hc2
    obtain ⟨rfl, rfl, rfl⟩ := hc2
    have e1 : (ec == 0) = false := by simp [hf]
    have e2 : (ec != 0) = true := by simp [hf]
    clear HG2 hc hf hne
    go_wp2_with (go_at_call 7; refine (alive_any _ HV3.out).mono ?_; rintro e' wz ⟨rfl, hbz⟩)
    go_ret
    exact ⟨rfl, HB3.out.trans (hbz.mono HB3.out.size)⟩
  case pos =>
  subst hf
  have hc2 : vs = ts.dropLast ++ us.map (mvT ((s.size : Int) + 1)) ∧ ec = 0 := by
    have : (vs, pc, ec) = (ts.dropLast ++ us.map (mvT ((s.size : Int) + 1)), pb + ((s.size : Int) + 1), 0) := by
      rw [hc]
      simp [comb, shiftT]
    simp only [Prod.mk.injEq] at this
    exact ⟨this.1, this.2.2⟩
  obtain ⟨hvs, rfl⟩ := hc2
  have hg2 := HG2.out.1 rfl
  have HBD := Lib.hid (fun k h => good_bound (Int.le_refl 0) hg2 k h)
  obtain ⟨n1, hn1⟩ : ∃ n1, ts.length = n1 + 1 := ⟨ts.length - 1, by have := List.length_pos_iff.2 hne; omega⟩
  have hvl : vs.length = n1 + us.length := by rw [hvs, List.length_append, List.length_dropLast, List.length_map]; omega
  have hat1 : Hid (∀ k (h : k < n1) (h2 : k < ts.length) (h3 : k < vs.length), vs[k] = ts[k]) := Lib.hid (fun k h h2 h3 => by
    simp only [hvs]
    rw [List.getElem_append_left (by simp; omega), List.getElem_dropLast])
  have hat2 : Hid (∀ j (h2 : j < us.length) (h3 : n1 + j < vs.length), vs[n1 + j] = mvT ((s.size : Int) + 1) us[j]) := Lib.hid (fun j h2 h3 => by
    simp only [hvs]
    rw [List.getElem_append_right (by simp; omega), List.getElem_map]
    congr 2
    simp
    omega)
  have hw1 : IntKind.i64.wrap ((ts.length : Int) - 1) = (n1 : Int) := by rw [IntKind.wrap_i64]; omega
  have h0 : ((ts.length : Int) == 0) = false := by simp; omega
  have h1 : ((vs.length : Int) == (n1 : Int) + (us.length : Int)) = true := by simp; omega
  have h2 : ((vs.length : Int) != (n1 : Int) + (us.length : Int)) = false := by simp; omega
  clear HG2 hc hg2 hvs hne
  go_wp2_with fail
  go_loopw [94] (fun u wr => ∃ k : Nat, k ≤ vs.length ∧ u = .int .i64 k ∧ Hid (Below w.heap.size w wr) ∧ Hid (Slc 4 RTk wr A1 c1 ts) ∧ Hid (Slc 4 RTk wr A2 c2 us) ∧ Hid (Slc 4 RTk wr A3 c3 vs) ∧ Hid (VarsOk wr)) (fun u _ => vs.length - (intOf u).toNat)
  case atStart => exact ⟨0, by omega, rfl, HB3, HS3, HT3, HU3, HV3⟩
  case round =>
    clear HB3 HS3 HT3 HU3 HV3 h0 h1 h2
    obtain ⟨k, hk, rfl, HB, HS, HT, HU, HV⟩ := hrel
    by_cases hlt : k < vs.length
    · obtain ⟨v, hv⟩ : ∃ v, vs[k] = v := ⟨_, rfl⟩
      go_upto_if 102 with fail
      go_cut [14] (fun s14 wx => s14 = .int .i64 k ∧ Box wx wr.heap.size (.int .i64 v.kind) (.string ⟨v.text.toArray⟩) (.int .i64 v.num) (.int .i64 v.pos) ∧ Below wr.heap.size wr wx)
      case first =>
        by_cases hk1 : k < n1
        · have hkt : k < ts.length := by omega
          have hvt := hat1.out k hk1 hkt hlt
          rw [hv] at hvt
          obtain ⟨b, o, rfl, hb, x0, x1, x2, x3⟩ := HS.out.sl.at_ hkt
          rw [← hvt] at x0 x1 x2 x3
          clear hvt hv
          go_wp2_with fail
          go_meet
          exact ⟨rfl, heap_alloc_new wr _, (Below.refl _ _).alloc (Nat.le_refl _) _⟩
        · obtain ⟨j, hj⟩ : ∃ j, k = n1 + j := ⟨k - n1, by omega⟩
          have hju : j < us.length := by omega
          have hvt := hat2.out j hju (by omega)
          have hbd := HBD.out j hju
          have hvk : v = mvT ((s.size : Int) + 1) us[j] := by
            rw [← hvt, ← hv]
            congr 1
          obtain ⟨b, o, rfl, hb, x0, x1, x2, x3⟩ := HT.out.sl.at_ hju
          generalize us[j] = u at *
          have HVK := Lib.hid hvk
          clear hvt hv hvk
          subst hj
          have hA : (n1 : Int) + (j : Int) - ((n1 : Int) + 1) = (j : Int) - 1 := by omega
          have hA2 : ((n1 + j : Nat) : Int) - ((n1 + 1 : Nat) : Int) = (j : Int) - 1 := by omega
          go_wp2_with fail
          go_meet
          rw [HVK.out]
          exact ⟨rfl, heap_alloc_new wr _, (Below.refl _ _).alloc (Nat.le_refl _) _⟩
      case rest =>
      obtain ⟨rfl, hbx, hbw⟩ := hcut
      obtain ⟨w5, rfl⟩ : ∃ w5 : World, w5 = wc := ⟨_, rfl⟩
      have HB5 := Lib.hid (HB.out.trans (hbw.mono HB.out.size))
      have HS5 := Lib.hid (HS.out.keep RTk.keeps hbw)
      have HT5 := Lib.hid (HT.out.keep RTk.keeps hbw)
      have HU5 := Lib.hid (HU.out.keep RTk.keeps hbw)
      have HV5 := Lib.hid (HV.out.keep hbw)
      obtain ⟨q0, q1, q2, q3⟩ := hbx.cells
      obtain ⟨b, o, rfl, hb, x0, x1, x2, x3⟩ := HU5.out.sl.at_ hlt
      rw [hv] at x0 x1 x2 x3
      clear hbx hbw hv HB HS HT HU HV
      go_wp2_with fail
      go_quiet (fail)
      go_wp2_with fail
      go_roundw
      case rel => exact ⟨k + 1, by omega, by go_num, Lib.hid (below_drewN HB5.out _), Lib.hid (HS5.out.keep RTk.keeps (below_drewN (Below.refl _ _) _)), Lib.hid (HT5.out.keep RTk.keeps (below_drewN (Below.refl _ _) _)), Lib.hid (HU5.out.keep RTk.keeps (below_drewN (Below.refl _ _) _)), Lib.hid (HV5.out.keep (below_drewN (Below.refl _ _) _))⟩
      case measure => simp [intOf]; omega
    · go_wp2_with (go_at_call 7; refine (alive_any _ HV.out).mono ?_; rintro e' wz ⟨rfl, hbz⟩)
      go_ret
      exact ⟨rfl, HB.out.trans (hbz.mono HB.out.size)⟩
end Go.Proofs.YtmfdppgfbgjmcaaDoor
