/-
  Walk: the law LexerSpaces.
-/
import Derived.Test.YtmfdppgfbgjmcaaDoorL11
import Derived.Test.YtmfdppgfbgjmcaaDoorL19
namespace Go.Proofs.YtmfdppgfbgjmcaaDoor
open Go Go.RowKit Go.WideShapes

theorem before_bytes (s m : ByteArray) : ((⟨#[32, 9, 47, 47]⟩ : ByteArray) ++ m ++ (⟨#[10, 13]⟩ : ByteArray) ++ s).data.toList = [32, 9, 47, 47] ++ m.data.toList ++ [10, 13] ++ s.data.toList := by simp [ByteArray.data_append]

set_option maxRecDepth 100000 in
set_option maxHeartbeats 8000000 in
theorem spaces_any (s m : ByteArray) (w : World) (hs : s.data.size ≤ 140737488351232) (hm : m.data.size ≤ 140737488351232) (hv : VarsOk w) : Calls Tryd.prog 6 #[.string s, .string m] w fun e' w' => e' = .returned (.bool true) ∧ Below w.heap.size w w' := by
  have hs' : s.size ≤ 140737488351232 := hs
  have hm' : m.size ≤ 140737488351232 := hm
  have HV := Lib.hid hv
  clear hv hs hm
  by_cases h5 : 5000 < s.size + m.size
  · go_enter Tryd.func6, Tryd.ntmps6
    go_wp2_with (go_at_call 7; refine (alive_any _ HV.out).mono ?_; rintro e' w1 ⟨rfl, hb1⟩)
    go_ret
    exact ⟨rfl, hb1⟩
  have HC := Lib.hid (Tryd.strings_Contains_one m 10 w)
  rcases index_of_mem 10 m.data.toList with ⟨hj, hc⟩ | ⟨hj, hc⟩
  · rw [decide_eq_true hj] at HC
    clear hj hc
    go_enter Tryd.func6, Tryd.ntmps6
    go_wp2_with (first
      | (go_at_call 11; refine HC.out.mono ?_; rintro e' w' ⟨rfl, hw'⟩; obtain rfl := hw'.symm)
      | (go_at_call 7; refine (alive_any _ HV.out).mono ?_; rintro e' w1 ⟨rfl, hb1⟩))
    go_ret
    exact ⟨rfl, hb1⟩
  rw [hj] at HC
  have HC2 : Hid (Calls Tryd.prog 11 #[.string m, .string ⟨#[10]⟩] w fun e' w' => e' = .returned (.bool false) ∧ w' = w) := Lib.hid HC.out
  have hbef := lexL_before m.data.toList s.data.toList hc
  rw [len_list] at hbef
  have hat := lexL_at s.data.toList
  have hgd := lexL_good s.data.toList
  rw [len_list] at hat hgd
  obtain ⟨ts, pa, ea, hx⟩ : ∃ ts pa ea, lexL s.data.toList = (ts, pa, ea) := ⟨_, _, _, rfl⟩
  have HL1 : Hid (∀ W, VarsOk W → Calls Tryd.prog 8 #[.string s] W fun e' w' => ∃ A c, e' = .returned (.tuple #[.slice A ts.length c, .int .i64 pa, .int .i64 ea]) ∧ w'.ownsRow W.heap.size 28 4 (.slice A ts.length c) ts.length (ts.flatMap cellsT) ∧ ts.length ≤ c ∧ c ≤ 9223372036854775807 ∧ Below W.heap.size W w') := Lib.hid (fun W hW => by
    refine (lex_own s W (by omega) hW).mono ?_
    rintro e' w' ⟨⟨A, c, rfl, hs, ho⟩, hb⟩
    rw [hx] at *
    exact ⟨A, c, rfl, ho, hs.le, hs.big, hb⟩)
  have HL2 : Hid (∀ W, VarsOk W → Calls Tryd.prog 8 #[.string ((⟨#[32, 9, 47, 47]⟩ : ByteArray) ++ m ++ (⟨#[10, 13]⟩ : ByteArray) ++ s)] W fun e' w' => ∃ A c, e' = .returned (.tuple #[.slice A ts.length c, .int .i64 (pa + ((m.size : Int) + 6)), .int .i64 ea]) ∧ w'.ownsRow W.heap.size 28 4 (.slice A ts.length c) ts.length ((ts.map (mvT ((m.size : Int) + 6))).flatMap cellsT) ∧ ts.length ≤ c ∧ c ≤ 9223372036854775807 ∧ Below W.heap.size W w') := Lib.hid (fun W hW => by
    refine (lex_own _ W (by simp [ByteArray.size_append]; show 4 + m.size + 2 + s.size ≤ _; omega) hW).mono ?_
    rintro e' w' ⟨⟨A, c, rfl, hs, ho⟩, hb⟩
    rw [before_bytes, hbef, hx] at *
    simp only [shiftT, List.length_map] at hs ho ⊢
    exact ⟨A, c, rfl, ho, by simpa using hs.le, hs.big, hb⟩)
  rw [hx] at hat hgd
  simp only at hat hgd
  have HBD : Hid (∀ k (h : k < ts.length), 0 ≤ ts[k].pos ∧ ts[k].pos ≤ s.size) := Lib.hid (fun k h => by
    by_cases he : ea = 0
    · exact good_bound (Int.le_refl 0) (hgd.1 he) k h
    · have := (hgd.2 he).1
      subst this
      simp at h)
  clear hbef hgd hx hj hc HC
  go_enter Tryd.func6, Tryd.ntmps6
  go_wp2_with (go_at_call 11; refine HC2.out.mono ?_; rintro e' w' ⟨rfl, hw'⟩; obtain rfl := hw'.symm)
  go_at_call 8
  refine (HL1.out _ HV.out).mono ?_
  rintro e' w1 ⟨A1, c1, rfl, ho1, hle1, hbig1, hb1⟩
  have HB1 := Lib.hid hb1
  have HV1 := Lib.hid (HV.out.keep hb1)
  have HO1 := Lib.hid ho1
  clear hb1 ho1 HL1
  go_wp2_with fail
  go_at_call 8
  refine (HL2.out _ HV1.out).mono ?_
  rintro e' w2 ⟨A2, c2, rfl, ho2, hle2, hbig2, hb2⟩
  have HB2 := Lib.hid (HB1.out.trans (hb2.mono HB1.out.size))
  have HO2 := Lib.hid (own_below HO1.out hb2)
  have HU2 := Lib.hid ho2
  have hz1 := HB1.out.size
  have hz2 := hb2.size
  have HLT : Hid (∀ g, Value.ownBlock (.slice A1 ts.length c1) = some g → w.heap.size ≤ g ∧ g < w1.heap.size) := Lib.hid (fun g hg => HO1.out.lt g hg)
  have hbs : ((⟨#[32, 9, 47, 47]⟩ : ByteArray) ++ m ++ (⟨#[10, 13]⟩ : ByteArray)).size = m.size + 6 := by
    simp [ByteArray.size_append]
    show 4 + m.size + 2 = _
    omega
  have hw1 : IntKind.i64.wrap (pa + ((m.size : Int) + 6)) = pa + ((m.size : Int) + 6) := by rw [IntKind.wrap_i64]; omega
  clear hb2 ho2 HL2 HO1 HB1 HV1
  go_wp2_with fail
  go_loopw [61] (fun u wr => ∃ k : Nat, k ≤ ts.length ∧ u = .int .i64 k ∧ Hid (wr.ownsRow w.heap.size 28 4 (.slice A1 ts.length c1) ts.length ((mvd ((m.size : Int) + 6) ts k).flatMap cellsT)) ∧ Hid (wr.ownsRow w1.heap.size 28 4 (.slice A2 ts.length c2) ts.length ((ts.map (mvT ((m.size : Int) + 6))).flatMap cellsT)) ∧ Hid (Below w.heap.size w wr)) (fun u _ => ts.length - (intOf u).toNat)
  case atStart => exact ⟨0, by omega, rfl, Lib.hid (by rw [mvd_zero]; exact HO2.out), HU2, HB2⟩
  case round =>
    clear HO2 HU2 HB2
    obtain ⟨k, hk, rfl, HO, HU, HB⟩ := hrel
    by_cases hlt : k < ts.length
    · obtain ⟨g, cap, hA⟩ : ∃ g cap, Value.slice A1 ts.length c1 = .slice (some ⟨g, 0, none⟩) ts.length cap := by
        rcases HO.out.2 with ⟨_, h0⟩ | ⟨g, cap, _, hA, _⟩
        · omega
        · exact ⟨g, cap, hA⟩
      obtain ⟨rfl, rfl⟩ : A1 = some ⟨g, 0, none⟩ ∧ c1 = cap := by simpa using hA
      obtain ⟨g2, cap2, hA2⟩ : ∃ g cap, Value.slice A2 ts.length c2 = .slice (some ⟨g, 0, none⟩) ts.length cap := by
        rcases HU.out.2 with ⟨_, h0⟩ | ⟨g, cap, _, hA, _⟩
        · omega
        · exact ⟨g, cap, hA⟩
      obtain ⟨rfl, rfl⟩ : A2 = some ⟨g2, 0, none⟩ ∧ c2 = cap2 := by simpa using hA2
      have hgl := HLT.out g rfl
      have hg2 := (HU.out.lt g2 rfl).1
      have hbd := HBD.out k hlt
      obtain ⟨q0, q1, q2, q3⟩ := tok_cells HO.out hlt (mvd_at hlt)
      have qf := HO.out.frozenAt (k * 4 + 3)
      have hst := Lib.hid (HO.out.stored (k * 4 + 3) (.int .i64 (ts[k].pos + ((m.size : Int) + 6)))).1
      have hus := Lib.hid (ownsRow_setCell_other HU.out (a := ⟨g, k * 4 + 3, none⟩) (by simp [Value.ownBlock]; omega) (.int .i64 (ts[k].pos + ((m.size : Int) + 6))))
      have HKT : Hid (wr.ownsRow w.heap.size 28 4 (.slice (some ⟨g, 0, none⟩) ts.length c1) ts.length ((mvd ((m.size : Int) + 6) ts k).flatMap cellsT)) := HO
      obtain ⟨p, hp⟩ : ∃ p, ts[k].pos = p := ⟨_, rfl⟩
      rw [hp] at q3 hbd
      clear hA hA2
      go_upto_region 11 with fail
      go_cut [12] (fun s12 wx => s12 = .int .i64 k ∧ wr.setCell ⟨g, k * 4 + 3, none⟩ (.int .i64 (p + ((m.size : Int) + 6))) = wx)
      case first =>
        clear hst hus HKT HO HU
        go_wp2_with fail
        go_meet
        exact ⟨rfl, rfl⟩
      case rest =>
      obtain ⟨rfl, hwx⟩ := hcut
      obtain ⟨w5, hw5⟩ : ∃ w5 : World, w5 = wc := ⟨_, rfl⟩
      have HO5 : Hid (w5.ownsRow w.heap.size 28 4 (.slice (some ⟨g, 0, none⟩) ts.length c1) ts.length ((mvd ((m.size : Int) + 6) ts (k + 1)).flatMap cellsT)) := Lib.hid (by
        have h := hst.out
        rw [mvd_flat hlt, hp, hwx, ← hw5] at h
        exact h)
      have HU5 : Hid (w5.ownsRow w1.heap.size 28 4 (.slice (some ⟨g2, 0, none⟩) ts.length c2) ts.length ((ts.map (mvT ((m.size : Int) + 6))).flatMap cellsT)) := Lib.hid (by
        have h := hus.out
        rw [hp, hwx, ← hw5] at h
        exact h)
      have HB5 : Hid (Below w.heap.size w w5) := Lib.hid (by
        rw [hw5, ← hwx]
        exact HB.out.setCell hgl.1 _)
      obtain ⟨y0, y1, y2, y3⟩ := tok_cells HO5.out hlt (mvd_here hlt)
      obtain ⟨x0, x1, x2, x3⟩ := tok_cells HU5.out hlt (t := mvT ((m.size : Int) + 6) ts[k]) (by rw [List.getElem?_map, List.getElem?_eq_getElem hlt]; rfl)
      rw [← hw5]
      obtain ⟨v, hv⟩ : ∃ v, mvT ((m.size : Int) + 6) ts[k] = v := ⟨_, rfl⟩
      rw [hv] at x0 x1 x2 x3 y0 y1 y2 y3
      clear hwx hw5 hst hus HKT HO HU HB hp hv qf q0 q1 q2 q3 hbd
      go_wp2_with fail
      go_quiet (fail)
      go_wp2_with fail
      go_roundw
      case rel => exact ⟨k + 1, by omega, by go_num, Lib.hid (own_below HO5.out (below_drewN (Below.refl _ _) _)), Lib.hid (own_below HU5.out (below_drewN (Below.refl _ _) _)), Lib.hid (below_drewN HB5.out _)⟩
      case measure => simp [intOf]; omega
    · go_wp2_with (go_at_call 7; refine (alive_any _ (HV.out.keep HB.out)).mono ?_; rintro e' wz ⟨rfl, hbz⟩)
      go_ret
      exact ⟨rfl, HB.out.trans (hbz.mono HB.out.size)⟩
end Go.Proofs.YtmfdppgfbgjmcaaDoor
