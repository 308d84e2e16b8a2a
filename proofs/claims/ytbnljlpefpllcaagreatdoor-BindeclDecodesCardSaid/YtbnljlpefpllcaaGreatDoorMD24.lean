/-
  Parts of the proof: Q2.
-/
import Derived.Test.YtbnljlpefpllcaaGreatDoorMD23
import Derived.Test.YtbnljlpefpllcaaGreatDoorMD17
namespace Go.Proofs.YtbnljlpefpllcaaGreatDoor
open Go Go.RowKit
set_option maxRecDepth 100000 in
set_option maxHeartbeats 8000000 in
theorem same_body (b : Bdy) (h1 h2 : BH) (w : World) (hb : b.blocks = []) (H1 : BdAt w b h1) (H2 : BdAt w b h2) :
    Calls Tryz.prog 16 #[.agg (bdC b h1).toArray, .agg (bdC b h2).toArray] w fun e' w' => e' = .returned (.bool true) ∧ Below w.heap.size w w' := by
  obtain ⟨A1, a1, A2, a2, A3, a3, A4, a4, A5, a5⟩ := h1
  obtain ⟨B1, b1, B2, b2, B3, b3, B4, b4, B5, b5⟩ := h2
  obtain ⟨p1, p2, p3, p4, p5⟩ := H1
  obtain ⟨q1, q2, q3, q4, q5⟩ := H2
  obtain ⟨nm, rg, ot, ts, ls, ar, bk⟩ := b
  simp only at *
  subst hb
  obtain ⟨W, hW⟩ : ∃ W, (w.alloc (.cells #[.string nm, .slice A1 rg.length a1, .slice A2 ot.length a2, .slice A3 ts.length a3, .slice A4 ls.length a4, .int .i64 ar, .slice A5 0 a5] 28)).alloc (.cells #[.string nm, .slice B1 rg.length b1, .slice B2 ot.length b2, .slice B3 ts.length b3, .slice B4 ls.length b4, .int .i64 ar, .slice B5 0 b5] 28) = W := ⟨_, rfl⟩
  have hB : Below w.heap.size w W := by rw [← hW]; exact ((Below.refl _ _).alloc (Nat.le_refl _) _).alloc (by simp) _
  have k1 : W.heap[w.heap.size]? = some (.cells #[.string nm, .slice A1 rg.length a1, .slice A2 ot.length a2, .slice A3 ts.length a3, .slice A4 ls.length a4, .int .i64 ar, .slice A5 0 a5] 28 (0, 0)) := by rw [← hW, Below.heap_alloc _ _ _ (by simp)]; exact heap_alloc_new w _
  have k2 : W.heap[w.heap.size + 1]? = some (.cells #[.string nm, .slice B1 rg.length b1, .slice B2 ot.length b2, .slice B3 ts.length b3, .slice B4 ls.length b4, .int .i64 ar, .slice B5 0 b5] 28 (0, 0)) := by
    rw [← hW]
    have := heap_alloc_new (w.alloc (.cells #[.string nm, .slice A1 rg.length a1, .slice A2 ot.length a2, .slice A3 ts.length a3, .slice A4 ls.length a4, .int .i64 ar, .slice A5 0 a5] 28)) (.cells #[.string nm, .slice B1 rg.length b1, .slice B2 ot.length b2, .slice B3 ts.length b3, .slice B4 ls.length b4, .int .i64 ar, .slice B5 0 b5] 28)
    rwa [World.size_alloc] at this
  have HS := Lib.hid (same_str rg A1 B1 a1 b1 W (p1.keep RN.keeps hB) (q1.keep RN.keeps hB))
  have HP := Lib.hid (fun X (h : Below W.heap.size W X) => same_pairs ot A2 B2 a2 b2 X ((p2.keep RPr.keeps hB).keep RPr.keeps h) ((q2.keep RPr.keeps hB).keep RPr.keeps h))
  have T1 := Lib.hid (p3.keep RTy.keeps hB)
  have T2 := Lib.hid (q3.keep RTy.keeps hB)
  have L1 := Lib.hid (p4.keep RLc.keeps hB)
  have L2 := Lib.hid (q4.keep RLc.keeps hB)
  have HB := Lib.hid hB
  have K1 := Lib.hid k1
  have K2 := Lib.hid k2
  have n1 := p3.le
  have n2 := q3.le
  have n3 := p4.le
  have n4 := q4.le
  have n5 := p3.big
  have n6 := q3.big
  have n7 := p4.big
  have n8 := q4.big
  have neqLc : ∀ (a : ByteArray) (b : Int) (X : World), Sem.run Tryz.prog (binOp .neq 87 (.agg #[.string a, .int .i64 b]) (.agg #[.string a, .int .i64 b])) X = .ok (.bool false) X := neqLc0
  clear p1 p2 p3 p4 p5 q1 q2 q3 q4 q5
  obtain ⟨x0, x1, x2, x3, x4, x5, x6, _⟩ := blk7 k1
  obtain ⟨y0, y1, y2, y3, y4, y5, y6, _⟩ := blk7 k2
  clear k1 k2 hB
  change Calls _ _ #[.agg #[.string nm, .slice A1 rg.length a1, .slice A2 ot.length a2, .slice A3 ts.length a3, .slice A4 ls.length a4, .int .i64 ar, .slice A5 0 a5], .agg #[.string nm, .slice B1 rg.length b1, .slice B2 ot.length b2, .slice B3 ts.length b3, .slice B4 ls.length b4, .int .i64 ar, .slice B5 0 b5]] _ _
  go_enter Tryz.func16, Tryz.ntmps16
  go_wp2_with fail
  go_at_call 57
  refine HS.out.mono ?_
  rintro e' w1 ⟨rfl, hb1⟩
  obtain ⟨x0, x1, x2, x3, x4, x5, x6, _⟩ := blk7 ((hb1.block _ (by have := (Array.getElem?_eq_some_iff.1 K1.out).1; omega)).trans K1.out)
  obtain ⟨y0, y1, y2, y3, y4, y5, y6, _⟩ := blk7 ((hb1.block _ (by have := (Array.getElem?_eq_some_iff.1 K2.out).1; omega)).trans K2.out)
  have HB1 := Lib.hid hb1
  clear hb1
  go_wp2_with fail
  go_at_call 58
  refine (HP.out w1 HB1.out).mono ?_
  rintro e' w2 ⟨rfl, hb2⟩
  have hb2 := HB1.out.trans (hb2.mono HB1.out.size)
  obtain ⟨x0, x1, x2, x3, x4, x5, x6, _⟩ := blk7 ((hb2.block _ (by have := (Array.getElem?_eq_some_iff.1 K1.out).1; omega)).trans K1.out)
  obtain ⟨y0, y1, y2, y3, y4, y5, y6, _⟩ := blk7 ((hb2.block _ (by have := (Array.getElem?_eq_some_iff.1 K2.out).1; omega)).trans K2.out)
  have HB2 := Lib.hid hb2
  clear hb2
  go_wp2_with fail
  go_loopw [5] (fun v wr => ∃ i : Nat, i ≤ ts.length ∧ v = .int .i64 i ∧ Hid (Below W.heap.size W wr)) (fun v _ => ts.length - (intOf v).toNat)
  case atStart => exact ⟨0, by omega, rfl, HB2⟩
  case round =>
    obtain ⟨i, hi, rfl, HR⟩ := hrel
    obtain ⟨x0, x1, x2, x3, x4, x5, x6, _⟩ := blk7 ((HR.out.block _ (by have := (Array.getElem?_eq_some_iff.1 K1.out).1; omega)).trans K1.out)
    obtain ⟨y0, y1, y2, y3, y4, y5, y6, _⟩ := blk7 ((HR.out.block _ (by have := (Array.getElem?_eq_some_iff.1 K2.out).1; omega)).trans K2.out)
    by_cases hlt : i < ts.length
    · obtain ⟨c, o, rfl, hc, g1, g2, g3, g4, Af, cf, g5, g6, g7, g8⟩ := (T1.out.keep RTy.keeps HR.out).sl.at_ hlt
      obtain ⟨c2, o2, rfl, hc2, f1, f2, f3, f4, Bf, df, f5, f6, f7, f8⟩ := (T2.out.keep RTy.keeps HR.out).sl.at_ hlt
      have HE := Lib.hid (req6_any ts[i] ts[i] Af Bf cf df wr.drew ⟨g8.keep RInt.keeps (by simp) (Below.refl _ wr).drew, g6, g7⟩ ⟨f8.keep RInt.keeps (by simp) (Below.refl _ wr).drew, f6, f7⟩)
      rw [show decide (ts[i] = ts[i]) = true by simp] at HE
      generalize ts[i] = t at *
      clear f8 g8
      go_wp2_with fail
      go_still_tail 10, (by kernel_rfl)
      change wpList _ _ _ _ _ wr.drew
      go_wp2_with (go_at_call 59; refine HE.out.mono ?_; rintro e' w3 ⟨rfl, hb3⟩; have HB3 := Lib.hid hb3; clear hb3)
      go_roundw
      case rel => exact ⟨i + 1, by omega, by go_num, Lib.hid (HR.out.drew.trans (HB3.out.mono HR.out.size))⟩
      case measure => simp [intOf]; omega
    · skip
      go_wp2_with fail
      go_loopw [6] (fun v wr => ∃ i : Nat, i ≤ ls.length ∧ v = .int .i64 i ∧ Hid (Below W.heap.size W wr)) (fun v _ => ls.length - (intOf v).toNat)
      case atStart => exact ⟨0, by omega, rfl, HR⟩
      case round =>
        obtain ⟨i, hi, rfl, HR⟩ := hrel
        obtain ⟨x0, x1, x2, x3, x4, x5, x6, _⟩ := blk7 ((HR.out.block _ (by have := (Array.getElem?_eq_some_iff.1 K1.out).1; omega)).trans K1.out)
        obtain ⟨y0, y1, y2, y3, y4, y5, y6, _⟩ := blk7 ((HR.out.block _ (by have := (Array.getElem?_eq_some_iff.1 K2.out).1; omega)).trans K2.out)
        by_cases hlt : i < ls.length
        · obtain ⟨c, o, rfl, hc, g1, g2⟩ := (L1.out.keep RLc.keeps HR.out).sl.at_ hlt
          obtain ⟨c2, o2, rfl, hc2, f1, f2⟩ := (L2.out.keep RLc.keeps HR.out).sl.at_ hlt
          generalize ls[i] = t at *
          go_wp2_with fail
          go_quiet (fail)
          go_wp2_with fail
          go_roundw
          case rel => exact ⟨i + 1, by omega, by go_num, Lib.hid (below_drewN HR.out _)⟩
          case measure => simp [intOf]; omega
        · go_wp2_with fail
          go_loopw [7] (fun v wr => v = .int .i64 0 ∧ Hid (Below W.heap.size W wr)) (fun v _ => 0)
          case atStart => exact ⟨rfl, HR⟩
          case round =>
            obtain ⟨rfl, HR⟩ := hrel
            obtain ⟨x0, x1, x2, x3, x4, x5, x6, _⟩ := blk7 ((HR.out.block _ (by have := (Array.getElem?_eq_some_iff.1 K1.out).1; omega)).trans K1.out)
            go_wp2_with fail
            go_ret
            exact ⟨rfl, HB.out.trans (HR.out.mono HB.out.size)⟩
end Go.Proofs.YtbnljlpefpllcaaGreatDoor
