/-
  Walks: references of the reference.
-/
import Derived.Test.YtmfdppgfbgjmcaaW13
import Derived.Test.YtmfdppgfbgjmcaaW14
namespace Go.Proofs.Ytmfdppgfbgjmcaa
open Go.RowKit Go.Shelf

theorem own_below {A B : World} {base : Nat} {e : TypeId} {size : Nat} {v : Value} {m : Nat} {xs : List Value} (ho : A.ownsRow base e size v m xs) (h : Below A.heap.size A B) : B.ownsRow base e size v m xs :=
  own_block ho (fun k _ hk _ => h.block k hk)

set_option maxHeartbeats 4000000 in
theorem rrefs_any (ts : List Ty) (ls : List Lc) (l : Int) (ps : List Pj) (A B C : Option Addr) (c d e : Nat) (w : World) (hts : Slc 5 RTy w A c ts) (hls : Slc 2 RLc w B d ls) (hps : Slc 2 RPj w C e ps) (hok : Okay ts ls) (hty : (tyOf ts ls l ps).2 = 0) :
    Calls Try.prog 32 #[.slice A ts.length c, .slice B ls.length d, .agg #[.int .i64 l, .slice C ps.length e]] w fun e' w' => ∃ A' c', e' = .returned (.slice A' (refsOf ts ls l ps).1.length c') ∧ Slc 5 RTy w' A' c' (refsOf ts ls l ps).1 ∧ Below w.heap.size w w' := by
  have HT := Lib.hid hty
  have HOK := Lib.hid hok
  have HLS := Lib.hid hls
  have HPS := Lib.hid hps
  have HTS := Lib.hid hts
  have hp32 := (chk_low (tyOf_good hty).1).2
  have hple := hps.le
  have hpbig := hps.big
  have htle := hts.le
  have htbig := hts.big
  have hfin : Hid (refsOf ts ls l (ps.take ps.length) = refsOf ts ls l ps) := Lib.hid (by rw [List.take_length])
  clear hts hls hps hok hty
  obtain ⟨i0, hi, hz0, hz1, hz2⟩ := info_parts infoTy
  go_enter Try.func32, Try.ntmps32
  go_wp2
  go_loopw [7, 8] (fun v i wr => ∃ k : Nat, k ≤ ps.length ∧ i = .int .i64 k ∧ wr.cell? ⟨w.heap.size, 0, none⟩ = some (.int .i64 l) ∧ wr.cell? ⟨w.heap.size, 1, none⟩ = some (.slice C ps.length e) ∧ Below w.heap.size w wr ∧ ∃ ys : List TH, wr.ownsRow (w.heap.size + 1) 48 5 v ys.length (ys.flatMap cellsH) ∧ (∀ y ∈ ys, GoodH w y) ∧ Hid (ys.map (·.t) = (refsOf ts ls l (ps.take k)).1)) (fun _ i _ => ps.length - (intOf i).toNat)
  case atStart => exact ⟨0, by omega, rfl, by go_simp, by go_simp, (Below.refl _ _).alloc (Nat.le_refl _) _, [], World.ownsRow_nil _ _ _ _, by simp, Lib.hid (by rw [List.take_zero, refsOf_nil]; rfl)⟩
  case round =>
    obtain ⟨k, hk, rfl, y1, y2, hB, ys, hown, hgd, hys⟩ := hrel
    have hwlt := World.block_lt_of_cell? _ _ y1
    by_cases hlt : k < ps.length
    · obtain ⟨bC, oC, rfl, hbC, hrC⟩ := HPS.out.sl.at_ hlt
      obtain ⟨g1, g2⟩ := RPj.keeps _ _ _ w.heap.size _ _ _ (Nat.le_refl _) hbC hB hrC
      have hsn : Hid ((refsOf ts ls l (ps.take (k + 1))).1 = (refsOf ts ls l (ps.take k)).1 ++ refT ts (tyOf ts ls l (ps.take k)).1 ps[k]) := Lib.hid (by
        have h := tyOf_take HT.out (k + 1)
        rw [List.take_succ_eq_append_getElem hlt] at h ⊢
        exact refsOf_snoc h)
      have hyl : Hid (ys.length ≤ 33) := Lib.hid (by
        have h := refsOf_len ts ls l (ps.take k)
        rw [← hys.out, List.length_map] at h
        exact h)
      by_cases hkd : ps[k].kind = 0
      · have e2 : (ps[k].kind == 0) = true := by simp [hkd]
        have hij := tyOf_ok HOK.out (tyOf_take HT.out k)
        obtain ⟨j, hj⟩ := Int.eq_ofNat_of_zero_le hij.1
        have hj2 : j < ts.length := by omega
        obtain ⟨bT, oT, rfl, hbT, hrT⟩ := HTS.out.sl.at_ hj2
        have htl : (ps.take k).length = k := by simp; omega
        have hRec : Hid (∀ W, Below w.heap.size w W → Calls Try.prog 14 #[.slice (some ⟨bT, oT, none⟩) ts.length c, .slice B ls.length d, .agg #[.int .i64 l, .slice (some ⟨bC, oC, none⟩) k e]] W fun e' w' => e' = .returned (.tuple #[.int .i64 j, .int .i64 0]) ∧ Below W.heap.size W w') := Lib.hid (fun W hW => by
          have h := rty_any ts ls l k (ps.take k) htl (some ⟨bT, oT, none⟩) B (some ⟨bC, oC, none⟩) c d e W (HTS.out.keep RTy.keeps hW) (HLS.out.keep RLc.keeps hW) ((HPS.out.takeN k).keep RPj.keeps hW) HOK.out
          rw [htl, hj, tyOf_take HT.out k] at h
          exact h)
        have hsn2 : Hid ((refsOf ts ls l (ps.take (k + 1))).1 = (refsOf ts ls l (ps.take k)).1 ++ [ts[j]]) := Lib.hid (by
          rw [hsn.out, refT, if_pos hkd, hj, Int.toNat_natCast, List.getElem?_eq_getElem hj2]
          rfl)
        generalize ps[k] = x at *
        clear hkd hij hj hrC hsn
        have hwk : IntKind.i64.wrap (k : Int) = (k : Int) := by rw [IntKind.wrap_i64]; omega
        go_wp2
        refine wp_region_m (S := fun X => X.cell? ⟨w.heap.size, 0, none⟩ = some (.int .i64 l) ∧ X.cell? ⟨w.heap.size, 1, none⟩ = some (.slice (some ⟨bC, oC, none⟩) ps.length e)) (t := 15) (by kernel_rfl) ?_
        have hS : wr.drew.cell? ⟨w.heap.size, 0, none⟩ = some (.int .i64 l) ∧ wr.drew.cell? ⟨w.heap.size, 1, none⟩ = some (.slice (some ⟨bC, oC, none⟩) ps.length e) := ⟨y1, y2⟩
        refine wpAnyM_take (i := 0) (v := ?tv0) rfl (by kernel_rfl) (by kernel_rfl) (by kernel_rfl) (by kernel_rfl) (fun _ _ _ h => h) (Or.inl ⟨by rfl, ?ty0⟩) hS ?tr0
        case ty0 =>
          rintro X ⟨s1, s2⟩
          simp only [List.getElem_toArray, List.getElem_cons_zero, List.getElem_cons_succ]
          go_simp
          rfl
        simp only [List.getElem_toArray, List.getElem_cons_zero, List.getElem_cons_succ, Act.put, List.setIfInBounds_toArray, List.set_cons_zero, List.set_cons_succ]
        refine wpAnyM_take (i := 1) (v := ?tv1) rfl (by kernel_rfl) (by kernel_rfl) (by kernel_rfl) (by kernel_rfl) (fun _ _ _ h => h) (Or.inl ⟨by rfl, ?ty1⟩) hS ?tr1
        case ty1 =>
          rintro X ⟨s1, s2⟩
          simp only [List.getElem_toArray, List.getElem_cons_zero, List.getElem_cons_succ]
          go_simp
          rfl
        simp only [List.getElem_toArray, List.getElem_cons_zero, List.getElem_cons_succ, Act.put, List.setIfInBounds_toArray, List.set_cons_zero, List.set_cons_succ]
        refine wpAnyM_take (i := 2) (v := ?tv2) rfl (by kernel_rfl) (by kernel_rfl) (by kernel_rfl) (by kernel_rfl) (fun _ _ _ h => h) (Or.inl ⟨by rfl, ?ty2⟩) hS ?tr2
        case ty2 =>
          rintro X ⟨s1, s2⟩
          simp only [List.getElem_toArray, List.getElem_cons_zero, List.getElem_cons_succ]
          go_simp
          rfl
        simp only [List.getElem_toArray, List.getElem_cons_zero, List.getElem_cons_succ, Act.put, List.setIfInBounds_toArray, List.set_cons_zero, List.set_cons_succ]
        refine wpAnyM_take (i := 3) (v := ?tv3) rfl (by kernel_rfl) (by kernel_rfl) (by kernel_rfl) (by kernel_rfl) (fun _ _ _ h => h) (Or.inl ⟨by rfl, ?ty3⟩) hS ?tr3
        case ty3 =>
          rintro X ⟨s1, s2⟩
          simp only [List.getElem_toArray, List.getElem_cons_zero, List.getElem_cons_succ]
          go_simp
          rfl
        simp only [List.getElem_toArray, List.getElem_cons_zero, List.getElem_cons_succ, Act.put, List.setIfInBounds_toArray, List.set_cons_zero, List.set_cons_succ]
        refine wpAnyM_take (i := 4) (v := ?tv4) rfl (by kernel_rfl) (by kernel_rfl) (by kernel_rfl) (by kernel_rfl) (fun _ _ _ h => h) (Or.inl ⟨by rfl, ?ty4⟩) hS ?tr4
        case ty4 =>
          rintro X ⟨s1, s2⟩
          simp only [List.getElem_toArray, List.getElem_cons_zero, List.getElem_cons_succ]
          go_simp
          rfl
        simp only [List.getElem_toArray, List.getElem_cons_zero, List.getElem_cons_succ, Act.put, List.setIfInBounds_toArray, List.set_cons_zero, List.set_cons_succ]
        refine wpAnyM_take (i := 5) (v := ?tv5) rfl (by kernel_rfl) (by kernel_rfl) (by kernel_rfl) (by kernel_rfl) (fun _ _ _ h => h) (Or.inl ⟨by rfl, ?ty5⟩) hS ?tr5
        case ty5 =>
          rintro X ⟨s1, s2⟩
          simp only [List.getElem_toArray, List.getElem_cons_zero, List.getElem_cons_succ]
          go_simp
          rfl
        simp only [List.getElem_toArray, List.getElem_cons_zero, List.getElem_cons_succ, Act.put, List.setIfInBounds_toArray, List.set_cons_zero, List.set_cons_succ]
        refine wpAnyM_take (i := 6) (v := ?tv6) rfl (by kernel_rfl) (by kernel_rfl) (by kernel_rfl) (by kernel_rfl) (fun _ _ _ h => h) (Or.inl ⟨by rfl, ?ty6⟩) hS ?tr6
        case ty6 =>
          rintro X ⟨s1, s2⟩
          simp only [List.getElem_toArray, List.getElem_cons_zero, List.getElem_cons_succ]
          go_simp
          rfl
        simp only [List.getElem_toArray, List.getElem_cons_zero, List.getElem_cons_succ, Act.put, List.setIfInBounds_toArray, List.set_cons_zero, List.set_cons_succ]
        refine wpAnyM_take (i := 7) (v := .slice (some ⟨bC, oC, none⟩) k e) rfl (by kernel_rfl) (by kernel_rfl) (by kernel_rfl) (by kernel_rfl) (fun _ _ _ h => h) (Or.inl ⟨by rfl, ?ty7⟩) hS ?tr7
        case ty7 =>
          rintro X ⟨s1, s2⟩
          simp only [List.getElem_toArray, List.getElem_cons_zero, List.getElem_cons_succ]
          go_simp
          (try simp only [hwk]); first | rfl | (intro h; omega) | (rw [if_pos (by omega)]; simp)
        simp only [List.getElem_toArray, List.getElem_cons_zero, List.getElem_cons_succ, Act.put, List.setIfInBounds_toArray, List.set_cons_zero, List.set_cons_succ]
        refine wpAnyM_take (i := 8) (v := ?tv8) rfl (by kernel_rfl) (by kernel_rfl) (by kernel_rfl) (by kernel_rfl) (fun _ _ _ h => h) (Or.inl ⟨by rfl, ?ty8⟩) hS ?tr8
        case ty8 =>
          rintro X ⟨s1, s2⟩
          simp only [List.getElem_toArray, List.getElem_cons_zero, List.getElem_cons_succ]
          go_simp
          rfl
        simp only [List.getElem_toArray, List.getElem_cons_zero, List.getElem_cons_succ, Act.put, List.setIfInBounds_toArray, List.set_cons_zero, List.set_cons_succ]
        refine wpAnyM_one (i := 9) (by kernel_rfl) rfl (fun K1 hK1 => ?_)
        simp only [List.getElem_toArray, List.getElem_cons_zero, List.getElem_cons_succ, Act.put, List.setIfInBounds_toArray, List.set_cons_zero, List.set_cons_succ]
        rw [if_pos (by rfl)]
        go_simp
        refine (hRec.out _ hB.drew).mono ?_
        rintro e' w2 ⟨rfl, hb2⟩
        have hS2 : w2.cell? ⟨w.heap.size, 0, none⟩ = some (.int .i64 l) ∧ w2.cell? ⟨w.heap.size, 1, none⟩ = some (.slice (some ⟨bC, oC, none⟩) ps.length e) := ⟨cell_keep hb2 hS.1, cell_keep hb2 hS.2⟩
        refine hK1.out _ _ (fun _ => hS2) ?_
        refine wpAnyM_take (i := 10) (v := ?tv10) rfl (by kernel_rfl) (by kernel_rfl) (by kernel_rfl) (by kernel_rfl) (fun _ _ _ h => h) (Or.inl ⟨by rfl, ?ty10⟩) hS2 ?tr10
        case ty10 =>
          rintro X ⟨s1, s2⟩
          simp only [List.getElem_toArray, List.getElem_cons_zero, List.getElem_cons_succ]
          go_simp
          rfl
        simp only [List.getElem_toArray, List.getElem_cons_zero, List.getElem_cons_succ, Act.put, List.setIfInBounds_toArray, List.set_cons_zero, List.set_cons_succ]
        refine wpAnyM_take (i := 11) (v := ?tv11) rfl (by kernel_rfl) (by kernel_rfl) (by kernel_rfl) (by kernel_rfl) (fun _ _ _ h => h) (Or.inl ⟨by rfl, ?ty11⟩) hS2 ?tr11
        case ty11 =>
          rintro X ⟨s1, s2⟩
          simp only [List.getElem_toArray, List.getElem_cons_zero, List.getElem_cons_succ]
          go_simp
          rfl
        simp only [List.getElem_toArray, List.getElem_cons_zero, List.getElem_cons_succ, Act.put, List.setIfInBounds_toArray, List.set_cons_zero, List.set_cons_succ]
        refine wpAnyM_take (i := 12) (v := ?tv12) rfl (by kernel_rfl) (by kernel_rfl) (by kernel_rfl) (by kernel_rfl) (fun _ _ _ h => h) (Or.inl ⟨by rfl, ?ty12⟩) hS2 ?tr12
        case ty12 =>
          rintro X ⟨s1, s2⟩
          simp only [List.getElem_toArray, List.getElem_cons_zero, List.getElem_cons_succ]
          go_simp
          rfl
        simp only [List.getElem_toArray, List.getElem_cons_zero, List.getElem_cons_succ, Act.put, List.setIfInBounds_toArray, List.set_cons_zero, List.set_cons_succ]
        refine wpAnyM_take (i := 13) (v := ?tv13) rfl (by kernel_rfl) (by kernel_rfl) (by kernel_rfl) (by kernel_rfl) (fun _ _ _ h => h) (Or.inl ⟨by rfl, ?ty13⟩) hS2 ?tr13
        case ty13 =>
          rintro X ⟨s1, s2⟩
          simp only [List.getElem_toArray, List.getElem_cons_zero, List.getElem_cons_succ]
          go_simp
          rfl
        simp only [List.getElem_toArray, List.getElem_cons_zero, List.getElem_cons_succ, Act.put, List.setIfInBounds_toArray, List.set_cons_zero, List.set_cons_succ]
        refine wpAnyM_take (i := 14) (v := ?tv14) rfl (by kernel_rfl) (by kernel_rfl) (by kernel_rfl) (by kernel_rfl) (fun _ _ _ h => h) (Or.inl ⟨by rfl, ?ty14⟩) hS2 ?tr14
        case ty14 =>
          rintro X ⟨s1, s2⟩
          simp only [List.getElem_toArray, List.getElem_cons_zero, List.getElem_cons_succ]
          go_simp
          rfl
        simp only [List.getElem_toArray, List.getElem_cons_zero, List.getElem_cons_succ, Act.put, List.setIfInBounds_toArray, List.set_cons_zero, List.set_cons_succ]
        refine wpAnyM_done (by kernel_rfl) ?_ _
        have hB2 : Below w.heap.size w w2 := hB.drew.trans (hb2.mono hB.drew.size)
        have hs2 := hB2.size
        have hwz : w.heap.size + 1 ≤ w2.heap.size := World.block_lt_of_cell? _ _ hS2.1
        have hown2 : w2.ownsRow (w.heap.size + 1) 48 5 u7 ys.length (ys.flatMap cellsH) := own_below (show wr.drew.ownsRow (w.heap.size + 1) 48 5 u7 ys.length (ys.flatMap cellsH) from own_block hown (fun _ _ _ _ => rfl)) hb2
        obtain ⟨y1', y2'⟩ := hS2
        obtain ⟨r1, r2, r3, r4, A2, c2, r5, r6, r7, r8⟩ := hrT
        have hnewG : Hid (GoodH w ⟨ts[j], A2, c2⟩) := Lib.hid ⟨r8, r6, r7⟩
        replace r1 := cell_keep hB2 r1
        replace r2 := cell_keep hB2 r2
        replace r3 := cell_keep hB2 r3
        replace r4 := cell_keep hB2 r4
        replace r5 := cell_keep hB2 r5
        generalize ts[j] = t at *
        have hlt2' : bT < w2.heap.size := by omega
        have hGD := Lib.hid hgd
        have hownA := hown2.alloc (.cells #[.int .i64 t.kind, .bool t.mu, .int .i64 t.reg, .int .i64 t.elem, .slice A2 t.flds.length c2] 48)
        have hyl2 := hyl.out
        clear hRec hS hb2 hK1 y1 y2 hown hown2 r6 r7 r8 g1 g2 hgd hB
        go_wp2_with (at_builtin; refine wpList_append_own _ rfl _ _ 30 rfl (w.heap.size + 1) 48 i0 _ 5 56 Try.underlying30 hi hz0 hz1 hz2 rfl (by decide) _ _ _ rfl hownA ⟨w2.heap.size, 0, none⟩ 1 1 (cellsH ⟨t, A2, c2⟩) rfl rfl ?c1 ?c2 ?c3 ?c4 ?c5 ?_)
        case c1 =>
          intro j' u hj'
          rw [add0, cell_of_row _ _ j' _ _ _ (heap_alloc_new w2 _)]
          simpa [cellsH] using hj'
        case c2 => simp [cellsH, Value.oneCell']
        case c3 => unfold maxLen; omega
        case c4 => omega
        case c5 => simp; omega
        intro v' w3 hown' hgrow _
        have hB3 : Below w.heap.size w w3 := (hB2.alloc hs2 _).grown hgrow (by simp; omega) (fun g hg => by have := (hownA.lt g hg).1; omega)
        have hb4 : Below (w.heap.size + 1) w2 w3 := ((Below.refl _ _).alloc hwz _).grown hgrow (by simp; omega) (fun g hg => (hownA.lt g hg).1)
        have y3 := (hb4.cell (p := ⟨w.heap.size, 0, none⟩) (by simp)).trans y1'
        have y4 := (hb4.cell (p := ⟨w.heap.size, 1, none⟩) (by simp)).trans y2'
        have hown3 : Hid (w3.ownsRow (w.heap.size + 1) 48 5 v' (ys ++ [TH.mk t A2 c2]).length ((ys ++ [TH.mk t A2 c2]).flatMap cellsH)) := Lib.hid (by
          rw [List.length_append, List.length_singleton, List.flatMap_append, List.flatMap_singleton]
          exact hown')
        clear hown' hgrow hownA hb4 y1' y2' r1 r2 r3 r4 r5 hB2
        go_wp2
        go_roundw
        case rel => exact ⟨k + 1, by omega, by go_num, y3, y4, hB3, ys ++ [⟨t, A2, c2⟩], hown3.out, fun y hy => (List.mem_append.1 hy).elim (hGD.out y) (fun h => by rw [List.mem_singleton] at h; rw [h]; exact hnewG.out), Lib.hid (by rw [List.map_append, hys.out, hsn2.out]; rfl)⟩
        case measure => simp [intOf]; omega
      · have e2 : (ps[k].kind == 0) = false := by simp [hkd]
        have hsn2 : Hid ((refsOf ts ls l (ps.take (k + 1))).1 = (refsOf ts ls l (ps.take k)).1) := Lib.hid (by
          rw [hsn.out, refT, if_neg hkd, List.append_nil])
        have hys2 := Lib.hid (hys.out.trans hsn2.out.symm)
        generalize ps[k] = x at *
        have hGD := Lib.hid hgd
        clear hkd hrC hsn hsn2 hys hgd
        go_wp2
        go_roundw
        case rel => exact ⟨k + 1, by omega, by go_num, y1, y2, hB, ys, hown, hGD.out, hys2⟩
        case measure => simp [intOf]; omega
    · have hke : k = ps.length := by omega
      subst hke
      obtain ⟨A2, c2, rfl, hsl⟩ := slc_of_rows hown (fun y hy => (hgd y hy).keep hB)
      have hlen2 : Hid (ys.length = (refsOf ts ls l ps).1.length) := Lib.hid (by rw [← hfin.out, ← hys.out, List.length_map])
      have hsl2 : Hid (Slc 5 RTy wr A2 c2 (refsOf ts ls l ps).1) := Lib.hid (by rw [← hfin.out, ← hys.out]; exact hsl)
      clear hgd hown hsl
      go_wp2
      go_ret
      exact ⟨A2, c2, by rw [hlen2.out]; rfl, hsl2.out, hB⟩
end Go.Proofs.Ytmfdppgfbgjmcaa
