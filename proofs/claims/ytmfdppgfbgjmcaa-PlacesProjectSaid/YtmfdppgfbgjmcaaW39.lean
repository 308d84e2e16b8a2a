/-
  Walk: the law PlacesProject.
-/
import Derived.Test.YtmfdppgfbgjmcaaW30
import Derived.Test.YtmfdppgfbgjmcaaW22
import Derived.Test.YtmfdppgfbgjmcaaW32
import Derived.Deep.DeepCutAuto
namespace Go.Proofs.Ytmfdppgfbgjmcaa
open Go.RowKit Go.Shelf

section
variable {P : Program} {ops : Array Oper} {Q : Exit → Act → World → Prop} {md : Region.Mode} {S : World → Prop} {t : Nat}
/-- Two operations may come up. -/
theorem wpAnyM_two {i j : Nat} {o o' : Oper} {fuel : Nat} {listed : Array Bool} {a : Act} {w : World} (hr : Region.ready md ops listed = [i, j]) (ho : ops[i]? = some o) (ho' : ops[j]? = some o')
    (h : ∀ K' : Act → World → Prop, Shut (∀ a w, (i < t → S w) → wpAnyM P md ops Q S t fuel (listed.setIfInBounds i true) a w → K' a w) → if Region.wanted o (yielded ops a.tmps) = true then Oper.wp P o a w K' Q else K' (a.put o.dst undef) w)
    (h' : ∀ K' : Act → World → Prop, Shut (∀ a w, (j < t → S w) → wpAnyM P md ops Q S t fuel (listed.setIfInBounds j true) a w → K' a w) → if Region.wanted o' (yielded ops a.tmps) = true then Oper.wp P o' a w K' Q else K' (a.put o'.dst undef) w) :
    wpAnyM P md ops Q S t (fuel + 1) listed a w :=
  ⟨fun h0 => (by rw [hr] at h0; cases h0), fun k hk => by
    rw [hr] at hk
    simp only [List.mem_cons, List.not_mem_nil, or_false] at hk
    rcases hk with rfl | rfl
    · exact wpOp_step ho (fun K' hK => h K' (fun a w hS hW => hK a w ⟨hS, hW⟩))
    · exact wpOp_step ho' (fun K' hK => h' K' (fun a w hS hW => hK a w ⟨hS, hW⟩))⟩
end

set_option maxRecDepth 100000 in
set_option maxHeartbeats 8000000 in
theorem pproject_any (ts : List Ty) (ls : List Lc) (l : Int) (ps : List Pj) (A B C : Option Addr) (c d e : Nat) (w : World) (hts : Slc 5 RTy w A c ts) (hls : Slc 2 RLc w B d ls) (hps : Slc 2 RPj w C e ps) :
    Calls Try.prog 8 #[.slice A ts.length c, .slice B ls.length d, .agg #[.int .i64 l, .slice C ps.length e]] w fun e' w' => e' = .returned (.bool true) ∧ Below w.heap.size w w' := by
  have hple := hps.le
  have hpbig := hps.big
  have hle := hts.le
  have hbig := hts.big
  have hle2 := hls.le
  have hbig2 := hls.big
  have HTS := Lib.hid hts
  have HLS := Lib.hid hls
  have HPS := Lib.hid hps
  clear hts hls hps
  obtain ⟨k0, e0, hty⟩ : ∃ k0 e0, tyOf ts ls l ps = (k0, e0) := ⟨_, _, rfl⟩
  have HT : Hid (∀ W : World, Below w.heap.size w W → Okay ts ls → Calls Try.prog 13 #[.slice A ts.length c, .slice B ls.length d, .agg #[.int .i64 l, .slice C ps.length e]] W fun e' w' => e' = .returned (.tuple #[.int .i64 k0, .int .i64 e0]) ∧ Below W.heap.size W w') := Lib.hid (fun W hW hok => by
    have h := typeOf_any ts ls l ps A B C c d e W (HTS.out.keep RTy.keeps hW) (HLS.out.keep RLc.keeps hW) (HPS.out.keep RPj.keeps hW) hok
    rw [hty] at h
    exact h)
  have HTY := Lib.hid hty
  clear hty
  have hB0 : Below w.heap.size w (w.alloc (.cells #[.int .i64 l, .slice C ps.length e] 24)) := (Below.refl _ _).alloc (Nat.le_refl _) _
  have hsk := Lib.hid (skip_any ts ls A B c d _ (HTS.out.keep RTy.keeps hB0) (HLS.out.keep RLc.keeps hB0))
  have HB0 := Lib.hid hB0
  clear hB0
  go_enter Try.func8, Try.ntmps8
  go_wp2_with fail
  go_at_call 12
  refine hsk.out.mono ?_
  rintro e' w1 ⟨⟨q, rfl, hq⟩, hb1⟩
  have y1 : w1.cell? ⟨w.heap.size, 0, none⟩ = some (.int .i64 l) := cell_keep hb1 (by go_simp)
  have y2 : w1.cell? ⟨w.heap.size, 1, none⟩ = some (.slice C ps.length e) := cell_keep hb1 (by go_simp)
  have HB1 := Lib.hid (HB0.out.trans (hb1.mono HB0.out.size))
  clear hb1 hsk HB0
  cases q
  case true =>
    clear hq
    go_wp2_with (go_at_call 9; refine (alive_any _).mono ?_; rintro e' wz ⟨rfl, hbz⟩; have HBZ := Lib.hid (HB1.out.trans (hbz.mono HB1.out.size)))
    go_ret
    exact ⟨rfl, HBZ.out⟩
  case false =>
  have HOK := Lib.hid (hq rfl)
  clear hq
  by_cases hp0 : ps.length = 0
  · have hp1 : ((ps.length : Int) == 0) = true := by simp [hp0]
    go_wp2_with (go_at_call 9; refine (alive_any _).mono ?_; rintro e' wz ⟨rfl, hbz⟩; have HBZ := Lib.hid (HB1.out.trans (hbz.mono HB1.out.size)))
    go_ret
    exact ⟨rfl, HBZ.out⟩
  by_cases hp : 32 < ps.length
  · go_wp2_with (go_at_call 9; refine (alive_any _).mono ?_; rintro e' wz ⟨rfl, hbz⟩; have HBZ := Lib.hid (HB1.out.trans (hbz.mono HB1.out.size)))
    go_ret
    exact ⟨rfl, HBZ.out⟩
  obtain ⟨m, hm⟩ : ∃ m, m + 1 = ps.length := ⟨ps.length - 1, by omega⟩
  have hp1 : ((ps.length : Int) == 0) = false := by simp [hp0]
  have hml : (ps.take m).length = m := by rw [List.length_take]; omega
  obtain ⟨i0, f0, hty2⟩ : ∃ i0 f0, tyOf ts ls l (ps.take m) = (i0, f0) := ⟨_, _, rfl⟩
  have HT2 : Hid (∀ W : World, Below w.heap.size w W → Okay ts ls → Calls Try.prog 13 #[.slice A ts.length c, .slice B ls.length d, .agg #[.int .i64 l, .slice C m e]] W fun e' w' => e' = .returned (.tuple #[.int .i64 i0, .int .i64 f0]) ∧ Below W.heap.size W w') := Lib.hid (fun W hW hok => by
    have h := typeOf_any ts ls l (ps.take m) A B C c d e W (HTS.out.keep RTy.keeps hW) (HLS.out.keep RLc.keeps hW) ((HPS.out.takeN m).keep RPj.keeps hW) hok
    rw [hml, hty2] at h
    exact h)
  have hlaw : e0 = 0 → f0 = 0 ∧ ∃ (i : Nat) (hi : i < ts.length), i0 = i ∧ ∃ hx : m < ps.length,
      ((ps[m].kind = 0 ∧ ts[i].kind = 3 ∧ k0 = ts[i].elem) ∨ (ps[m].kind ≠ 0 ∧ ts[i].kind = 4 ∧ ∃ f : Nat, ps[m].field = f ∧ ∃ hf : f < ts[i].flds.length, k0 = ts[i].flds[f])) := fun he => by
    have h := project_law HOK.out (show 0 < ps.length by omega) (by rw [HTY.out]; exact he)
    have hmm : ps.length - 1 = m := by omega
    simp only [hmm, HTY.out, hty2] at h
    obtain ⟨h1, i, hi, h2, h3⟩ := h
    exact ⟨h1, i, hi, h2, by omega, h3⟩
  have HLAW := Lib.hid hlaw
  have hw1 : IntKind.i64.wrap ((ps.length : Int) - 1) = (m : Int) := by rw [IntKind.wrap_i64]; omega
  have hmp : m < ps.length := by omega
  have HW1 := Lib.hid hw1
  clear hlaw hw1 hml hty2 HTY
  go_wp2_with (go_at_call 13; refine (HT.out _ HB1.out HOK.out).mono ?_; rintro e' w2 ⟨rfl, hb2⟩; have HB2 := Lib.hid (HB1.out.trans (hb2.mono HB1.out.size)); replace y1 := cell_keep hb2 y1; replace y2 := cell_keep hb2 y2; clear hb2 HB1 HT)
  go_cut [10, 11] (fun s10 s11 wx => s10 = .int .i64 i0 ∧ s11 = .int .i64 f0 ∧ wx.cell? ⟨w.heap.size, 0, none⟩ = some (.int .i64 l) ∧ wx.cell? ⟨w.heap.size, 1, none⟩ = some (.slice C ps.length e) ∧ Below w.heap.size w wx)
  case first =>
    have hw1 := HW1.out
    refine wp_region_m (S := fun X => X.cell? ⟨w.heap.size, 0, none⟩ = some (.int .i64 l) ∧ X.cell? ⟨w.heap.size, 1, none⟩ = some (.slice C ps.length e)) (t := 16) (by kernel_rfl) ?_
    have hS : w2.drew.cell? ⟨w.heap.size, 0, none⟩ = some (.int .i64 l) ∧ w2.drew.cell? ⟨w.heap.size, 1, none⟩ = some (.slice C ps.length e) := ⟨y1, y2⟩
    refine wpAnyM_take (i := 0) (v := ?tva0) rfl (by kernel_rfl) (by kernel_rfl) (by kernel_rfl) (by kernel_rfl) (fun _ _ _ h => h) (Or.inl ⟨by rfl, ?tya0⟩) hS ?tra0
    case tya0 =>
      rintro X ⟨s1, s2⟩
      simp only [List.getElem_toArray, List.getElem_cons_zero, List.getElem_cons_succ]
      go_simp
      rfl
    simp only [List.getElem_toArray, List.getElem_cons_zero, List.getElem_cons_succ, Act.put, List.setIfInBounds_toArray, List.set_cons_zero, List.set_cons_succ]
    refine wpAnyM_take (i := 1) (v := ?tva1) rfl (by kernel_rfl) (by kernel_rfl) (by kernel_rfl) (by kernel_rfl) (fun _ _ _ h => h) (Or.inl ⟨by rfl, ?tya1⟩) hS ?tra1
    case tya1 =>
      rintro X ⟨s1, s2⟩
      simp only [List.getElem_toArray, List.getElem_cons_zero, List.getElem_cons_succ]
      go_simp
      rfl
    simp only [List.getElem_toArray, List.getElem_cons_zero, List.getElem_cons_succ, Act.put, List.setIfInBounds_toArray, List.set_cons_zero, List.set_cons_succ]
    refine wpAnyM_take (i := 2) (v := ?tva2) rfl (by kernel_rfl) (by kernel_rfl) (by kernel_rfl) (by kernel_rfl) (fun _ _ _ h => h) (Or.inl ⟨by rfl, ?tya2⟩) hS ?tra2
    case tya2 =>
      rintro X ⟨s1, s2⟩
      simp only [List.getElem_toArray, List.getElem_cons_zero, List.getElem_cons_succ]
      go_simp
      rfl
    simp only [List.getElem_toArray, List.getElem_cons_zero, List.getElem_cons_succ, Act.put, List.setIfInBounds_toArray, List.set_cons_zero, List.set_cons_succ]
    refine wpAnyM_take (i := 4) (v := ?tva4) rfl (by kernel_rfl) (by kernel_rfl) (by kernel_rfl) (by kernel_rfl) (fun _ _ _ h => h) (Or.inl ⟨by rfl, ?tya4⟩) hS ?tra4
    case tya4 =>
      rintro X ⟨s1, s2⟩
      simp only [List.getElem_toArray, List.getElem_cons_zero, List.getElem_cons_succ]
      go_simp
      rfl
    simp only [List.getElem_toArray, List.getElem_cons_zero, List.getElem_cons_succ, Act.put, List.setIfInBounds_toArray, List.set_cons_zero, List.set_cons_succ]
    refine wpAnyM_take (i := 6) (v := ?tva6) rfl (by kernel_rfl) (by kernel_rfl) (by kernel_rfl) (by kernel_rfl) (fun _ _ _ h => h) (Or.inl ⟨by rfl, ?tya6⟩) hS ?tra6
    case tya6 =>
      rintro X ⟨s1, s2⟩
      simp only [List.getElem_toArray, List.getElem_cons_zero, List.getElem_cons_succ]
      go_simp
      rfl
    simp only [List.getElem_toArray, List.getElem_cons_zero, List.getElem_cons_succ, Act.put, List.setIfInBounds_toArray, List.set_cons_zero, List.set_cons_succ]
    refine wpAnyM_take (i := 3) (v := ?tva3) rfl (by kernel_rfl) (by kernel_rfl) (by kernel_rfl) (by kernel_rfl) (fun _ _ _ h => h) (Or.inl ⟨by rfl, ?tya3⟩) hS ?tra3
    case tya3 =>
      rintro X ⟨s1, s2⟩
      simp only [List.getElem_toArray, List.getElem_cons_zero, List.getElem_cons_succ]
      go_simp
      rfl
    simp only [List.getElem_toArray, List.getElem_cons_zero, List.getElem_cons_succ, Act.put, List.setIfInBounds_toArray, List.set_cons_zero, List.set_cons_succ]
    refine wpAnyM_take (i := 5) (v := ?tva5) rfl (by kernel_rfl) (by kernel_rfl) (by kernel_rfl) (by kernel_rfl) (fun _ _ _ h => h) (Or.inl ⟨by rfl, ?tya5⟩) hS ?tra5
    case tya5 =>
      rintro X ⟨s1, s2⟩
      simp only [List.getElem_toArray, List.getElem_cons_zero, List.getElem_cons_succ]
      go_simp
      rfl
    simp only [List.getElem_toArray, List.getElem_cons_zero, List.getElem_cons_succ, Act.put, List.setIfInBounds_toArray, List.set_cons_zero, List.set_cons_succ]
    refine wpAnyM_take (i := 7) (v := .int .i64 m) rfl (by kernel_rfl) (by kernel_rfl) (by kernel_rfl) (by kernel_rfl) (fun _ _ _ h => h) (Or.inl ⟨by rfl, ?tya7⟩) hS ?tra7
    case tya7 =>
      rintro X ⟨s1, s2⟩
      simp only [List.getElem_toArray, List.getElem_cons_zero, List.getElem_cons_succ]
      go_simp
      all_goals ((try simp only [hw1]); rfl)
    simp only [List.getElem_toArray, List.getElem_cons_zero, List.getElem_cons_succ, Act.put, List.setIfInBounds_toArray, List.set_cons_zero, List.set_cons_succ]
    refine wpAnyM_take (i := 8) (v := .slice C m e) rfl (by kernel_rfl) (by kernel_rfl) (by kernel_rfl) (by kernel_rfl) (fun _ _ _ h => h) (Or.inl ⟨by rfl, ?tya8⟩) hS ?tra8
    case tya8 =>
      rintro X ⟨s1, s2⟩
      simp only [List.getElem_toArray, List.getElem_cons_zero, List.getElem_cons_succ]
      go_simp
      all_goals (try simp only [hw1]); all_goals first | rfl | (intro h; omega) | (rw [if_pos (by omega)]; simp) | (rw [if_pos (by omega)])
    simp only [List.getElem_toArray, List.getElem_cons_zero, List.getElem_cons_succ, Act.put, List.setIfInBounds_toArray, List.set_cons_zero, List.set_cons_succ]
    refine wpAnyM_take (i := 9) (v := ?tva9) rfl (by kernel_rfl) (by kernel_rfl) (by kernel_rfl) (by kernel_rfl) (fun _ _ _ h => h) (Or.inl ⟨by rfl, ?tya9⟩) hS ?tra9
    case tya9 =>
      rintro X ⟨s1, s2⟩
      simp only [List.getElem_toArray, List.getElem_cons_zero, List.getElem_cons_succ]
      go_simp
      rfl
    simp only [List.getElem_toArray, List.getElem_cons_zero, List.getElem_cons_succ, Act.put, List.setIfInBounds_toArray, List.set_cons_zero, List.set_cons_succ]
    refine wpAnyM_one (i := 10) (by kernel_rfl) rfl (fun K1 hK1 => ?_)
    simp only [List.getElem_toArray, List.getElem_cons_zero, List.getElem_cons_succ, Act.put, List.setIfInBounds_toArray, List.set_cons_zero, List.set_cons_succ]
    rw [if_pos (by rfl)]
    go_simp
    refine (HT2.out _ HB2.out.drew HOK.out).mono ?_
    rintro e' w3 ⟨rfl, hb3⟩
    have hS3 : w3.cell? ⟨w.heap.size, 0, none⟩ = some (.int .i64 l) ∧ w3.cell? ⟨w.heap.size, 1, none⟩ = some (.slice C ps.length e) := ⟨cell_keep hb3 hS.1, cell_keep hb3 hS.2⟩
    refine hK1.out _ _ (fun _ => hS3) ?_
    refine wpAnyM_take (i := 11) (v := ?tva11) rfl (by kernel_rfl) (by kernel_rfl) (by kernel_rfl) (by kernel_rfl) (fun _ _ _ h => h) (Or.inl ⟨by rfl, ?tya11⟩) hS3 ?tra11
    case tya11 =>
      rintro X ⟨s1, s2⟩
      simp only [List.getElem_toArray, List.getElem_cons_zero, List.getElem_cons_succ]
      go_simp
      rfl
    simp only [List.getElem_toArray, List.getElem_cons_zero, List.getElem_cons_succ, Act.put, List.setIfInBounds_toArray, List.set_cons_zero, List.set_cons_succ]
    refine wpAnyM_take (i := 12) (v := ?tva12) rfl (by kernel_rfl) (by kernel_rfl) (by kernel_rfl) (by kernel_rfl) (fun _ _ _ h => h) (Or.inl ⟨by rfl, ?tya12⟩) hS3 ?tra12
    case tya12 =>
      rintro X ⟨s1, s2⟩
      simp only [List.getElem_toArray, List.getElem_cons_zero, List.getElem_cons_succ]
      go_simp
      rfl
    simp only [List.getElem_toArray, List.getElem_cons_zero, List.getElem_cons_succ, Act.put, List.setIfInBounds_toArray, List.set_cons_zero, List.set_cons_succ]
    refine wpAnyM_take (i := 13) (v := ?tva13) rfl (by kernel_rfl) (by kernel_rfl) (by kernel_rfl) (by kernel_rfl) (fun _ _ _ h => h) (Or.inl ⟨by rfl, ?tya13⟩) hS3 ?tra13
    case tya13 =>
      rintro X ⟨s1, s2⟩
      simp only [List.getElem_toArray, List.getElem_cons_zero, List.getElem_cons_succ]
      go_simp
      rfl
    simp only [List.getElem_toArray, List.getElem_cons_zero, List.getElem_cons_succ, Act.put, List.setIfInBounds_toArray, List.set_cons_zero, List.set_cons_succ]
    refine wpAnyM_take (i := 14) (v := ?tva14) rfl (by kernel_rfl) (by kernel_rfl) (by kernel_rfl) (by kernel_rfl) (fun _ _ _ h => h) (Or.inl ⟨by rfl, ?tya14⟩) hS3 ?tra14
    case tya14 =>
      rintro X ⟨s1, s2⟩
      simp only [List.getElem_toArray, List.getElem_cons_zero, List.getElem_cons_succ]
      go_simp
      rfl
    simp only [List.getElem_toArray, List.getElem_cons_zero, List.getElem_cons_succ, Act.put, List.setIfInBounds_toArray, List.set_cons_zero, List.set_cons_succ]
    refine wpAnyM_take (i := 15) (v := ?tva15) rfl (by kernel_rfl) (by kernel_rfl) (by kernel_rfl) (by kernel_rfl) (fun _ _ _ h => h) (Or.inl ⟨by rfl, ?tya15⟩) hS3 ?tra15
    case tya15 =>
      rintro X ⟨s1, s2⟩
      simp only [List.getElem_toArray, List.getElem_cons_zero, List.getElem_cons_succ]
      go_simp
      rfl
    simp only [List.getElem_toArray, List.getElem_cons_zero, List.getElem_cons_succ, Act.put, List.setIfInBounds_toArray, List.set_cons_zero, List.set_cons_succ]
    refine wpAnyM_done (by kernel_rfl) ?_ _
    go_wp2_with fail
    go_meet
    exact ⟨rfl, rfl, hS3.1, hS3.2, HB2.out.drew.trans (hb3.mono HB2.out.drew.size)⟩
  case rest =>
  obtain ⟨rfl, rfl, z1, z2, hb4⟩ := hcut
  obtain ⟨w4, rfl⟩ : ∃ w4 : World, w4 = wc := ⟨_, rfl⟩
  have HB4 := Lib.hid hb4
  clear hb4 y1 y2 HB2 HT2
  by_cases he : e0 = 0
  case neg =>
    have he2 : (e0 == 0) = false := by simp [he]
    have he3 : (e0 != 0) = true := by simp [he]
    clear HLAW
    go_wp2_with (go_at_call 9; refine (alive_any _).mono ?_; rintro e' wz ⟨rfl, hbz⟩; have HBZ := Lib.hid (HB4.out.trans (hbz.mono HB4.out.size)))
    go_ret
    exact ⟨rfl, HBZ.out⟩
  case pos =>
  obtain ⟨hf0, i, hi, rfl, hx, hcase⟩ := HLAW.out he
  subst he
  subst hf0
  obtain ⟨bp, op, rfl, hbp, hrp⟩ := HPS.out.sl.at_ hx
  obtain ⟨p1, p2⟩ := RPj.keeps _ _ _ w.heap.size _ _ _ (Nat.le_refl _) hbp HB4.out hrp
  obtain ⟨bt, ot, rfl, hbt, hrt⟩ := HTS.out.sl.at_ hi
  obtain ⟨q1, q2, q3, q4, A5, c5, q5, q6, q7, q8⟩ := RTy.keeps _ _ _ w.heap.size _ _ _ (Nat.le_refl _) hbt HB4.out hrt
  have HC := Lib.hid hcase
  have HF := Lib.hid q8
  generalize ps[m] = x at *
  generalize ts[i] = t at *
  clear hcase HLAW hrp hrt q8
  go_upto_region 10 with fail
  go_cut [12, 13] (fun s12 s13 wx => ∃ g h : Nat, s12 = .pointer (some ⟨g, 0, none⟩) ∧ s13 = .pointer (some ⟨h, 0, none⟩) ∧ wx.cell? ⟨g, 0, none⟩ = some (.int .i64 x.kind) ∧ wx.cell? ⟨g, 1, none⟩ = some (.int .i64 x.field) ∧ wx.cell? ⟨h, 0, none⟩ = some (.int .i64 t.kind) ∧ wx.cell? ⟨h, 3, none⟩ = some (.int .i64 t.elem) ∧ wx.cell? ⟨h, 4, none⟩ = some (.slice A5 t.flds.length c5) ∧ Below w.heap.size w wx)
  case first =>
    have hw1 := HW1.out
    have lz := World.block_lt_of_cell? _ _ z1
    have lp := World.block_lt_of_cell? _ _ p1
    have lt := World.block_lt_of_cell? _ _ q1
    refine wp_region_m (S := fun X => X.cell? ⟨w.heap.size, 0, none⟩ = some (.int .i64 l) ∧ X.cell? ⟨w.heap.size, 1, none⟩ = some (.slice (some ⟨bp, op, none⟩) ps.length e) ∧ X.cell? ⟨bp, op + m * 2, none⟩ = some (.int .i64 x.kind) ∧ X.cell? ⟨bp, op + m * 2 + 1, none⟩ = some (.int .i64 x.field) ∧ X.cell? ⟨bt, ot + i * 5, none⟩ = some (.int .i64 t.kind) ∧ X.cell? ⟨bt, ot + i * 5 + 1, none⟩ = some (.bool t.mu) ∧ X.cell? ⟨bt, ot + i * 5 + 2, none⟩ = some (.int .i64 t.reg) ∧ X.cell? ⟨bt, ot + i * 5 + 3, none⟩ = some (.int .i64 t.elem) ∧ X.cell? ⟨bt, ot + i * 5 + 4, none⟩ = some (.slice A5 t.flds.length c5)) (t := 14) (by kernel_rfl) ?_
    have hS := (show w4.drew.cell? ⟨w.heap.size, 0, none⟩ = some (.int .i64 l) ∧ w4.drew.cell? ⟨w.heap.size, 1, none⟩ = some (.slice (some ⟨bp, op, none⟩) ps.length e) ∧ w4.drew.cell? ⟨bp, op + m * 2, none⟩ = some (.int .i64 x.kind) ∧ w4.drew.cell? ⟨bp, op + m * 2 + 1, none⟩ = some (.int .i64 x.field) ∧ w4.drew.cell? ⟨bt, ot + i * 5, none⟩ = some (.int .i64 t.kind) ∧ w4.drew.cell? ⟨bt, ot + i * 5 + 1, none⟩ = some (.bool t.mu) ∧ w4.drew.cell? ⟨bt, ot + i * 5 + 2, none⟩ = some (.int .i64 t.reg) ∧ w4.drew.cell? ⟨bt, ot + i * 5 + 3, none⟩ = some (.int .i64 t.elem) ∧ w4.drew.cell? ⟨bt, ot + i * 5 + 4, none⟩ = some (.slice A5 t.flds.length c5) from ⟨z1, z2, p1, p2, q1, q2, q3, q4, q5⟩)
    refine wpAnyM_take (i := 0) (v := ?tvb0) rfl (by kernel_rfl) (by kernel_rfl) (by kernel_rfl) (by kernel_rfl) (fun _ _ _ h => h) (Or.inl ⟨by rfl, ?tyb0⟩) hS ?trb0
    case tyb0 =>
      rintro X ⟨s1, s2, s3, s4, s5, s6, s7, s8, s9⟩
      simp only [List.getElem_toArray, List.getElem_cons_zero, List.getElem_cons_succ]
      go_simp
      rfl
    simp only [List.getElem_toArray, List.getElem_cons_zero, List.getElem_cons_succ, Act.put, List.setIfInBounds_toArray, List.set_cons_zero, List.set_cons_succ]
    refine wpAnyM_take (i := 2) (v := ?tvb2) rfl (by kernel_rfl) (by kernel_rfl) (by kernel_rfl) (by kernel_rfl) (fun _ _ _ h => h) (Or.inl ⟨by rfl, ?tyb2⟩) hS ?trb2
    case tyb2 =>
      rintro X ⟨s1, s2, s3, s4, s5, s6, s7, s8, s9⟩
      simp only [List.getElem_toArray, List.getElem_cons_zero, List.getElem_cons_succ]
      go_simp
      rfl
    simp only [List.getElem_toArray, List.getElem_cons_zero, List.getElem_cons_succ, Act.put, List.setIfInBounds_toArray, List.set_cons_zero, List.set_cons_succ]
    refine wpAnyM_take (i := 6) (v := ?tvb6) rfl (by kernel_rfl) (by kernel_rfl) (by kernel_rfl) (by kernel_rfl) (fun _ _ _ h => h) (Or.inl ⟨by rfl, ?tyb6⟩) hS ?trb6
    case tyb6 =>
      rintro X ⟨s1, s2, s3, s4, s5, s6, s7, s8, s9⟩
      simp only [List.getElem_toArray, List.getElem_cons_zero, List.getElem_cons_succ]
      go_simp
      rfl
    simp only [List.getElem_toArray, List.getElem_cons_zero, List.getElem_cons_succ, Act.put, List.setIfInBounds_toArray, List.set_cons_zero, List.set_cons_succ]
    refine wpAnyM_take (i := 7) (v := ?tvb7) rfl (by kernel_rfl) (by kernel_rfl) (by kernel_rfl) (by kernel_rfl) (fun _ _ _ h => h) (Or.inl ⟨by rfl, ?tyb7⟩) hS ?trb7
    case tyb7 =>
      rintro X ⟨s1, s2, s3, s4, s5, s6, s7, s8, s9⟩
      simp only [List.getElem_toArray, List.getElem_cons_zero, List.getElem_cons_succ]
      go_simp
      rfl
    simp only [List.getElem_toArray, List.getElem_cons_zero, List.getElem_cons_succ, Act.put, List.setIfInBounds_toArray, List.set_cons_zero, List.set_cons_succ]
    refine wpAnyM_take (i := 1) (v := ?tvb1) rfl (by kernel_rfl) (by kernel_rfl) (by kernel_rfl) (by kernel_rfl) (fun _ _ _ h => h) (Or.inl ⟨by rfl, ?tyb1⟩) hS ?trb1
    case tyb1 =>
      rintro X ⟨s1, s2, s3, s4, s5, s6, s7, s8, s9⟩
      simp only [List.getElem_toArray, List.getElem_cons_zero, List.getElem_cons_succ]
      go_simp
      rfl
    simp only [List.getElem_toArray, List.getElem_cons_zero, List.getElem_cons_succ, Act.put, List.setIfInBounds_toArray, List.set_cons_zero, List.set_cons_succ]
    refine wpAnyM_take (i := 3) (v := .int .i64 m) rfl (by kernel_rfl) (by kernel_rfl) (by kernel_rfl) (by kernel_rfl) (fun _ _ _ h => h) (Or.inl ⟨by rfl, ?tyb3⟩) hS ?trb3
    case tyb3 =>
      rintro X ⟨s1, s2, s3, s4, s5, s6, s7, s8, s9⟩
      simp only [List.getElem_toArray, List.getElem_cons_zero, List.getElem_cons_succ]
      go_simp
      all_goals ((try simp only [hw1]); rfl)
    simp only [List.getElem_toArray, List.getElem_cons_zero, List.getElem_cons_succ, Act.put, List.setIfInBounds_toArray, List.set_cons_zero, List.set_cons_succ]
    refine wpAnyM_take (i := 8) (v := ?tvb8) rfl (by kernel_rfl) (by kernel_rfl) (by kernel_rfl) (by kernel_rfl) (fun _ _ _ h => h) (Or.inl ⟨by rfl, ?tyb8⟩) hS ?trb8
    case tyb8 =>
      rintro X ⟨s1, s2, s3, s4, s5, s6, s7, s8, s9⟩
      simp only [List.getElem_toArray, List.getElem_cons_zero, List.getElem_cons_succ]
      go_simp
      rfl
    simp only [List.getElem_toArray, List.getElem_cons_zero, List.getElem_cons_succ, Act.put, List.setIfInBounds_toArray, List.set_cons_zero, List.set_cons_succ]
    refine wpAnyM_take (i := 4) (v := ?tvb4) rfl (by kernel_rfl) (by kernel_rfl) (by kernel_rfl) (by kernel_rfl) (fun _ _ _ h => h) (Or.inl ⟨by rfl, ?tyb4⟩) hS ?trb4
    case tyb4 =>
      rintro X ⟨s1, s2, s3, s4, s5, s6, s7, s8, s9⟩
      simp only [List.getElem_toArray, List.getElem_cons_zero, List.getElem_cons_succ]
      go_simp
      rfl
    simp only [List.getElem_toArray, List.getElem_cons_zero, List.getElem_cons_succ, Act.put, List.setIfInBounds_toArray, List.set_cons_zero, List.set_cons_succ]
    refine wpAnyM_take (i := 9) (v := ?tvb9) rfl (by kernel_rfl) (by kernel_rfl) (by kernel_rfl) (by kernel_rfl) (fun _ _ _ h => h) (Or.inl ⟨by rfl, ?tyb9⟩) hS ?trb9
    case tyb9 =>
      rintro X ⟨s1, s2, s3, s4, s5, s6, s7, s8, s9⟩
      simp only [List.getElem_toArray, List.getElem_cons_zero, List.getElem_cons_succ]
      go_simp
      rfl
    simp only [List.getElem_toArray, List.getElem_cons_zero, List.getElem_cons_succ, Act.put, List.setIfInBounds_toArray, List.set_cons_zero, List.set_cons_succ]
    refine wpAnyM_take (i := 5) (v := ?tvb5) rfl (by kernel_rfl) (by kernel_rfl) (by kernel_rfl) (by kernel_rfl) (fun _ _ _ h => h) (Or.inl ⟨by rfl, ?tyb5⟩) hS ?trb5
    case tyb5 =>
      rintro X ⟨s1, s2, s3, s4, s5, s6, s7, s8, s9⟩
      simp only [List.getElem_toArray, List.getElem_cons_zero, List.getElem_cons_succ]
      go_simp
      rfl
    simp only [List.getElem_toArray, List.getElem_cons_zero, List.getElem_cons_succ, Act.put, List.setIfInBounds_toArray, List.set_cons_zero, List.set_cons_succ]
    refine wpAnyM_two (i := 10) (j := 11) (by kernel_rfl) rfl rfl (fun K1 hK1 => ?_) (fun K1 hK1 => ?_)
    ·
      simp only [List.getElem_toArray, List.getElem_cons_zero, List.getElem_cons_succ, Act.put, List.setIfInBounds_toArray, List.set_cons_zero, List.set_cons_succ]
      rw [if_pos (by rfl)]
      go_simp
      refine hK1.out _ _ (fun _ => ⟨cell_keep ((Below.refl _ _).alloc (Nat.le_refl _) _) hS.1, cell_keep ((Below.refl _ _).alloc (Nat.le_refl _) _) hS.2.1, cell_keep ((Below.refl _ _).alloc (Nat.le_refl _) _) hS.2.2.1, cell_keep ((Below.refl _ _).alloc (Nat.le_refl _) _) hS.2.2.2.1, cell_keep ((Below.refl _ _).alloc (Nat.le_refl _) _) hS.2.2.2.2.1, cell_keep ((Below.refl _ _).alloc (Nat.le_refl _) _) hS.2.2.2.2.2.1, cell_keep ((Below.refl _ _).alloc (Nat.le_refl _) _) hS.2.2.2.2.2.2.1, cell_keep ((Below.refl _ _).alloc (Nat.le_refl _) _) hS.2.2.2.2.2.2.2.1, cell_keep ((Below.refl _ _).alloc (Nat.le_refl _) _) hS.2.2.2.2.2.2.2.2⟩) ?_
      refine wpAnyM_one (i := 11) (by kernel_rfl) rfl (fun K2 hK2 => ?_)
      simp only [List.getElem_toArray, List.getElem_cons_zero, List.getElem_cons_succ, Act.put, List.setIfInBounds_toArray, List.set_cons_zero, List.set_cons_succ]
      rw [if_pos (by rfl)]
      go_simp
      refine hK2.out _ _ (fun _ => ⟨cell_keep ((((Below.refl _ _).alloc (Nat.le_refl _) _)).alloc (by simp) _) hS.1, cell_keep ((((Below.refl _ _).alloc (Nat.le_refl _) _)).alloc (by simp) _) hS.2.1, cell_keep ((((Below.refl _ _).alloc (Nat.le_refl _) _)).alloc (by simp) _) hS.2.2.1, cell_keep ((((Below.refl _ _).alloc (Nat.le_refl _) _)).alloc (by simp) _) hS.2.2.2.1, cell_keep ((((Below.refl _ _).alloc (Nat.le_refl _) _)).alloc (by simp) _) hS.2.2.2.2.1, cell_keep ((((Below.refl _ _).alloc (Nat.le_refl _) _)).alloc (by simp) _) hS.2.2.2.2.2.1, cell_keep ((((Below.refl _ _).alloc (Nat.le_refl _) _)).alloc (by simp) _) hS.2.2.2.2.2.2.1, cell_keep ((((Below.refl _ _).alloc (Nat.le_refl _) _)).alloc (by simp) _) hS.2.2.2.2.2.2.2.1, cell_keep ((((Below.refl _ _).alloc (Nat.le_refl _) _)).alloc (by simp) _) hS.2.2.2.2.2.2.2.2⟩) ?_
      refine wpAnyM_one (i := 12) (by kernel_rfl) rfl (fun K3 hK3 => ?_)
      simp only [List.getElem_toArray, List.getElem_cons_zero, List.getElem_cons_succ, Act.put, List.setIfInBounds_toArray, List.set_cons_zero, List.set_cons_succ]
      rw [if_pos (by rfl)]
      go_simp
      refine hK3.out _ _ (fun _ => ⟨cell_keep ((((Below.refl _ _).alloc (Nat.le_refl _) _)).alloc (by simp) _) hS.1, cell_keep ((((Below.refl _ _).alloc (Nat.le_refl _) _)).alloc (by simp) _) hS.2.1, cell_keep ((((Below.refl _ _).alloc (Nat.le_refl _) _)).alloc (by simp) _) hS.2.2.1, cell_keep ((((Below.refl _ _).alloc (Nat.le_refl _) _)).alloc (by simp) _) hS.2.2.2.1, cell_keep ((((Below.refl _ _).alloc (Nat.le_refl _) _)).alloc (by simp) _) hS.2.2.2.2.1, cell_keep ((((Below.refl _ _).alloc (Nat.le_refl _) _)).alloc (by simp) _) hS.2.2.2.2.2.1, cell_keep ((((Below.refl _ _).alloc (Nat.le_refl _) _)).alloc (by simp) _) hS.2.2.2.2.2.2.1, cell_keep ((((Below.refl _ _).alloc (Nat.le_refl _) _)).alloc (by simp) _) hS.2.2.2.2.2.2.2.1, cell_keep ((((Below.refl _ _).alloc (Nat.le_refl _) _)).alloc (by simp) _) hS.2.2.2.2.2.2.2.2⟩) ?_
      refine wpAnyM_one (i := 13) (by kernel_rfl) rfl (fun K4 hK4 => ?_)
      simp only [List.getElem_toArray, List.getElem_cons_zero, List.getElem_cons_succ, Act.put, List.setIfInBounds_toArray, List.set_cons_zero, List.set_cons_succ]
      rw [if_pos (by rfl)]
      go_simp
      refine hK4.out _ _ (fun _ => ⟨cell_keep ((((Below.refl _ _).alloc (Nat.le_refl _) _)).alloc (by simp) _) hS.1, cell_keep ((((Below.refl _ _).alloc (Nat.le_refl _) _)).alloc (by simp) _) hS.2.1, cell_keep ((((Below.refl _ _).alloc (Nat.le_refl _) _)).alloc (by simp) _) hS.2.2.1, cell_keep ((((Below.refl _ _).alloc (Nat.le_refl _) _)).alloc (by simp) _) hS.2.2.2.1, cell_keep ((((Below.refl _ _).alloc (Nat.le_refl _) _)).alloc (by simp) _) hS.2.2.2.2.1, cell_keep ((((Below.refl _ _).alloc (Nat.le_refl _) _)).alloc (by simp) _) hS.2.2.2.2.2.1, cell_keep ((((Below.refl _ _).alloc (Nat.le_refl _) _)).alloc (by simp) _) hS.2.2.2.2.2.2.1, cell_keep ((((Below.refl _ _).alloc (Nat.le_refl _) _)).alloc (by simp) _) hS.2.2.2.2.2.2.2.1, cell_keep ((((Below.refl _ _).alloc (Nat.le_refl _) _)).alloc (by simp) _) hS.2.2.2.2.2.2.2.2⟩) ?_
      refine wpAnyM_done (by kernel_rfl) ?_ _
      go_wp2_with fail
      go_meet
      exact ⟨_, _, rfl, rfl, by go_simp, by go_simp, by go_simp, by go_simp, by go_simp, (HB4.out.drew.alloc HB4.out.drew.size _).alloc (by have := HB4.out.drew.size; simp at this ⊢; omega) _⟩
    ·
      simp only [List.getElem_toArray, List.getElem_cons_zero, List.getElem_cons_succ, Act.put, List.setIfInBounds_toArray, List.set_cons_zero, List.set_cons_succ]
      rw [if_pos (by rfl)]
      go_simp
      refine hK1.out _ _ (fun _ => ⟨cell_keep ((Below.refl _ _).alloc (Nat.le_refl _) _) hS.1, cell_keep ((Below.refl _ _).alloc (Nat.le_refl _) _) hS.2.1, cell_keep ((Below.refl _ _).alloc (Nat.le_refl _) _) hS.2.2.1, cell_keep ((Below.refl _ _).alloc (Nat.le_refl _) _) hS.2.2.2.1, cell_keep ((Below.refl _ _).alloc (Nat.le_refl _) _) hS.2.2.2.2.1, cell_keep ((Below.refl _ _).alloc (Nat.le_refl _) _) hS.2.2.2.2.2.1, cell_keep ((Below.refl _ _).alloc (Nat.le_refl _) _) hS.2.2.2.2.2.2.1, cell_keep ((Below.refl _ _).alloc (Nat.le_refl _) _) hS.2.2.2.2.2.2.2.1, cell_keep ((Below.refl _ _).alloc (Nat.le_refl _) _) hS.2.2.2.2.2.2.2.2⟩) ?_
      refine wpAnyM_one (i := 10) (by kernel_rfl) rfl (fun K2 hK2 => ?_)
      simp only [List.getElem_toArray, List.getElem_cons_zero, List.getElem_cons_succ, Act.put, List.setIfInBounds_toArray, List.set_cons_zero, List.set_cons_succ]
      rw [if_pos (by rfl)]
      go_simp
      refine hK2.out _ _ (fun _ => ⟨cell_keep ((((Below.refl _ _).alloc (Nat.le_refl _) _)).alloc (by simp) _) hS.1, cell_keep ((((Below.refl _ _).alloc (Nat.le_refl _) _)).alloc (by simp) _) hS.2.1, cell_keep ((((Below.refl _ _).alloc (Nat.le_refl _) _)).alloc (by simp) _) hS.2.2.1, cell_keep ((((Below.refl _ _).alloc (Nat.le_refl _) _)).alloc (by simp) _) hS.2.2.2.1, cell_keep ((((Below.refl _ _).alloc (Nat.le_refl _) _)).alloc (by simp) _) hS.2.2.2.2.1, cell_keep ((((Below.refl _ _).alloc (Nat.le_refl _) _)).alloc (by simp) _) hS.2.2.2.2.2.1, cell_keep ((((Below.refl _ _).alloc (Nat.le_refl _) _)).alloc (by simp) _) hS.2.2.2.2.2.2.1, cell_keep ((((Below.refl _ _).alloc (Nat.le_refl _) _)).alloc (by simp) _) hS.2.2.2.2.2.2.2.1, cell_keep ((((Below.refl _ _).alloc (Nat.le_refl _) _)).alloc (by simp) _) hS.2.2.2.2.2.2.2.2⟩) ?_
      refine wpAnyM_one (i := 12) (by kernel_rfl) rfl (fun K3 hK3 => ?_)
      simp only [List.getElem_toArray, List.getElem_cons_zero, List.getElem_cons_succ, Act.put, List.setIfInBounds_toArray, List.set_cons_zero, List.set_cons_succ]
      rw [if_pos (by rfl)]
      go_simp
      refine hK3.out _ _ (fun _ => ⟨cell_keep ((((Below.refl _ _).alloc (Nat.le_refl _) _)).alloc (by simp) _) hS.1, cell_keep ((((Below.refl _ _).alloc (Nat.le_refl _) _)).alloc (by simp) _) hS.2.1, cell_keep ((((Below.refl _ _).alloc (Nat.le_refl _) _)).alloc (by simp) _) hS.2.2.1, cell_keep ((((Below.refl _ _).alloc (Nat.le_refl _) _)).alloc (by simp) _) hS.2.2.2.1, cell_keep ((((Below.refl _ _).alloc (Nat.le_refl _) _)).alloc (by simp) _) hS.2.2.2.2.1, cell_keep ((((Below.refl _ _).alloc (Nat.le_refl _) _)).alloc (by simp) _) hS.2.2.2.2.2.1, cell_keep ((((Below.refl _ _).alloc (Nat.le_refl _) _)).alloc (by simp) _) hS.2.2.2.2.2.2.1, cell_keep ((((Below.refl _ _).alloc (Nat.le_refl _) _)).alloc (by simp) _) hS.2.2.2.2.2.2.2.1, cell_keep ((((Below.refl _ _).alloc (Nat.le_refl _) _)).alloc (by simp) _) hS.2.2.2.2.2.2.2.2⟩) ?_
      refine wpAnyM_one (i := 13) (by kernel_rfl) rfl (fun K4 hK4 => ?_)
      simp only [List.getElem_toArray, List.getElem_cons_zero, List.getElem_cons_succ, Act.put, List.setIfInBounds_toArray, List.set_cons_zero, List.set_cons_succ]
      rw [if_pos (by rfl)]
      go_simp
      refine hK4.out _ _ (fun _ => ⟨cell_keep ((((Below.refl _ _).alloc (Nat.le_refl _) _)).alloc (by simp) _) hS.1, cell_keep ((((Below.refl _ _).alloc (Nat.le_refl _) _)).alloc (by simp) _) hS.2.1, cell_keep ((((Below.refl _ _).alloc (Nat.le_refl _) _)).alloc (by simp) _) hS.2.2.1, cell_keep ((((Below.refl _ _).alloc (Nat.le_refl _) _)).alloc (by simp) _) hS.2.2.2.1, cell_keep ((((Below.refl _ _).alloc (Nat.le_refl _) _)).alloc (by simp) _) hS.2.2.2.2.1, cell_keep ((((Below.refl _ _).alloc (Nat.le_refl _) _)).alloc (by simp) _) hS.2.2.2.2.2.1, cell_keep ((((Below.refl _ _).alloc (Nat.le_refl _) _)).alloc (by simp) _) hS.2.2.2.2.2.2.1, cell_keep ((((Below.refl _ _).alloc (Nat.le_refl _) _)).alloc (by simp) _) hS.2.2.2.2.2.2.2.1, cell_keep ((((Below.refl _ _).alloc (Nat.le_refl _) _)).alloc (by simp) _) hS.2.2.2.2.2.2.2.2⟩) ?_
      refine wpAnyM_done (by kernel_rfl) ?_ _
      go_wp2_with fail
      go_meet
      exact ⟨_, _, rfl, rfl, by go_simp, by go_simp, by go_simp, by go_simp, by go_simp, (HB4.out.drew.alloc HB4.out.drew.size _).alloc (by have := HB4.out.drew.size; simp at this ⊢; omega) _⟩
  case rest =>
  obtain ⟨g, h, rfl, rfl, g1, g2, h1, h2, h3, hb5⟩ := hcut
  obtain ⟨w5, rfl⟩ : ∃ w5 : World, w5 = wc := ⟨_, rfl⟩
  have HB5 := Lib.hid hb5
  clear p1 p2 q1 q2 q3 q4 q5 z1 z2
  rcases HC.out with ⟨hk, ht, hk0⟩ | ⟨hk, ht, f, hf, hfl, hk0⟩
  · have hk1 : (x.kind == 0) = true := by simp [hk]
    rw [hk] at g1
    rw [ht] at h1
    clear hk ht HC hb5 HB4
    subst hk0
    go_wp2_with (go_at_call 9; refine (alive_any _).mono ?_; rintro e' wz ⟨rfl, hbz⟩; have HBZ := Lib.hid (HB5.out.trans (hbz.mono HB5.out.size)); replace g1 := cell_keep hbz g1; replace g2 := cell_keep hbz g2; replace h1 := cell_keep hbz h1; replace h2 := cell_keep hbz h2; replace h3 := cell_keep hbz h3; clear hbz)
    go_ret
    exact ⟨rfl, HBZ.out⟩
  · have hk1 : (x.kind == 0) = false := by simp [hk]
    rw [hf] at g2
    rw [ht] at h1
    obtain ⟨b6, o6, rfl, hb6, hr6⟩ := HF.out.at_ hfl
    unfold RInt at hr6
    rw [Nat.mul_one, ← hk0] at hr6
    replace hr6 := (hb5.cell (p := ⟨b6, o6 + f, none⟩) hb6).trans ((HB4.out.cell (p := ⟨b6, o6 + f, none⟩) hb6).symm.trans hr6)
    have hmx : max (f : Int) 0 = (f : Int) := by omega
    clear hk0 HC HF hb5 HB4 hf ht
    go_wp2_with (go_at_call 9; refine (alive_any _).mono ?_; rintro e' wz ⟨rfl, hbz⟩; have HBZ := Lib.hid (HB5.out.trans (hbz.mono HB5.out.size)); replace g1 := cell_keep hbz g1; replace g2 := cell_keep hbz g2; replace h1 := cell_keep hbz h1; replace h2 := cell_keep hbz h2; replace h3 := cell_keep hbz h3; replace hr6 := cell_keep hbz hr6; clear hbz)
    go_ret
    exact ⟨rfl, HBZ.out⟩
end Go.Proofs.Ytmfdppgfbgjmcaa
