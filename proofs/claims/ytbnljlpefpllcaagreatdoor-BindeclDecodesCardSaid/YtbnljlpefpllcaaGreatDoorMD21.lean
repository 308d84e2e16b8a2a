/-
  Parts of the proof: V41 O1.
-/
import Derived.Test.YtbnljlpefpllcaaGreatDoorMD20
import Derived.Test.YtbnljlpefpllcaaGreatDoorRows
import Derived.Test.YtbnljlpefpllcaaGreatDoorMD1
import Derived.Test.YtbnljlpefpllcaaGreatDoorMD18
import Derived.Deep.LoopGhost
import Derived.ProofKit
import Derived.Below
import Derived.Deep.Slices
import Derived.Deep.Fields
import Derived.Lib.SmallJoins
import Derived.OpenShut
import Derived.LaidMore
import Derived.Stop.Joined
import Derived.Stop.LaidErr
import Derived.Lay
import Derived.SevenTiedAt
namespace Go.Proofs.YtbnljlpefpllcaaGreatDoor
open Go Go.RowKit Go.Maps
theorem bk_open {w : World} {b o : Nat} {x : Blk} (h : RBk w w.heap.size b o x) : ∃ A1 c1 A2 c2 A3 c3 A4 c4, w.cell? ⟨b, o, none⟩ = some (.slice A1 x.stmts.length c1) ∧ w.cell? ⟨b, o + 1, none⟩ = some (.int .i64 x.term.kind) ∧ w.cell? ⟨b, o + 2, none⟩ = some (.slice A2 x.term.targets.length c2) ∧ w.cell? ⟨b, o + 3, none⟩ = some (.slice A3 x.term.args.length c3) ∧ w.cell? ⟨b, o + 4, none⟩ = some (.int .i64 x.term.place.loc) ∧ w.cell? ⟨b, o + 5, none⟩ = some (.slice A4 x.term.place.proj.length c4) ∧ w.cell? ⟨b, o + 6, none⟩ = some (.string x.term.name) ∧
    Slc 11 RSt w A1 c1 x.stmts ∧ Slc 1 RInt w A2 c2 x.term.targets ∧ Slc 4 ROp w A3 c3 x.term.args ∧ Slc 2 RPj w A4 c4 x.term.place.proj := by
  obtain ⟨⟨A1, c1, h1, h2, h3, h4⟩, t0, ⟨A2, c2, t1, t2, t3, t4⟩, ⟨A3, c3, s1, s2, s3, s4⟩, ⟨p0, A4, c4, p1, p2, p3, p4⟩, t5⟩ := h
  exact ⟨A1, c1, A2, c2, A3, c3, A4, c4, h1, t0, t1, s1, p0, p1, t5, ⟨h4, h2, h3⟩, ⟨t4, t2, t3⟩, ⟨s4, s2, s3⟩, ⟨p4, p2, p3⟩⟩
theorem st_open {w : World} {b o : Nat} {s : Stm} (h : RSt w w.heap.size b o s) : ∃ A0 c0 A c B d, w.cell? ⟨b, o, none⟩ = some (.int .i64 s.kind) ∧ w.cell? ⟨b, o + 1, none⟩ = some (.int .i64 s.place.loc) ∧ w.cell? ⟨b, o + 2, none⟩ = some (.slice A0 s.place.proj.length c0) ∧ w.cell? ⟨b, o + 3, none⟩ = some (.int .i64 s.rv.kind) ∧ w.cell? ⟨b, o + 4, none⟩ = some (.int .i64 s.rv.op) ∧ w.cell? ⟨b, o + 5, none⟩ = some (.int .i64 s.rv.reg) ∧ w.cell? ⟨b, o + 6, none⟩ = some (.bool s.rv.mu) ∧ w.cell? ⟨b, o + 7, none⟩ = some (.int .i64 s.rv.place.loc) ∧ w.cell? ⟨b, o + 8, none⟩ = some (.slice A s.rv.place.proj.length c) ∧ w.cell? ⟨b, o + 9, none⟩ = some (.slice B s.rv.args.length d) ∧ w.cell? ⟨b, o + 10, none⟩ = some (.int .i64 s.loc) ∧
    Slc 2 RPj w A0 c0 s.place.proj ∧ Slc 2 RPj w A c s.rv.place.proj ∧ Slc 4 ROp w B d s.rv.args := by
  obtain ⟨k0, ⟨p0, A0, c0, p1, p2, p3, p4⟩, ⟨v0, v1, v2, v3, ⟨q0, A, c, q1, q2, q3, q4⟩, ⟨B, d, a1, a2, a3, a4⟩⟩, l0⟩ := h
  exact ⟨A0, c0, A, c, B, d, k0, p0, p1, v0, v1, v2, v3, q0, q1, a1, l0, ⟨p4, p2, p3⟩, ⟨q4, q2, q3⟩, ⟨a4, a2, a3⟩⟩
/-- A block's cells. -/
def bkL (x : Blk) (A1 : Option Addr) (c1 : Nat) (A2 : Option Addr) (c2 : Nat) (A3 : Option Addr) (c3 : Nat) (A4 : Option Addr) (c4 : Nat) : List Value := [.slice A1 x.stmts.length c1, .int .i64 x.term.kind, .slice A2 x.term.targets.length c2, .slice A3 x.term.args.length c3, .int .i64 x.term.place.loc, .slice A4 x.term.place.proj.length c4, .string x.term.name]
set_option maxRecDepth 100000 in
set_option maxHeartbeats 16000000 in
theorem vcheck_any (b : Bdy) (bh : BH) (w : World) (H : BdAt w b bh) (hT : TabsOk w) :
    Calls Tryz.prog 28 #[.agg (bdC b bh).toArray] w fun e' w' => e' = .returned (.int .i64 (chkB b)) ∧ Below w.heap.size w w' := by
  have HD := Lib.hid (fun (W : World) (hb : Below w.heap.size w W) => decl_any b bh W (H.keep hb))
  have HN := Lib.hid (fun (W : World) (hb : Below w.heap.size w W) (h : declC b = 0) => newC_any b bh W (H.keep hb) (decl_facts h))
  have HH := Lib.hid H
  have HT := Lib.hid hT
  have hbl := H.blk.le
  have hbg := H.blk.big
  obtain ⟨R, hR⟩ : ∃ R, chkB b = R := ⟨_, rfl⟩
  rw [hR]
  have HR : Hid (R = if declC b = 0 then bksE b b.blocks else declC b) := Lib.hid hR.symm
  have HOK := Lib.hid (fun h => decl_facts (b := b) h)
  clear hR H hT
  unfold bdC at *
  by_cases hd : declC b = 0
  case neg =>
    have HF : Hid (R = declC b) := Lib.hid (by rw [HR.out, if_neg hd])
    generalize declC b = de at HD HF hd
    have e1 : (de != 0) = true := by simp [hd]
    clear HR HN HOK hd
    go_enter Tryz.func28, Tryz.ntmps28
    go_wp2_with fail
    go_step3
    go_wp2_with (go_at_call 77; refine (HD.out _ ((Below.refl _ _).alloc (Nat.le_refl _) _)).mono ?_; rintro e' w1 ⟨rfl, hb1⟩; have HB := Lib.hid (((Below.refl _ _).alloc (Nat.le_refl _) _).trans (hb1.mono ((Below.refl _ _).alloc (Nat.le_refl _) _).size)); have HY1 := Lib.hid (cells_kept (cells_new w [Value.string b.name, .slice bh.A1 b.regions.length bh.c1, .slice bh.A2 b.outl.length bh.c2, .slice bh.A3 b.types.length bh.c3, .slice bh.A4 b.locals.length bh.c4, .int .i64 b.args, .slice bh.A5 b.blocks.length bh.c5] 28) hb1); have y0 := HY1.out 0 _ rfl; have y1 := HY1.out 1 _ rfl; have y2 := HY1.out 2 _ rfl; have y3 := HY1.out 3 _ rfl; have y4 := HY1.out 4 _ rfl; have y5 := HY1.out 5 _ rfl; have y6 := HY1.out 6 _ rfl; clear hb1)
    rw [Exit.noGoto_ret]
    go_ret
    exact ⟨by rw [HF.out]; rfl, HB.out⟩
  case pos =>
  have HF : Hid (R = bksE b b.blocks) := Lib.hid (by rw [HR.out, if_pos hd])
  rw [hd] at HD
  have HDOK := Lib.hid (HOK.out hd)
  clear HR HOK
  unfold ckC at HN
  go_enter Tryz.func28, Tryz.ntmps28
  go_wp2_with fail
  go_step3
  go_wp2_with (first | (go_at_call 77; refine (HD.out _ ((Below.refl _ _).alloc (Nat.le_refl _) _)).mono ?_; rintro e' w1 ⟨rfl, hb1⟩; have HB := Lib.hid (((Below.refl _ _).alloc (Nat.le_refl _) _).trans (hb1.mono ((Below.refl _ _).alloc (Nat.le_refl _) _).size)); have HY1 := Lib.hid (cells_kept (cells_new w [Value.string b.name, .slice bh.A1 b.regions.length bh.c1, .slice bh.A2 b.outl.length bh.c2, .slice bh.A3 b.types.length bh.c3, .slice bh.A4 b.locals.length bh.c4, .int .i64 b.args, .slice bh.A5 b.blocks.length bh.c5] 28) hb1); have y0 := HY1.out 0 _ rfl; have y1 := HY1.out 1 _ rfl; have y2 := HY1.out 2 _ rfl; have y3 := HY1.out 3 _ rfl; have y4 := HY1.out 4 _ rfl; have y5 := HY1.out 5 _ rfl; have y6 := HY1.out 6 _ rfl; clear hb1) | (go_at_call 78; refine (HN.out _ HB.out hd).mono ?_; rintro e' w2 ⟨r, rfl, hck, hb2⟩; have HCK2 := Lib.hid hck; have HB2 := Lib.hid (HB.out.trans (hb2.mono HB.out.size)); have HY2 := Lib.hid (cells_kept HY1.out hb2); clear y0 y1 y2 y3 y4 y5 y6; have y0 := HY2.out 0 _ rfl; have y1 := HY2.out 1 _ rfl; have y2 := HY2.out 2 _ rfl; have y3 := HY2.out 3 _ rfl; have y4 := HY2.out 4 _ rfl; have y5 := HY2.out 5 _ rfl; have y6 := HY2.out 6 _ rfl; have hsz2 : w.heap.size < w2.heap.size := Nat.lt_of_lt_of_le (by have := HB.out.size; have h9 := World.block_lt_of_cell? _ _ (HY1.out 0 _ rfl); exact h9) hb2.size; clear hck hb2))
  go_step3
  go_wp2_with fail
  have HSM := Lib.hid (fun (W : World) (hb : Below w2.heap.size w2 W) (s : Stm) (A0 A B : Option Addr) (c0 c d : Nat) (hp0 : Slc 2 RPj w2 A0 c0 s.place.proj) (hp : Slc 2 RPj w2 A c s.rv.place.proj) (hl : Slc 4 ROp w2 B d s.rv.args) => stmt_any (HCK2.out.keep hb) ((HT.out.keep HB2.out).keep hb) s A0 A B c0 c d (hp0.keep RPj.keeps hb) (hp.keep RPj.keeps hb) (hl.keep ROp.keeps hb))
  have HTM := Lib.hid (fun (W : World) (hb : Below w2.heap.size w2 W) (t : Trm) (A B C : Option Addr) (c d f : Nat) (ht : Slc 1 RInt w2 A c t.targets) (hl : Slc 4 ROp w2 B d t.args) (hp : Slc 2 RPj w2 C f t.place.proj) => term_any (HCK2.out.keep hb) t A B C c d f (ht.keep RInt.keeps hb) (hl.keep ROp.keeps hb) (hp.keep RPj.keeps hb))
  have HBLK := Lib.hid HCK2.out.at_.blk
  have HCC := Lib.hid (cells_new w2 (ckC b bh r) 137)
  unfold ckC at HSM HTM HCC
  obtain ⟨bb, oo, hA5, hbb, hel⟩ := HBLK.out.sl HDOK.out.nblk.1
  have HEL := Lib.hid hel
  clear hel
  rw [hA5] at HSM HTM HCC ⊢
  rw [hA5] at y6
  clear y0 y1 y2 y3 y4 y5 y6 HD HN hd
  go_loopg [3, 19] b.blocks.length (fun gk e i wr => ∃ k : Nat, gk = b.blocks.length - k ∧ k ≤ b.blocks.length ∧ e = .int .i64 0 ∧ i = .int .i64 k ∧ Hid (∀ i v, [Value.string b.name, .slice bh.A1 b.regions.length bh.c1, .slice bh.A2 b.outl.length bh.c2, .slice bh.A3 b.types.length bh.c3, .slice bh.A4 b.locals.length bh.c4, .int .i64 b.args, .slice (some ⟨bb, oo, none⟩) b.blocks.length bh.c5, .pointer (some ⟨r, 0, none⟩)][i]? = some v → wr.cell? ⟨w2.heap.size, i, none⟩ = some v) ∧ Hid (Below w2.heap.size w2 wr) ∧ w2.heap.size + 1 ≤ wr.heap.size ∧ Hid (R = bksE b (b.blocks.drop k)))
  case atStart => exact ⟨0, by omega, by omega, rfl, rfl, HCC, Lib.hid ((Below.refl _ _).alloc (Nat.le_refl _) _), by simp, HF⟩
  case round =>
    clear HCC HF
    obtain ⟨k, hgk, hk, rfl, rfl, HCC, HB3, hsz3, hr⟩ := hrel
    have hlw3 : w2.heap.size < wr.heap.size := hsz3
    by_cases hlt : k < b.blocks.length
    · have hd := drop_cons hlt
      have hx := HEL.out k _ (List.getElem?_eq_getElem hlt)
      obtain ⟨x, hxx⟩ : ∃ x, b.blocks[k] = x := ⟨_, rfl⟩
      rw [hxx] at hd hx
      obtain ⟨A1, c1, A2, c2, A3, c3, A4, c4, p0, p1, p2, p3, p4, p5, p6, hs1, hs2, hs3, hs4⟩ := bk_open hx
      have HQ : Hid (R = if bkE b x = 0 then bksE b (b.blocks.drop (k + 1)) else bkE b x) := Lib.hid (by rw [hr.out, hd, bksE])
      have HS1 := Lib.hid hs1
      have hl1 := hs1.le
      have hg1 := hs1.big
      have HTT := Lib.hid (fun W hb => HTM.out W hb x.term A2 A3 A4 c2 c3 c4 hs2 hs3 hs4)
      unfold tmC at HTT
      replace p0 := cell_keep HB3.out p0
      replace p1 := cell_keep HB3.out p1
      replace p2 := cell_keep HB3.out p2
      replace p3 := cell_keep HB3.out p3
      replace p4 := cell_keep HB3.out p4
      replace p5 := cell_keep HB3.out p5
      replace p6 := cell_keep HB3.out p6
      clear hd hx hxx hr hs1 hs2 hs3 hs4
      by_cases hln : 65535 < x.stmts.length
      · have HF : Hid (R = 15) := Lib.hid (by rw [HQ.out]; unfold bkE; rw [if_pos hln]; rfl)
        clear HQ
        go_wp2_with fail
        rw [Exit.noGoto_ret]
        go_ret
        exact ⟨by rw [HF.out]; rfl, (HB2.out.trans (HB3.out.mono HB2.out.size)).alloc (Nat.le_trans HB2.out.size HB3.out.size) _⟩
      have HQ2 : Hid (R = if stsE b (x.stmts.drop 0) = 0 then (if tmE b x.term = 0 then bksE b (b.blocks.drop (k + 1)) else tmE b x.term) else stsE b (x.stmts.drop 0)) := Lib.hid (by
        rw [HQ.out, List.drop_zero]
        unfold bkE
        rw [if_neg hln]
        by_cases h : stsE b x.stmts = 0 <;> simp [h])
      have HBK := Lib.hid (cells_new wr (bkL x A1 c1 A2 c2 A3 c3 A4 c4) 60)
      have HCC2 : Hid (∀ i v, [Value.string b.name, .slice bh.A1 b.regions.length bh.c1, .slice bh.A2 b.outl.length bh.c2, .slice bh.A3 b.types.length bh.c3, .slice bh.A4 b.locals.length bh.c4, .int .i64 b.args, .slice (some ⟨bb, oo, none⟩) b.blocks.length bh.c5, .pointer (some ⟨r, 0, none⟩)][i]? = some v → (wr.alloc (.cells (bkL x A1 c1 A2 c2 A3 c3 A4 c4).toArray 60)).cell? ⟨w2.heap.size, i, none⟩ = some v) := Lib.hid (fun i v hi => cell_keep ((Below.refl _ _).alloc (Nat.le_refl _) _) (HCC.out i v hi))
      have HB4 := Lib.hid (HB3.out.alloc (Nat.le_of_lt hlw3) (.cells (bkL x A1 c1 A2 c2 A3 c3 A4 c4).toArray 60))
      clear HQ
      go_wp2_with fail
      go_loopg [3, 30] x.stmts.length (fun gj e i wr2 => ∃ j : Nat, gj = x.stmts.length - j ∧ j ≤ x.stmts.length ∧ e = .int .i64 0 ∧ i = .int .i64 j ∧ Hid (∀ i v, [Value.string b.name, .slice bh.A1 b.regions.length bh.c1, .slice bh.A2 b.outl.length bh.c2, .slice bh.A3 b.types.length bh.c3, .slice bh.A4 b.locals.length bh.c4, .int .i64 b.args, .slice (some ⟨bb, oo, none⟩) b.blocks.length bh.c5, .pointer (some ⟨r, 0, none⟩)][i]? = some v → wr2.cell? ⟨w2.heap.size, i, none⟩ = some v) ∧ Hid (∀ i v, (bkL x A1 c1 A2 c2 A3 c3 A4 c4)[i]? = some v → wr2.cell? ⟨wr.heap.size, i, none⟩ = some v) ∧ Hid (Below w2.heap.size w2 wr2) ∧ wr.heap.size + 1 ≤ wr2.heap.size ∧ Hid (R = if stsE b (x.stmts.drop j) = 0 then (if tmE b x.term = 0 then bksE b (b.blocks.drop (k + 1)) else tmE b x.term) else stsE b (x.stmts.drop j)))
      case atStart => exact ⟨0, by omega, by omega, rfl, rfl, HCC2, HBK, HB4, by simp, HQ2⟩
      case round =>
        clear HCC2 HBK HB4 HQ2 p0 p1 p2 p3 p4 p5 p6 HCC HB3
        obtain ⟨j, hgj, hj, rfl, rfl, HCC, HBK, HB5, hsz5, hr⟩ := hrel
        have hlw5 := Nat.lt_of_succ_le hsz5
        have hlw6 := Nat.lt_trans hlw3 hlw5
        have v0 := HCC.out 0 _ rfl
        have v1 := HCC.out 1 _ rfl
        have v2 := HCC.out 2 _ rfl
        have v3 := HCC.out 3 _ rfl
        have v4 := HCC.out 4 _ rfl
        have v5 := HCC.out 5 _ rfl
        have v6 := HCC.out 6 _ rfl
        have v7 := HCC.out 7 _ rfl
        by_cases hjl : j < x.stmts.length
        · have hd := drop_cons hjl
          obtain ⟨b3, o3, rfl, hb3, hy⟩ := HS1.out.sl.at_ hjl
          obtain ⟨s, hss⟩ : ∃ s, x.stmts[j] = s := ⟨_, rfl⟩
          rw [hss] at hd hy
          obtain ⟨B0, d0, B1, d1, B2, d2, m0, m1, m2, m3, m4, m5, m6, m7, m8, m9, m10, hp0, hp, hl⟩ := st_open hy
          have HSS := Lib.hid (fun W hb => HSM.out W hb s B0 B1 B2 d0 d1 d2 hp0 hp hl)
          unfold stC at HSS
          replace m0 := cell_keep HB5.out m0
          replace m1 := cell_keep HB5.out m1
          replace m2 := cell_keep HB5.out m2
          replace m3 := cell_keep HB5.out m3
          replace m4 := cell_keep HB5.out m4
          replace m5 := cell_keep HB5.out m5
          replace m6 := cell_keep HB5.out m6
          replace m7 := cell_keep HB5.out m7
          replace m8 := cell_keep HB5.out m8
          replace m9 := cell_keep HB5.out m9
          replace m10 := cell_keep HB5.out m10
          have HQ3 : Hid ((stE b s = 0 → R = if stsE b (x.stmts.drop (j + 1)) = 0 then (if tmE b x.term = 0 then bksE b (b.blocks.drop (k + 1)) else tmE b x.term) else stsE b (x.stmts.drop (j + 1))) ∧ (stE b s ≠ 0 → R = stE b s)) := Lib.hid (by
            rw [hr.out, hd]
            constructor
            · intro h; rw [show stsE b (s :: x.stmts.drop (j + 1)) = stsE b (x.stmts.drop (j + 1)) from by rw [stsE, if_pos h]]
            · intro h; rw [show stsE b (s :: x.stmts.drop (j + 1)) = stE b s from by rw [stsE, if_neg h], if_neg h])
          have HB6 := Lib.hid (HB5.out.alloc (Nat.le_of_lt hlw6) (.cells (stC s B0 d0 B1 d1 B2 d2).toArray 122))
          generalize stE b s = es at HSS HQ3
          clear hd hy hss hp0 hp hl hr
          by_cases he : es = 0
          · subst he
            have HF := Lib.hid (HQ3.out.1 rfl)
            clear HQ3
            go_wp2_with (go_at_call 79; refine (HSS.out _ HB6.out).mono ?_; rintro e' w5 ⟨rfl, hb5⟩; have HB7 := Lib.hid (HB6.out.trans (hb5.mono HB6.out.size)); have HC7 := Lib.hid (cells_past HCC.out hb5); have HK7 := Lib.hid (cells_past HBK.out hb5); have hsz7 := hb5.size; simp only [World.size_alloc] at hsz7; clear hb5)
            go_roundg (x.stmts.length - (j + 1))
            case measure => omega
            case rel => exact ⟨j + 1, rfl, by omega, rfl, by go_num, HC7, HK7, HB7, by omega, HF⟩
          · have HF := Lib.hid (HQ3.out.2 he)
            have e1 : (es != 0) = true := by simp [he]
            clear HQ3 he
            go_wp2_with (go_at_call 79; refine (HSS.out _ HB6.out).mono ?_; rintro e' w5 ⟨rfl, hb5⟩; have HB7 := Lib.hid (HB6.out.trans (hb5.mono HB6.out.size)); clear hb5)
            rw [Exit.noGoto_ret]
            go_ret
            exact ⟨by rw [HF.out]; rfl, HB2.out.trans (HB7.out.mono HB2.out.size)⟩
        · have HQ3 : Hid (R = if tmE b x.term = 0 then bksE b (b.blocks.drop (k + 1)) else tmE b x.term) := Lib.hid (by rw [hr.out, List.drop_eq_nil_of_le (by omega : x.stmts.length ≤ j)]; rfl)
          have k0 := HBK.out 0 _ rfl
          have k1 := HBK.out 1 _ rfl
          have k2 := HBK.out 2 _ rfl
          have k3 := HBK.out 3 _ rfl
          have k4 := HBK.out 4 _ rfl
          have k5 := HBK.out 5 _ rfl
          have k6 := HBK.out 6 _ rfl
          generalize tmE b x.term = et at HTT HQ3
          clear hr
          by_cases he : et = 0
          · subst he
            have HF : Hid (R = bksE b (b.blocks.drop (k + 1))) := Lib.hid (by rw [HQ3.out]; rfl)
            clear HQ3
            go_wp2_with (go_at_call 80; refine (HTT.out _ HB5.out).mono ?_; rintro e' w5 ⟨rfl, hb5⟩; have HB7 := Lib.hid (HB5.out.trans (hb5.mono HB5.out.size)); have HC7 := Lib.hid (cells_kept HCC.out hb5); have hsz7 := hb5.size; clear hb5)
            go_roundg (b.blocks.length - (k + 1))
            case measure => omega
            case rel => exact ⟨k + 1, rfl, by omega, rfl, by go_num, HC7, HB7, by omega, HF⟩
          · have HF : Hid (R = et) := Lib.hid (by rw [HQ3.out, if_neg he])
            have e1 : (et == 0) = false := by simp [he]
            clear HQ3 he
            go_wp2_with (go_at_call 80; refine (HTT.out _ HB5.out).mono ?_; rintro e' w5 ⟨rfl, hb5⟩; have HB7 := Lib.hid (HB5.out.trans (hb5.mono HB5.out.size)); clear hb5)
            rw [Exit.noGoto_ret]
            go_ret
            exact ⟨by rw [HF.out]; rfl, HB2.out.trans (HB7.out.mono HB2.out.size)⟩
    · have HF : Hid (R = 0) := Lib.hid (by rw [hr.out, List.drop_eq_nil_of_le (by omega : b.blocks.length ≤ k)]; rfl)
      clear hr
      go_wp2_with fail
      rw [Exit.noGoto_ret]
      go_ret
      exact ⟨by rw [HF.out]; rfl, HB2.out.trans (HB3.out.mono HB2.out.size)⟩
end Go.Proofs.YtbnljlpefpllcaaGreatDoor
namespace Go.Proofs.YtbnljlpefpllcaaGreatDoor
open Go Go.ChangeShapes Go.WideShapes Go.ChangeAt Go.RowKit Go.Joins Go.Deep
theorem list_of {α : Type} {n : Nat} {p : Nat → α → Prop} (h : ∀ i, i < n → ∃ x, p i x) : ∃ xs : List α, xs.length = n ∧ ∀ i x, xs[i]? = some x → p i x := by
  induction n with
  | zero => exact ⟨[], rfl, by simp⟩
  | succ n ih =>
    obtain ⟨xs, hl, hx⟩ := ih (fun i hi => h i (by omega))
    obtain ⟨y, hy⟩ := h n (by omega)
    refine ⟨xs ++ [y], by simp [hl], fun i x hi => ?_⟩
    by_cases hin : i < n
    · rw [List.getElem?_append_left (by omega)] at hi
      exact hx i x hi
    · have hlt := (List.getElem?_eq_some_iff.1 hi).1
      simp only [List.length_append, List.length_singleton] at hlt
      obtain rfl : i = n := by omega
      rw [← hl, List.getElem?_concat_length] at hi
      cases hi
      exact hy
theorem add_none (b o n : Nat) : (⟨b, o, none⟩ : Addr).add n = ⟨b, o + n, none⟩ := by
  unfold Addr.add
  split
  · next h => subst h; rfl
  · rfl
theorem spot_none {w : World} {a : Addr} {v : Value} (h : w.cell? a = some v) : a.spot = none := by
  cases hs : a.spot with
  | none => rfl
  | some x =>
    unfold World.cell? at h
    rw [hs] at h
    split at h
    · simp at h
    · cases h
section
variable {H : Type} {enc : TypeId × Value → H} {P : Program} {w : World} {base : Nat} {spare : Nat → Bool} {held : Bool}
/-- A slice whose elements have a reading. -/
theorem open_sl {α : Type} {k : Nat} {R : Rd α} {t e : TypeId} {fuel : Nat} {cs : List Value} {x : DataW H × List MemPlace} (ht : P.underlying t = some (.slice e)) (hk : P.cellsOf e = k) (hk0 : 0 < k)
    (h : DataW.trod enc P w base spare held fuel t cs = some x)
    (hR : ∀ (b o n : Nat) (cs' : List Value) (y : DataW H × List MemPlace), cs'.length = k → (∀ j, j < k → w.cell? ⟨b, o + j, none⟩ = cs'[j]?) → DataW.trod enc P w base spare held n e cs' = some y → ∃ z, R w w.heap.size b o z) :
    ∃ A c, ∃ xs : List α, cs = [.slice A xs.length c] ∧ Slc k R w A c xs := by
  rcases open_slice ht h with ⟨rfl, _⟩ | ⟨a, len, cap, m, n, D, Pl, rfl, hb, hl, hm, hmm, hx, hi⟩
  · exact ⟨none, 0, [], rfl, Sl.nil, by simp, by omega⟩
  · obtain ⟨b, off, s⟩ := a
    have hlm : len ≤ m := by rw [hmm]; split <;> omega
    rw [hk] at hi
    unfold maxLen at hm
    by_cases h0 : len = 0
    · subst h0
      exact ⟨_, cap, [], rfl, Sl.nil, by simp, hm⟩
    · have hfirst : ∃ v, w.cell? ⟨b, off, s⟩ = some v := by
        obtain ⟨cs', hc, _⟩ := hi 0 (by omega)
        obtain ⟨_, hcl, hat⟩ := World.cells?_some hc
        have h1 := hat 0 hk0
        rw [List.getElem?_eq_getElem (by omega)] at h1
        simp only [Nat.zero_mul, Addr.add, if_true] at h1
        exact ⟨_, h1⟩
      obtain ⟨v, hv⟩ := hfirst
      have hs : s = none := spot_none hv
      subst hs
      obtain ⟨xs, hxl, hxs⟩ := list_of (n := len) (p := fun i z => R w w.heap.size b (off + i * k) z) (fun i hi' => by
        obtain ⟨cs', hc, ht'⟩ := hi i (by omega)
        obtain ⟨_, hcl, hat⟩ := World.cells?_some hc
        refine hR b (off + i * k) n cs' _ hcl (fun j hj => ?_) ht'
        have h1 := hat j hj
        rw [add_none, add_none] at h1
        exact h1)
      exact ⟨_, cap, xs, by rw [hxl], ⟨fun _ => ⟨b, off, rfl, World.block_lt_of_cell? _ _ hv, hxs⟩, by omega, hm⟩⟩
theorem trodAll_stays (hl : laidOutB P = true) {W W' : World} {sp : Nat → Bool} : ∀ (ts : List TypeId) (vs : List Value) (ds : List (DataW H)) (ps : List MemPlace),
    (∀ t ∈ ts, P.readableRec t = true ∧ t < P.types.size) → DataW.TrodAll enc P W 0 (fun _ => true) true ts vs ds ps → (∀ p ∈ ps, W.sameAt W' p) → (∀ p ∈ ps, sp p.block = true) → DataW.TrodAll enc P W' 0 sp true ts vs ds ps
  | [], [], [], _, _, h, _, _ => h
  | t :: ts, v :: vs, d :: ds, ps, hr, h, hs, hp => by
    obtain ⟨p, q, h1, h2, rfl⟩ := h
    exact ⟨p, q, WideElems.Trod_stays hl (hr t (by simp)).1 (hr t (by simp)).2 h1 (fun x hx => hs x (by simp [hx])) (fun x hx => hp x (by simp [hx])),
      trodAll_stays hl ts vs ds q (fun t' ht => hr t' (by simp [ht])) h2 (fun x hx => hs x (by simp [hx])) (fun x hx => hp x (by simp [hx])), rfl⟩
  | [], [], _ :: _, _, _, h, _, _ => h.elim
  | [], _ :: _, _, _, _, h, _, _ => h.elim
  | _ :: _, [], _, _, _, h, _, _ => h.elim
  | _ :: _, _ :: _, [], _, _, h, _, _ => h.elim
/-- A law that answers true and leaves what was there. -/
theorem law_post {f : Func} {s : ChangeSpec} {apart fresh handsOn : Bool} {W W' : World} {args : Array Value} {ds : List (DataW H)} {before : List MemPlace} {tb : TypeId}
    (hl : laidOutB P = true) (hvars : s.vars = []) (hrt : f.resultTypes = #[tb]) (htb : P.underlying tb = some .bool)
    (hfn : s.fn H ds = { results := [.lit (.bool true)], args := ds }) (hrd : ∀ t ∈ f.params.toList, P.readableRec t = true ∧ t < P.types.size)
    (hW : DataW.Whole enc P f.params.toList s.vars apart W args.toList ds [] before) (hb : Below W.heap.size W W') :
    s.post enc P f apart fresh handsOn false W args (.bool true) W' := by
  have hlt : ∀ p ∈ before, p.block < W.heap.size := fun p hp => hW.lt p hp
  have hW2 := hW
  obtain ⟨p, q, hA, hV, hbe, _, _⟩ := hW2
  rw [hvars] at hV
  obtain ⟨_, rfl⟩ := trodVars_none hV
  rw [List.append_nil] at hbe
  subst hbe
  refine ⟨ds, [], before, [], before, [], hW, ?_, ?_, ?_, World.keptBut_mono (fun p hp => ⟨hp, Or.inr (Or.inl hp)⟩) (hb.frame (· ∈ before)), fun h => by cases h⟩
  · rw [List.append_nil, hfn, hrt]
    exact trodAll_mk1 (shut_bool htb true)
  · rw [List.append_nil, hfn]
    exact trodAll_stays hl _ _ _ _ hrd hA (fun x hx => hb.same (hlt x hx)) (fun x hx => by simpa using hlt x hx)
  · rw [List.append_nil, hfn, hvars]
    rfl
end
theorem Tryz.own : ownKnob Tryz.prog.godebug = none := by kernel_rfl
theorem Tryz.laidOut : laidOutB Tryz.prog = true := by kernel_rfl
section
variable {H : Type} {enc : TypeId × Value → H} {w : World} {base : Nat} {spare : Nat → Bool} {held : Bool}
set_option maxRecDepth 100000
/-- A slice of names. -/
theorem open_names {r : Reach} {b0 : Nat} {v : Value} {d : DataW H} {p : List MemPlace} (hv : Value.okWide Tryz.prog w r b0 22 v) (h : DataW.Trod enc Tryz.prog w base spare held 22 v d p) :
    ∃ (A : Option Addr) (c : Nat) (xs : List ByteArray), v = .slice A xs.length c ∧ Slc 1 RN w A c xs := by
  obtain ⟨a0, len, cap, rfl⟩ := okWide_slice Tryz.underlying22 hv
  obtain ⟨fuel, hf⟩ := h
  obtain ⟨A, c, xs, hts, hs⟩ := open_sl (R := RN) (k := 1) Tryz.underlying22 (by kernel_rfl) (by omega) hf (fun b o m cs' y hl' hc ht => by
    obtain ⟨k0, q0, _, _⟩ := DataW.trod_string Tryz.underlying9 ht
    subst q0
    exact ⟨k0, hc 0 (by omega)⟩)
  have hvv : Value.slice a0 len cap = .slice A xs.length c := by simpa [Value.cells] using hts
  exact ⟨A, c, xs, hvv, hs⟩
/-- A slice of bytes. -/
theorem open_u8s {r : Reach} {b0 : Nat} {v : Value} {d : DataW H} {p : List MemPlace} (hv : Value.okWide Tryz.prog w r b0 34 v) (h : DataW.Trod enc Tryz.prog w base spare held 34 v d p) :
    ∃ (A : Option Addr) (c : Nat) (xs : List UInt8), v = .slice A xs.length c ∧ Slc 1 RB w A c xs := by
  obtain ⟨a0, len, cap, rfl⟩ := okWide_slice Tryz.underlying34 hv
  obtain ⟨fuel, hf⟩ := h
  obtain ⟨A, c, xs, hts, hs⟩ := open_sl (R := RB) (k := 1) Tryz.underlying34 (by kernel_rfl) (by omega) hf (fun b o m cs' y hl' hc ht => by
    obtain ⟨k0, q0, _, hw⟩ := DataW.trod_int (k := .u8) Tryz.underlying5 ht
    subst q0
    have hb : 0 ≤ k0 ∧ k0 ≤ 255 := by
      simp [Lit.wf, IntKind.min, IntKind.max, IntKind.signed, IntKind.bits] at hw
      omega
    refine ⟨UInt8.ofNat k0.toNat, ?_⟩
    have hz : ((UInt8.ofNat k0.toNat).toNat : Int) = k0 := by
      rw [UInt8.toNat_ofNat']
      omega
    show w.cell? ⟨b, o, none⟩ = some (.int .u8 ((UInt8.ofNat k0.toNat).toNat : Int))
    rw [hz]
    exact hc 0 (by omega))
  have hvv : Value.slice a0 len cap = .slice A xs.length c := by simpa [Value.cells] using hts
  exact ⟨A, c, xs, hvv, hs⟩
end
theorem len_two {α : Type} : ∀ {l : List α}, l.length = 2 → ∃ a b, l = [a, b]
  | [a, b], _ => ⟨a, b, rfl⟩
section
variable {H : Type} {enc : TypeId × Value → H} {P : Program} {w : World} {base : Nat} {spare : Nat → Bool} {held : Bool}
/-- Two numbers in a struct, as listed. -/
theorem pair_laid {e : TypeId} {f0 f1 : Field} {m : Nat} {cs : List Value} {a b : Int} {x : DataW H × List MemPlace} (he : P.underlying e = some (.struct #[f0, f1])) (hone : oneCellFields P #[f0, f1] = true) (hC : P.cellsOf e = 2)
    (hf0 : P.underlying f0.type = some (.int .i64)) (hf1 : P.underlying f1.type = some (.int .i64))
    (h : DataW.trod enc P w base spare held m e cs = some x) (hx1 : x.1 = .agg [.lit (.int .i64 a), .lit (.int .i64 b)]) : cs[0]? = some (.int .i64 a) ∧ cs[1]? = some (.int .i64 b) := by
  obtain ⟨ys, n, _, rfl, hcl, hyl, hfl⟩ := DataW.trod_struct he h
  obtain ⟨y0, y1, rfl⟩ := len_two (show ys.length = 2 from hyl)
  obtain ⟨c0, c1, rfl⟩ := len_two (hcl.trans hC)
  obtain ⟨o0, k0⟩ := hone_of hone 0 f0 rfl
  obtain ⟨o1, k1⟩ := hone_of hone 1 f1 rfl
  have g0 := hfl 0 f0 rfl
  have g1 := hfl 1 f1 rfl
  rw [o0, k0] at g0
  rw [o1, k1] at g1
  obtain ⟨n0, e0, z0, _⟩ := DataW.trod_int (k := .i64) (x := y0) hf0 g0
  obtain ⟨n1, e1, z1, _⟩ := DataW.trod_int (k := .i64) (x := y1) hf1 g1
  simp only [List.map_cons, List.map_nil, z0, z1, DataW.agg.injEq, List.cons.injEq, DataW.lit.injEq, Lit.int.injEq, and_true, true_and] at hx1
  obtain ⟨rfl, rfl⟩ := hx1
  simp at e0 e1
  subst e0 e1
  exact ⟨rfl, rfl⟩
/-- An array of such, as listed. -/
theorem pairs_laid {t e : TypeId} {n : Nat} {f0 f1 : Field} {m : Nat} {cs : List Value} {l : List (Int × Int)} {x : DataW H × List MemPlace} (ht : P.underlying t = some (.array n e)) (he : P.underlying e = some (.struct #[f0, f1])) (hone : oneCellFields P #[f0, f1] = true) (hC : P.cellsOf e = 2)
    (hf0 : P.underlying f0.type = some (.int .i64)) (hf1 : P.underlying f1.type = some (.int .i64))
    (h : DataW.trod enc P w base spare held m t cs = some x) (hx : x.1 = .agg (l.map fun p => .agg [.lit (.int .i64 p.1), .lit (.int .i64 p.2)])) (i : Nat) (p : Int × Int) (hi : l[i]? = some p) :
    cs[i * 2]? = some (.int .i64 p.1) ∧ cs[i * 2 + 1]? = some (.int .i64 p.2) := by
  obtain ⟨xs, k, _, rfl, hcl, hxl, hel⟩ := DataW.trod_array ht h
  have hm : xs.map (·.1) = l.map fun p => .agg [.lit (.int .i64 p.1), .lit (.int .i64 p.2)] := by simpa using hx
  have hll : xs.length = l.length := by simpa using congrArg List.length hm
  have hil := (List.getElem?_eq_some_iff.1 hi).1
  have h1 := hel i (by omega)
  rw [hC, List.getElem?_eq_getElem (show i < xs.length by omega)] at h1
  have hx1 : xs[i].1 = .agg [.lit (.int .i64 p.1), .lit (.int .i64 p.2)] := by
    have := congrArg (fun z => z[i]?) hm
    simp only [List.getElem?_map, hi, List.getElem?_eq_getElem (show i < xs.length by omega), Option.map_some, Option.some.injEq] at this
    exact this
  obtain ⟨q0, q1⟩ := pair_laid he hone hC hf0 hf1 h1 hx1
  simp only [List.getElem?_take, List.getElem?_drop, Nat.add_zero] at q0 q1
  rw [if_pos (by omega)] at q0 q1
  exact ⟨q0, q1⟩
end
theorem gUn : Tryz.prog.globalNamed "mirtower/valid.unary" = some 0 := by kernel_rfl
theorem gUnT : (Tryz.prog.globals[0]?).map (·.type) = some 249 := by kernel_rfl
theorem gBi : Tryz.prog.globalNamed "mirtower/valid.binary" = some 1 := by kernel_rfl
theorem gBiT : (Tryz.prog.globals[1]?).map (·.type) = some 250 := by kernel_rfl
theorem cells_op : Tryz.prog.cellsOf 248 = 2 := by kernel_rfl
/-- A listed array of pairs of numbers in its block. -/
theorem laid_pairs {n : String} {g : Nat} {tid : TypeId} {k : Nat} {l : List (Int × Int)} {r : List (String × DataW Unit)} {w : World} (hg : Tryz.prog.globalNamed n = some g) (ht : (Tryz.prog.globals[g]?).map (·.type) = some tid) (hu : Tryz.prog.underlying tid = some (.array k 248)) (hk : l.length = k) (hk0 : 0 < k) (hkm : k ≤ 1000)
    (h : laidMet Tryz.prog ((n, .agg (l.map fun p => .agg [.lit (.int .i64 p.1), .lit (.int .i64 p.2)])) :: r) w) : Slc 2 RPr w (some ⟨g, 0, none⟩) k l := by
  subst hk
  obtain ⟨ps, ⟨g0, t0, cs0, f0, p0, q0, hg0, ht0, hv0, hd0, _, e0⟩, _, _⟩ := h
  obtain rfl := Option.some.inj (hg.symm.trans hg0)
  obtain rfl := Option.some.inj (ht.symm.trans ht0)
  have hc := fun i p hi => pairs_laid hu Tryz.underlying248 (by kernel_rfl) cells_op Tryz.underlying3 Tryz.underlying3 hd0 rfl i p hi
  have hcell := fun i => World.var?_cell hg0 hv0 i
  refine ⟨fun _ => ⟨g, 0, rfl, ?_, fun i p hi => ?_⟩, Nat.le_refl _, by omega⟩
  · obtain ⟨p, hp⟩ : ∃ p, l[0]? = some p := ⟨_, List.getElem?_eq_getElem hk0⟩
    have h1 := (hc 0 p hp).1
    have h2 := hcell 0
    rw [show cs0[0]? = cs0.toList[0]? from (Array.getElem?_toList ..).symm, show cs0.toList[0]? = _ from h1] at h2
    exact World.block_lt_of_cell? _ _ h2
  · have h1 := hc i p hi
    have h2 := hcell (i * 2)
    have h3 := hcell (i * 2 + 1)
    rw [← Array.getElem?_toList, h1.1] at h2
    rw [← Array.getElem?_toList, h1.2] at h3
    refine ⟨?_, ?_⟩
    · rw [Nat.zero_add]; exact h2
    · rw [Nat.zero_add]; exact h3
/-- What the listed variables give. -/
theorem tabs_of {w : World} (h : laidMetH Tryz.prog Rows.bindeclDecodesRow.laid w) : TabsOk w := by
  rw [MakeChecks.laidMetH_plain _ _ _ (by kernel_rfl)] at h
  exact ⟨laid_pairs gUn gUnT Tryz.underlying249 rfl (by omega) (by omega) (l := unaryT) h.tail,
    laid_pairs gBi gBiT Tryz.underlying250 rfl (by omega) (by omega) (l := binaryT) h.tail.tail⟩
end Go.Proofs.YtbnljlpefpllcaaGreatDoor
