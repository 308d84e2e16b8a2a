/-
  Parts of the proof: RD Q1.
-/
import Derived.Test.YtbnljlpefpllcaaGreatDoorMD9
import Derived.Deep.CutBlock
import Derived.ChangeKeysEq
namespace Go.Proofs.YtbnljlpefpllcaaGreatDoor
open Go Go.RowKit
set_option maxRecDepth 100000 in
set_option maxHeartbeats 8000000 in
theorem rdecode_any (data : List UInt8) (A : Option Addr) (c : Nat) (T : Option Addr) (ct : Nat) (tbl : List ByteArray) (w : World) (hs : Slc 1 RB w A c data) (hl : data.length ≤ 1000000) (ht : Slc 1 RN w T ct tbl) (hTl : ∀ a, T = some a → a.block < w.heap.size) :
    Calls Tryz.prog 15 #[.slice A data.length c, .slice T tbl.length ct] w fun e' w' => ∃ bh, e' = .returned (.tuple #[.agg (bdC (decS tbl data).1 bh).toArray, .int .i64 (decS tbl data).2]) ∧ BdAt w' (decS tbl data).1 bh ∧ Below w.heap.size w w' := by
  obtain ⟨iS, iS0, iS1, iS2, iS3⟩ := info_parts infoStr
  obtain ⟨iP, iP0, iP1, iP2, iP3⟩ := info_parts infoPr
  obtain ⟨iT, iT0, iT1, iT2, iT3⟩ := info_parts infoTy
  obtain ⟨iL, iL0, iL1, iL2, iL3⟩ := info_parts infoLc
  obtain ⟨W, hW⟩ : ∃ W, w.alloc (.cells #[.string ⟨#[]⟩, .slice none 0 0, .slice none 0 0, .slice none 0 0, .slice none 0 0, .int .i64 0, .slice none 0 0] 28) = W := ⟨_, rfl⟩
  have hb : Below w.heap.size w W := by rw [← hW]; exact (Below.refl _ _).alloc (Nat.le_refl _) _
  have hk : W.heap[w.heap.size]? = some (.cells #[.string ⟨#[]⟩, .slice none 0 0, .slice none 0 0, .slice none 0 0, .slice none 0 0, .int .i64 0, .slice none 0 0] 28 (0, 0)) := by rw [← hW]; exact heap_alloc_new w _
  have hWs : W.heap.size = w.heap.size + 1 := by rw [← hW]; simp
  obtain ⟨W0, hW0⟩ : ∃ W0, W.alloc (.cells #[.slice A data.length c, .int .i64 0] 109) = W0 := ⟨_, rfl⟩
  have hb0 : Below W.heap.size W W0 := by rw [← hW0]; exact (Below.refl _ _).alloc (Nat.le_refl _) _
  have hW0s : W0.heap.size = W.heap.size + 1 := by rw [← hW0]; simp
  have hbw0 : Below w.heap.size w W0 := hb.trans (hb0.mono hb.size)
  have hk0 : W0.heap[w.heap.size]? = some (.cells #[.string ⟨#[]⟩, .slice none 0 0, .slice none 0 0, .slice none 0 0, .slice none 0 0, .int .i64 0, .slice none 0 0] 28 (0, 0)) := (hb0.block _ (by omega)).trans hk
  have hrd : RRl W0 W.heap.size ⟨data, 0⟩ := ⟨⟨A, c, by rw [← hW0]; exact heap_alloc_new W _, (hs.keep RB.keeps hb).keep RB.keeps hb0, fun a ha hp => by
    obtain ⟨b, o, he, hb, _⟩ := hs.sl hp
    rw [ha] at he
    injection he with he
    rw [he]
    show b < W.heap.size
    omega⟩, hl⟩
  obtain ⟨g, hg⟩ : ∃ g, W.heap.size = g := ⟨_, rfl⟩
  have htab : ∀ X, But g W0 X → Slc 1 RN X T ct tbl := fun X hx => tbl_keep ((ht.keep RN.keeps hb).keep RN.keeps hb0) hx (fun a ha => by have := hTl a ha; omega)
  have hTne : ∀ a, T = some a → a.block ≠ g := fun a ha => by have := hTl a ha; omega
  rw [hg] at hrd
  obtain ⟨Q, hQ⟩ : ∃ Q, decS tbl data = Q := ⟨_, rfl⟩
  rw [hQ]
  have HQ := Lib.hid hQ
  obtain ⟨N1, hN1⟩ : ∃ x, nameS tbl ⟨data, 0⟩ = x := ⟨_, rfl⟩
  obtain ⟨R1, hR1⟩ : ∃ x, listS (nameS tbl) N1.2 = x := ⟨_, rfl⟩
  obtain ⟨R2, hR2⟩ : ∃ x, listS pairS R1.2 = x := ⟨_, rfl⟩
  obtain ⟨R3, hR3⟩ : ∃ x, listS typeS R2.2 = x := ⟨_, rfl⟩
  obtain ⟨R4, hR4⟩ : ∃ x, listS (localS tbl) R3.2 = x := ⟨_, rfl⟩
  obtain ⟨R5, hR5⟩ : ∃ x, numS R4.2 = x := ⟨_, rfl⟩
  have HBODY : Hid (bodyS tbl ⟨data, 0⟩ = (⟨N1.1, R1.1, R2.1, R3.1, R4.1, R5.1, []⟩, R5.2)) := Lib.hid (by rw [← hR5, ← hR4, ← hR3, ← hR2, ← hR1, ← hN1]; rfl)
  have HST : Hid (R5.2.err = 0 → N1.2.err = 0 ∧ R1.2.err = 0 ∧ R2.2.err = 0 ∧ R3.2.err = 0 ∧ R4.2.err = 0) := Lib.hid (fun h5 => by
    have h4 : R4.2.err = 0 := Decidable.byContradiction fun h => h (by rw [← num_stay R4.2 h, hR5]; exact h5)
    have h3 : R3.2.err = 0 := Decidable.byContradiction fun h => h (by rw [← list_stay (local_stay tbl) R3.2 h, hR4]; exact h4)
    have h2 : R2.2.err = 0 := Decidable.byContradiction fun h => h (by rw [← list_stay type_stay R2.2 h, hR3]; exact h3)
    have h1 : R1.2.err = 0 := Decidable.byContradiction fun h => h (by rw [← list_stay pair_stay R1.2 h, hR2]; exact h2)
    have h0 : N1.2.err = 0 := Decidable.byContradiction fun h => h (by rw [← list_stay (name_stay tbl) N1.2 h, hR1]; exact h1)
    exact ⟨h0, h1, h2, h3, h4⟩)
  have HN0 := Lib.hid (rlname g ⟨data, 0⟩ tbl T ct W0 hrd (htab W0 (But.refl _ _)) hTne)
  rw [hN1] at HN0
  have HL1 := Lib.hid hR1
  have HL2 := Lib.hid hR2
  have HL3 := Lib.hid hR3
  have HL4 := Lib.hid hR4
  have HL5 := Lib.hid hR5
  have HTAB := Lib.hid htab
  have HTNE := Lib.hid hTne
  have HBW0 := Lib.hid hbw0
  have HK0 := Lib.hid hk0
  have hgw : w.heap.size < g := by omega
  have hgW0 : W0.heap.size = g + 1 := by omega
  rw [hg] at hW0s hb0
  clear hs ht hk hb hQ hN1 hR1 hR2 hR3 hR4 hR5 htab hTne hTl hbw0 hk0 hrd hb0 hW0s hWs
  go_enter Tryz.func15, Tryz.ntmps15
  go_wp2_with fail
  try rw [hg]
  go_at_call 52
  refine HN0.out.mono ?_
  rintro e' w1 ⟨rfl, hr1, hb1⟩
  have hs1 := hb1.size
  obtain ⟨A2, hA2⟩ : ∃ A2, w1.alloc (.cells #[.string ⟨#[]⟩, .slice none 0 0, .slice none 0 0, .slice none 0 0, .slice none 0 0, .int .i64 0, .slice none 0 0] 28) = A2 := ⟨_, rfl⟩
  have hbA : Below w1.heap.size w1 A2 := by rw [← hA2]; exact (Below.refl _ _).alloc (Nat.le_refl _) _
  have hkA : A2.heap[w1.heap.size]? = some (.cells #[.string ⟨#[]⟩, .slice none 0 0, .slice none 0 0, .slice none 0 0, .slice none 0 0, .int .i64 0, .slice none 0 0] 28 (0, 0)) := by rw [← hA2]; exact heap_alloc_new w1 _
  obtain ⟨W3, hW3⟩ : ∃ W3, set7 A2 w1.heap.size (.string N1.1) (.slice none 0 0) (.slice none 0 0) (.slice none 0 0) (.slice none 0 0) (.int .i64 0) (.slice none 0 0) = W3 := ⟨_, rfl⟩
  have hk3 : W3.heap[w1.heap.size]? = some (.cells #[.string N1.1, .slice none 0 0, .slice none 0 0, .slice none 0 0, .slice none 0 0, .int .i64 0, .slice none 0 0] 28 (0, 0)) := by rw [← hW3]; exact blk7_set _ _ _ _ _ _ _ hkA
  have hb3 : But g W0 W3 := by rw [← hW3]; exact set7_but _ _ _ _ _ _ _ (hb1.trans (But.of_below hbA)) hs1
  have hr3 : RRl W3 g N1.2 := by rw [← hW3]; exact (hr1.keep hbA).low (by rw [set7_size]; exact Nat.le_refl _) (fun j hj => set7_far _ _ _ _ _ _ _ (by omega))
  have hW3s : W3.heap.size = w1.heap.size + 1 := by rw [← hW3, set7_size, ← hA2]; simp
  have HDI0 := Lib.hid (⟨hk3, hb3.blk HK0.out (by omega), hr3, hb3, by omega⟩ : DI g w.heap.size w1.heap.size W0 W3 N1.1 (.slice none 0 0) (.slice none 0 0) (.slice none 0 0) (.slice none 0 0) N1.2)
  obtain ⟨a0, a1, a2, a3, a4, a5, a6, a7⟩ := blk7 hkA
  have a70 := a7 0
  have a71 := a7 1
  have a72 := a7 2
  have a73 := a7 3
  have a74 := a7 4
  have a75 := a7 5
  have a76 := a7 6
  unfold set7 at hW3
  clear hbA hkA hk3 hb3 hr3 a7 hr1 hb1 HN0
  have hk1g : w1.heap.size ≠ g := by omega
  have hk0g : w.heap.size ≠ g := by omega
  have hne : w1.heap.size ≠ w.heap.size := by omega
  have hne' := hne.symm
  go_wp2_with fail
  go_at_call 53
  refine (rlcount g N1.2 W3 HDI0.out.rd).mono ?_
  rintro e' Y1 ⟨rfl, hr, hb⟩
  have HST1 := Lib.hid (At16.start HL1.out (n := (countS 65535 N1.2).1) (s0 := (countS 65535 N1.2).2) rfl)
  have hnl1 := count_le 65535 N1.2
  generalize countS 65535 N1.2 = K at *
  obtain ⟨n1, s1⟩ := K
  simp only at HST1 hnl1 hr
  have HDY1 := Lib.hid (HDI0.out.but hb hr hk1g hk0g)
  clear hr hb
  clear hW3 a0 a1 a2 a3 a4 a5 a6 a70 a71 a72 a73 a74 a75 a76 hA2
  go_upto_block 0 with fail
  go_cut [9] (fun sX wx => ∃ v, DI g w.heap.size w1.heap.size W0 wx N1.1 v (.slice none 0 0) (.slice none 0 0) (.slice none 0 0) R1.2 ∧ RowS w1.heap.size wx v R1)
  case first =>
    go_wp2_with fail
    go_loopw [9] (fun i wr => ∃ (k : Nat) (sk : Rs) (xs : List ByteArray) (v : Value), i = .int .i64 k ∧ k ≤ n1 ∧ xs.length = k ∧ Hid (DI g w.heap.size w1.heap.size W0 wr N1.1 v (.slice none 0 0) (.slice none 0 0) (.slice none 0 0) sk) ∧ Hid (wr.ownsRow (w1.heap.size + 1) 9 1 v k (xs.flatMap (fun x => [Value.string x]))) ∧ Hid (At16 (nameS tbl) R1 n1 k sk xs)) (fun i _ => n1 - (intOf i).toNat)
    case atStart => exact ⟨0, s1, [], .slice none 0 0, rfl, by omega, rfl, HDY1, Lib.hid (World.ownsRow_nil _ _ _ _), HST1⟩
    case round =>
      obtain ⟨k, sk, xs, v, rfl, hkn, hxl, HD, HROW, HAT⟩ := hrel
      have hsk := HD.out.rd.err
      have hsz := HD.out.sz
      have hWs := HD.out.bt.size
      by_cases hgo : k < n1 ∧ sk.err = 0
      · obtain ⟨hlt, hse⟩ := hgo
        rw [hse] at hsk
        have HSE := Lib.hid hse
        clear hse
        obtain ⟨a0, a1, a2, a3, a4, a5, a6, a7⟩ := blk7 HD.out.b1
        have a71 := a7 1
        clear a7
        have HN := Lib.hid (rlname g sk tbl T ct wr.drew (HD.out.rd.keep (Below.refl _ wr).drew) (HTAB.out _ (HD.out.bt.trans (But.of_below (Below.refl _ wr).drew))) HTNE.out)
        obtain ⟨Z, hZ⟩ : ∃ Z, (nameS tbl) sk = Z := ⟨_, rfl⟩
        rw [hZ] at HN
        obtain ⟨x, s'⟩ := Z
        have HZ := Lib.hid hZ
        clear hZ
        (try simp only at HN)
        go_wp2_with fail
        refine wp_region_ot (S := fun X => X.cell? ⟨w1.heap.size, 1, none⟩ = some v) 8 [0, 1, 2, 3, 4, 5, 6, 7, 8] (by kernel_rfl) ?_
        have hS : wr.drew.cell? ⟨w1.heap.size, 1, none⟩ = some v := a1
        (iterate 4 (refine wpO_take (v := ?_) (by kernel_rfl) (fun _ _ _ h => h) (Or.inl ⟨by rfl, ?_⟩) hS ?_; rotate_left; (next => (rintro X r1; (try simp only [List.getD_cons_zero, List.getD_cons_succ, List.getElem?_toArray, List.getElem?_cons_zero, List.getElem?_cons_succ, Option.getD_some]); go_simp; rfl)); simp only [List.getD_cons_zero, List.getD_cons_succ, List.getElem?_toArray, List.getElem?_cons_zero, List.getElem?_cons_succ, Option.getD_some, Act.put, List.setIfInBounds_toArray, List.set_cons_zero, List.set_cons_succ]))
        (refine wpO_one (by kernel_rfl) (fun K1 hK1 => ?_); simp only [List.getD_cons_zero, List.getD_cons_succ, List.getElem?_toArray, List.getElem?_cons_zero, List.getElem?_cons_succ, Option.getD_some, Act.put, List.setIfInBounds_toArray, List.set_cons_zero, List.set_cons_succ]; rw [if_pos (by rfl)]; go_simp)
        refine HN.out.mono ?_
        rintro e' w2 ⟨rfl, hr2, hb2⟩
        have hbd : But g wr wr.drew := But.of_below (Below.refl _ wr).drew
        have hb2' : But g wr w2 := hbd.trans hb2
        have HD2 := HD.out.but hb2' hr2 hk1g hk0g
        have hS2 : w2.cell? ⟨w1.heap.size, 1, none⟩ = some v := (blk7 HD2.b1).2.1
        refine hK1.out _ _ (fun _ => hS2) ?_
        clear hK1
        (refine wpO_one (by kernel_rfl) (fun K1 hK1 => ?_); simp only [List.getD_cons_zero, List.getD_cons_succ, List.getElem?_toArray, List.getElem?_cons_zero, List.getElem?_cons_succ, Option.getD_some, Act.put, List.setIfInBounds_toArray, List.set_cons_zero, List.set_cons_succ]; rw [if_pos (by rfl)]; go_simp)
        have hbA : Below w2.heap.size w2 (w2.alloc (.cells #[.string x] 9)) := (Below.refl _ _).alloc (Nat.le_refl _) _
        refine hK1.out _ _ (fun _ => cell_keep hbA hS2) ?_
        clear hK1
        (refine wpO_one (by kernel_rfl) (fun K1 hK1 => ?_); simp only [List.getD_cons_zero, List.getD_cons_succ, List.getElem?_toArray, List.getElem?_cons_zero, List.getElem?_cons_succ, Option.getD_some, Act.put, List.setIfInBounds_toArray, List.set_cons_zero, List.set_cons_succ]; rw [if_pos (by rfl)])
        have hwz := hb2'.size
        have hown2 : (w2.alloc (.cells #[.string x] 9)).ownsRow (w1.heap.size + 1) 9 1 v k (xs.flatMap (fun x => [Value.string x])) := (own_but HROW.out hb2' (by omega)).alloc _
        refine wpO_append (.tmp 40) (.tmp 44) 22 rfl (w1.heap.size + 1) 9 iS (.string { data := #[] }) 1 16 Tryz.underlying22 iS0 iS1 iS2 iS3 rfl (by decide) v k _ rfl hown2 ⟨w2.heap.size, 0, none⟩ 1 1 [.string x] rfl rfl ?c1 (fun u hu => by (simp at hu; subst hu; rfl)) (by unfold maxLen; omega) (by omega) (by simp; omega) ?_
        case c1 =>
          intro j u hj
          rw [add0]
          exact row_new w2 [.string x] 9 j u hj
        intro v' w5 hown' hgrow _
        obtain ⟨A5, c5', hv5⟩ := own_isSlice hown'
        subst hv5
        have hlow : ∀ j, j < w1.heap.size + 1 → w5.heap[j]? = w2.heap[j]? := fun j hj => (hgrow.block j (by simp; omega) (own_ne_low hown2 hj)).trans (Below.heap_alloc _ _ _ (by omega))
        have hk5 := (hlow w1.heap.size (by omega)).trans HD2.b1
        have hk05 := (hlow w.heap.size (by omega)).trans HD2.b0
        obtain ⟨c0, c1, c2, c3, c4, c5, c6, c7⟩ := blk7 hk5
        have c71 := c7 1
        have hs5 := hgrow.size
        simp only [World.size_alloc] at hs5
        have hKe : Keeps g w1.heap.size 9 wr w5 := ((Keeps.but hb2').trans (Keeps.alloc _ _)).trans (Keeps.grow hown2 hgrow)
        have hKf : Keeps g w1.heap.size 9 wr (w5.setCell ⟨w1.heap.size, 1, none⟩ (.slice A5 (k + 1) c5')) := hKe.trans (Keeps.put hk5)
        have hk6 : (w5.setCell ⟨w1.heap.size, 1, none⟩ (.slice A5 (k + 1) c5')).heap[w1.heap.size]? = some (.cells #[.string N1.1, .slice A5 (k + 1) c5', .slice none 0 0, .slice none 0 0, .slice none 0 0, .int .i64 0, .slice none 0 0] 28 (0, 0)) := by simp [World.setCell, Array.getElem?_modify, hk5]
        have hk06 := set_far (p := ⟨w1.heap.size, 1, none⟩) (.slice A5 (k + 1) c5') hk05 hne'
        have hown6 := own_put (k := w1.heap.size) (i := 1) (v := .slice A5 (k + 1) c5') hown' (by omega)
        have hr6 := rrl_put (k := w1.heap.size) (i := 1) (v := .slice A5 (k + 1) c5') (HD2.rd.low (by omega) (fun j hj => hlow j (by omega)) : RRl w5 g s') (by omega)
        have hb5 : But g W0 w5 := ⟨hgrow.os.trans HD2.bt.os, hgrow.tape.trans HD2.bt.tape, hgrow.output.trans HD2.bt.output, by have := HD2.bt.size; omega, fun j hj hne => (hlow j (by omega)).trans (HD2.bt.block j hj hne)⟩
        have hb6 := but_put (k := w1.heap.size) (i := 1) (v := .slice A5 (k + 1) c5') hb5 (by omega)
        have hs6 : w1.heap.size + 1 ≤ (w5.setCell ⟨w1.heap.size, 1, none⟩ (.slice A5 (k + 1) c5')).heap.size := by simp; omega
        have HDN := Lib.hid (⟨hk6, hk06, hr6, hb6, hs6⟩ : DI g w.heap.size w1.heap.size W0 (w5.setCell ⟨w1.heap.size, 1, none⟩ (.slice A5 (k + 1) c5')) N1.1 (.slice A5 (k + 1) c5') (.slice none 0 0) (.slice none 0 0) (.slice none 0 0) s')
        have HWN := Lib.hid hown6
        refine hK1.out _ _ (fun _ => c1) ?_
        clear hK1
        have hS := c1
        (iterate 1 (refine wpO_take (v := ?_) (by kernel_rfl) (fun _ _ _ h => h) (Or.inl ⟨by rfl, ?_⟩) hS ?_; rotate_left; (next => (rintro X _; (try simp only [List.getD_cons_zero, List.getD_cons_succ, List.getElem?_toArray, List.getElem?_cons_zero, List.getElem?_cons_succ, Option.getD_some]); go_simp; rfl)); simp only [List.getD_cons_zero, List.getD_cons_succ, List.getElem?_toArray, List.getElem?_cons_zero, List.getElem?_cons_succ, Option.getD_some, Act.put, List.setIfInBounds_toArray, List.set_cons_zero, List.set_cons_succ]))
        (refine wpO_one (by kernel_rfl) (fun K1 hK1 => ?_); simp only [List.getD_cons_zero, List.getD_cons_succ, List.getElem?_toArray, List.getElem?_cons_zero, List.getElem?_cons_succ, Option.getD_some, Act.put, List.setIfInBounds_toArray, List.set_cons_zero, List.set_cons_succ]; rw [if_pos (by rfl)]; go_simp)
        refine hK1.out _ _ (fun h => absurd h (by decide)) ?_
        refine wpO_done (by kernel_rfl) ?_
        clear hK1 hS hS2 hbA
        generalize hW6 : w5.setCell ⟨w1.heap.size, 1, none⟩ (.slice A5 (k + 1) c5') = W6 at *
        clear hKe hKf hk6 hk06 hown6 hr6 hb5 hb6 hs6 hlow hk5 hk05 hgrow hown' hown2
        go_wp2_with fail
        skip
        go_roundw
        case rel =>
          exact ⟨k + 1, s', xs ++ [x], .slice A5 (k + 1) c5', by go_num, by omega, by simp [hxl], HDN, Lib.hid (by have h := HWN.out; rw [List.flatMap_append, List.flatMap_singleton]; exact h), Lib.hid (HAT.out.next hlt HSE.out HZ.out)⟩
        case measure => simp [intOf]; omega
      · have hfin := HAT.out.done hkn hgo
        have HFIN := Lib.hid (⟨v, by rw [hfin.1]; exact HD.out, by obtain ⟨A5, c5', hv5⟩ := own_isSlice HROW.out; exact ⟨A5, c5', k, xs, hv5, hxl, HROW.out, hfin.2⟩⟩ : ∃ v, DI g w.heap.size w1.heap.size W0 wr N1.1 v (.slice none 0 0) (.slice none 0 0) (.slice none 0 0) R1.2 ∧ RowS w1.heap.size wr v R1)
        have hor : ¬ k < n1 ∨ sk.err ≠ 0 := by
          rcases Nat.lt_or_ge k n1 with h | h
          · right; exact fun h2 => hgo ⟨h, h2⟩
          · left; omega
        clear hfin hgo
        rcases hor with hx | hx
        · have hx' : ¬ (k : Int) < (n1 : Int) := by omega
          go_wp2_with fail
          all_goals (go_meet; exact HFIN.out)
        · have e1 : (sk.err == 0) = false := beq_false_of_ne hx
          generalize sk.err = er at *
          go_wp2_with fail
          all_goals (go_meet; exact HFIN.out)
  case rest =>
  obtain ⟨v1, hd, hrow1⟩ := hcut
  obtain ⟨X1, hXc⟩ : ∃ X : World, X = wc := ⟨_, rfl⟩
  subst hXc
  have HDX1 := Lib.hid hd
  have HROW11 := Lib.hid hrow1
  clear hd hrow1 HDY1 HST1
  go_wp2_with fail
  go_at_call 53
  refine (rlcount g R1.2 X1 HDX1.out.rd).mono ?_
  rintro e' Y2 ⟨rfl, hr, hb⟩
  have HST2 := Lib.hid (At16.start HL2.out (n := (countS 65535 R1.2).1) (s0 := (countS 65535 R1.2).2) rfl)
  have hnl2 := count_le 65535 R1.2
  generalize countS 65535 R1.2 = K at *
  obtain ⟨n2, s2⟩ := K
  simp only at HST2 hnl2 hr
  have HDY2 := Lib.hid (HDX1.out.but hb hr hk1g hk0g)
  have HRY21 := Lib.hid (HROW11.out.keep (e := 148) (by omega) (Keeps.but hb) (by decide))
  clear hr hb
  go_upto_block 2 with fail
  go_cut [10] (fun sX wx => ∃ v, DI g w.heap.size w1.heap.size W0 wx N1.1 v1 v (.slice none 0 0) (.slice none 0 0) R2.2 ∧ RowP w1.heap.size wx v R2 ∧ RowS w1.heap.size wx v1 R1)
  case first =>
    go_wp2_with fail
    go_loopw [10] (fun i wr => ∃ (k : Nat) (sk : Rs) (xs : List (Int × Int)) (v : Value), i = .int .i64 k ∧ k ≤ n2 ∧ xs.length = k ∧ Hid (DI g w.heap.size w1.heap.size W0 wr N1.1 v1 v (.slice none 0 0) (.slice none 0 0) sk) ∧ Hid (wr.ownsRow (w1.heap.size + 1) 79 2 v k (xs.flatMap (fun x => [Value.int .i64 x.1, .int .i64 x.2]))) ∧ Hid (At16 pairS R2 n2 k sk xs) ∧ Hid (RowS w1.heap.size wr v1 R1)) (fun i _ => n2 - (intOf i).toNat)
    case atStart => exact ⟨0, s2, [], .slice none 0 0, rfl, by omega, rfl, HDY2, Lib.hid (World.ownsRow_nil _ _ _ _), HST2, HRY21⟩
    case round =>
      obtain ⟨k, sk, xs, v, rfl, hkn, hxl, HD, HROW, HAT, HP1⟩ := hrel
      have hsk := HD.out.rd.err
      have hsz := HD.out.sz
      have hWs := HD.out.bt.size
      by_cases hgo : k < n2 ∧ sk.err = 0
      · obtain ⟨hlt, hse⟩ := hgo
        rw [hse] at hsk
        have HSE := Lib.hid hse
        clear hse
        obtain ⟨a0, a1, a2, a3, a4, a5, a6, a7⟩ := blk7 HD.out.b1
        have a72 := a7 2
        clear a7
        have HN := Lib.hid (rlnum g sk wr HD.out.rd)
        have HZ : Hid (pairS sk = (((numS sk).1, (numS (numS sk).2).1), (numS (numS sk).2).2)) := Lib.hid rfl
        have HN2 := Lib.hid (fun wa (h : RRl wa g (numS sk).2) => rlnum g (numS sk).2 wa h)
        generalize (numS (numS sk).2).1 = xb at *
        generalize (numS (numS sk).2).2 = s' at *
        generalize numS sk = Z1 at *
        obtain ⟨xa, sa⟩ := Z1
        (try simp only at HN)
        (try simp only at HN2)
        (try simp only at HZ)
        go_wp2_with fail
        go_at_call 54
        refine HN.out.mono ?_
        rintro e' w2a ⟨rfl, hr2a, hb2a⟩
        have HR2a := Lib.hid hr2a
        have HB2a := Lib.hid hb2a
        clear hr2a hb2a HN
        go_wp2_with fail
        go_at_call 54
        refine (HN2.out w2a HR2a.out).mono ?_
        rintro e' w2 ⟨rfl, hr2, hb2⟩
        have hb2' : But g wr w2 := HB2a.out.trans hb2
        have HD2 := HD.out.but hb2' hr2 hk1g hk0g
        have hwz := hb2'.size
        have HB2 := Lib.hid hb2'
        have HD2H := Lib.hid HD2
        have hown2 : (w2.alloc (.cells #[.int .i64 xa, .int .i64 xb] 79)).ownsRow (w1.heap.size + 1) 79 2 v k (xs.flatMap (fun x => [Value.int .i64 x.1, .int .i64 x.2])) := (own_but HROW.out hb2' (by omega)).alloc _
        obtain ⟨b0, b1, b2, b3, b4, b5, b6, b7⟩ := blk7 HD2.b1
        have b72 := b7 2
        obtain ⟨Av, cv, hv⟩ := own_isSlice HROW.out
        have HVV := Lib.hid hv
        clear b7 hr2 hb2 hb2' HD2 HN2 a0 a1 a2 a3 a4 a5 a6 a72 hv
        go_wp2_with (at_builtin; refine wpList_append_own _ rfl _ _ 23 rfl (w1.heap.size + 1) 79 iP (.agg #[.int .i64 0, .int .i64 0]) 2 16 Tryz.underlying23 iP0 iP1 iP2 iP3 rfl (by decide) _ _ _ rfl hown2 ⟨w2.heap.size, 0, none⟩ 1 1 [.int .i64 xa, .int .i64 xb] rfl rfl ?d2 ?e2 ?f2 ?g2 ?h2 ?_)
        case d2 =>
          intro j u hj
          rw [add0]
          exact row_new w2 [.int .i64 xa, .int .i64 xb] 79 j u hj
        case e2 => intro u hu; (simp at hu; rcases hu with rfl | rfl <;> rfl)
        case f2 => unfold maxLen; omega
        case g2 => omega
        case h2 => simp; omega
        intro v' w5 hown' hgrow _
        obtain ⟨A5, c5', hv5⟩ := own_isSlice hown'
        subst hv5
        have hb2' := HB2.out
        have HD2 := HD2H.out
        have hlow : ∀ j, j < w1.heap.size + 1 → w5.heap[j]? = w2.heap[j]? := fun j hj => (hgrow.block j (by simp; omega) (own_ne_low hown2 hj)).trans (Below.heap_alloc _ _ _ (by omega))
        have hk5 := (hlow w1.heap.size (by omega)).trans HD2.b1
        have hk05 := (hlow w.heap.size (by omega)).trans HD2.b0
        obtain ⟨c0, c1, c2, c3, c4, c5, c6, c7⟩ := blk7 hk5
        have c72 := c7 2
        have hs5 := hgrow.size
        simp only [World.size_alloc] at hs5
        have hKe : Keeps g w1.heap.size 79 wr w5 := ((Keeps.but hb2').trans (Keeps.alloc _ _)).trans (Keeps.grow hown2 hgrow)
        have hKf : Keeps g w1.heap.size 79 wr (w5.setCell ⟨w1.heap.size, 2, none⟩ (.slice A5 (k + 1) c5')) := hKe.trans (Keeps.put hk5)
        have hk6 : (w5.setCell ⟨w1.heap.size, 2, none⟩ (.slice A5 (k + 1) c5')).heap[w1.heap.size]? = some (.cells #[.string N1.1, v1, .slice A5 (k + 1) c5', .slice none 0 0, .slice none 0 0, .int .i64 0, .slice none 0 0] 28 (0, 0)) := by simp [World.setCell, Array.getElem?_modify, hk5]
        have hk06 := set_far (p := ⟨w1.heap.size, 2, none⟩) (.slice A5 (k + 1) c5') hk05 hne'
        have hown6 := own_put (k := w1.heap.size) (i := 2) (v := .slice A5 (k + 1) c5') hown' (by omega)
        have hr6 := rrl_put (k := w1.heap.size) (i := 2) (v := .slice A5 (k + 1) c5') (HD2.rd.low (by omega) (fun j hj => hlow j (by omega)) : RRl w5 g s') (by omega)
        have hb5 : But g W0 w5 := ⟨hgrow.os.trans HD2.bt.os, hgrow.tape.trans HD2.bt.tape, hgrow.output.trans HD2.bt.output, by have := HD2.bt.size; omega, fun j hj hne => (hlow j (by omega)).trans (HD2.bt.block j hj hne)⟩
        have hb6 := but_put (k := w1.heap.size) (i := 2) (v := .slice A5 (k + 1) c5') hb5 (by omega)
        have hs6 : w1.heap.size + 1 ≤ (w5.setCell ⟨w1.heap.size, 2, none⟩ (.slice A5 (k + 1) c5')).heap.size := by simp; omega
        have HDN := Lib.hid (⟨hk6, hk06, hr6, hb6, hs6⟩ : DI g w.heap.size w1.heap.size W0 (w5.setCell ⟨w1.heap.size, 2, none⟩ (.slice A5 (k + 1) c5')) N1.1 v1 (.slice A5 (k + 1) c5') (.slice none 0 0) (.slice none 0 0) s')
        have HWN := Lib.hid hown6
        have HPN1 := Lib.hid (HP1.out.keep (by omega) hKf (by decide))
        generalize hW6 : w5.setCell ⟨w1.heap.size, 2, none⟩ (.slice A5 (k + 1) c5') = W6 at *
        clear hKe hKf hk6 hk06 hown6 hr6 hb5 hb6 hs6 hlow hk5 hk05 hgrow hown' hown2
        go_wp2_with fail
        try rw [hW6]
        go_roundw
        case rel =>
          exact ⟨k + 1, s', xs ++ [(xa, xb)], .slice A5 (k + 1) c5', by go_num, by omega, by simp [hxl], HDN, Lib.hid (by have h := HWN.out; rw [List.flatMap_append, List.flatMap_singleton]; exact h), Lib.hid (HAT.out.next hlt HSE.out HZ.out), HPN1⟩
        case measure => simp [intOf]; omega
      · have hfin := HAT.out.done hkn hgo
        have HFIN := Lib.hid (⟨v, by rw [hfin.1]; exact HD.out, by obtain ⟨A5, c5', hv5⟩ := own_isSlice HROW.out; exact ⟨A5, c5', k, xs, hv5, hxl, HROW.out, hfin.2⟩, HP1.out⟩ : ∃ v, DI g w.heap.size w1.heap.size W0 wr N1.1 v1 v (.slice none 0 0) (.slice none 0 0) R2.2 ∧ RowP w1.heap.size wr v R2 ∧ RowS w1.heap.size wr v1 R1)
        have hor : ¬ k < n2 ∨ sk.err ≠ 0 := by
          rcases Nat.lt_or_ge k n2 with h | h
          · right; exact fun h2 => hgo ⟨h, h2⟩
          · left; omega
        clear hfin hgo
        rcases hor with hx | hx
        · have hx' : ¬ (k : Int) < (n2 : Int) := by omega
          go_wp2_with fail
          all_goals (go_meet; exact HFIN.out)
        · have e1 : (sk.err == 0) = false := beq_false_of_ne hx
          generalize sk.err = er at *
          go_wp2_with fail
          all_goals (go_meet; exact HFIN.out)
  case rest =>
  obtain ⟨v2, hd, hrow2, hp1⟩ := hcut
  obtain ⟨X2, hXc⟩ : ∃ X : World, X = wc := ⟨_, rfl⟩
  subst hXc
  have HDX2 := Lib.hid hd
  have HROW22 := Lib.hid hrow2
  have HROW21 := Lib.hid hp1
  clear hd hrow2 hp1 HRY21 HDY2 HST2
  go_wp2_with fail
  go_at_call 53
  refine (rlcount g R2.2 X2 HDX2.out.rd).mono ?_
  rintro e' Y3 ⟨rfl, hr, hb⟩
  have HST3 := Lib.hid (At16.start HL3.out (n := (countS 65535 R2.2).1) (s0 := (countS 65535 R2.2).2) rfl)
  have hnl3 := count_le 65535 R2.2
  generalize countS 65535 R2.2 = K at *
  obtain ⟨n3, s3⟩ := K
  simp only at HST3 hnl3 hr
  have HDY3 := Lib.hid (HDX2.out.but hb hr hk1g hk0g)
  have HRY31 := Lib.hid (HROW21.out.keep (e := 148) (by omega) (Keeps.but hb) (by decide))
  have HRY32 := Lib.hid (HROW22.out.keep (e := 148) (by omega) (Keeps.but hb) (by decide))
  clear hr hb
  go_upto_block 4 with fail
  go_cut [13] (fun sX wx => ∃ v, DI g w.heap.size w1.heap.size W0 wx N1.1 v1 v2 v (.slice none 0 0) R3.2 ∧ RowT g w1.heap.size wx v R3 ∧ RowS w1.heap.size wx v1 R1 ∧ RowP w1.heap.size wx v2 R2)
  case first =>
    go_wp2_with fail
    go_loopw [13] (fun i wr => ∃ (k : Nat) (sk : Rs) (xs : List Ty) (v : Value), i = .int .i64 k ∧ k ≤ n3 ∧ xs.length = k ∧ Hid (DI g w.heap.size w1.heap.size W0 wr N1.1 v1 v2 v (.slice none 0 0) sk) ∧ Hid (∃ ys : List TH, ys.length = k ∧ ys.map (·.t) = xs ∧ wr.ownsRow (w1.heap.size + 1) 83 5 v k (ys.flatMap cellsH) ∧ (sk.err = 0 → ∀ y ∈ ys, FldAt g wr y)) ∧ Hid (At16 typeS R3 n3 k sk xs) ∧ Hid (RowS w1.heap.size wr v1 R1) ∧ Hid (RowP w1.heap.size wr v2 R2)) (fun i _ => n3 - (intOf i).toNat)
    case atStart => exact ⟨0, s3, [], .slice none 0 0, rfl, by omega, rfl, HDY3, Lib.hid (⟨[], rfl, rfl, World.ownsRow_nil _ _ _ _, by simp⟩), HST3, HRY31, HRY32⟩
    case round =>
      obtain ⟨k, sk, xs, v, rfl, hkn, hxl, HD, HROW, HAT, HP1, HP2⟩ := hrel
      have hsk := HD.out.rd.err
      have hsz := HD.out.sz
      have hWs := HD.out.bt.size
      by_cases hgo : k < n3 ∧ sk.err = 0
      · obtain ⟨hlt, hse⟩ := hgo
        rw [hse] at hsk
        have HSE := Lib.hid hse
        clear hse
        obtain ⟨a0, a1, a2, a3, a4, a5, a6, a7⟩ := blk7 HD.out.b1
        have a73 := a7 3
        clear a7
        have HN := Lib.hid (rtypes_any g sk wr.drew (HD.out.rd.keep (Below.refl _ wr).drew))
        obtain ⟨Z, hZ⟩ : ∃ Z, typeS sk = Z := ⟨_, rfl⟩
        rw [hZ] at HN
        obtain ⟨x, s'⟩ := Z
        have HZ := Lib.hid hZ
        clear hZ
        (try simp only at HN)
        go_wp2_with fail
        refine wp_region_ot (S := fun X => X.cell? ⟨w1.heap.size, 3, none⟩ = some v) 7 [0, 1, 2, 3, 4, 5, 6, 7] (by kernel_rfl) ?_
        have hS : wr.drew.cell? ⟨w1.heap.size, 3, none⟩ = some v := a3
        (iterate 3 (refine wpO_take (v := ?_) (by kernel_rfl) (fun _ _ _ h => h) (Or.inl ⟨by rfl, ?_⟩) hS ?_; rotate_left; (next => (rintro X r1; (try simp only [List.getD_cons_zero, List.getD_cons_succ, List.getElem?_toArray, List.getElem?_cons_zero, List.getElem?_cons_succ, Option.getD_some]); go_simp; rfl)); simp only [List.getD_cons_zero, List.getD_cons_succ, List.getElem?_toArray, List.getElem?_cons_zero, List.getElem?_cons_succ, Option.getD_some, Act.put, List.setIfInBounds_toArray, List.set_cons_zero, List.set_cons_succ]))
        (refine wpO_one (by kernel_rfl) (fun K1 hK1 => ?_); simp only [List.getD_cons_zero, List.getD_cons_succ, List.getElem?_toArray, List.getElem?_cons_zero, List.getElem?_cons_succ, Option.getD_some, Act.put, List.setIfInBounds_toArray, List.set_cons_zero, List.set_cons_succ]; rw [if_pos (by rfl)]; go_simp)
        refine HN.out.mono ?_
        rintro e' w2 ⟨y, rfl, hr2, hb2, hy2⟩
        have hbd : But g wr wr.drew := But.of_below (Below.refl _ wr).drew
        have hb2' : But g wr w2 := hbd.trans hb2
        have HD2 := HD.out.but hb2' hr2 hk1g hk0g
        have hS2 : w2.cell? ⟨w1.heap.size, 3, none⟩ = some v := (blk7 HD2.b1).2.2.2.1
        refine hK1.out _ _ (fun _ => hS2) ?_
        clear hK1
        (refine wpO_one (by kernel_rfl) (fun K1 hK1 => ?_); simp only [List.getD_cons_zero, List.getD_cons_succ, List.getElem?_toArray, List.getElem?_cons_zero, List.getElem?_cons_succ, Option.getD_some, Act.put, List.setIfInBounds_toArray, List.set_cons_zero, List.set_cons_succ]; rw [if_pos (by rfl)]; go_simp)
        have hbA : Below w2.heap.size w2 (w2.alloc (.cells #[.int .i64 y.t.kind, .bool y.t.mu, .int .i64 y.t.reg, .int .i64 y.t.elem, .slice y.A y.t.flds.length y.c] 83)) := (Below.refl _ _).alloc (Nat.le_refl _) _
        refine hK1.out _ _ (fun _ => cell_keep hbA hS2) ?_
        clear hK1
        (refine wpO_one (by kernel_rfl) (fun K1 hK1 => ?_); simp only [List.getD_cons_zero, List.getD_cons_succ, List.getElem?_toArray, List.getElem?_cons_zero, List.getElem?_cons_succ, Option.getD_some, Act.put, List.setIfInBounds_toArray, List.set_cons_zero, List.set_cons_succ]; rw [if_pos (by rfl)])
        have hwz := hb2'.size
        obtain ⟨ys, hyl, hyx, hown1, hyf⟩ := HROW.out
        have hown2 : (w2.alloc (.cells #[.int .i64 y.t.kind, .bool y.t.mu, .int .i64 y.t.reg, .int .i64 y.t.elem, .slice y.A y.t.flds.length y.c] 83)).ownsRow (w1.heap.size + 1) 83 5 v k (ys.flatMap cellsH) := (own_but hown1 hb2' (by omega)).alloc _
        refine wpO_append (.tmp 88) (.tmp 91) 24 rfl (w1.heap.size + 1) 83 iT (.agg #[.int .i64 0, .bool false, .int .i64 0, .int .i64 0, .slice none 0 0]) 5 56 Tryz.underlying24 iT0 iT1 iT2 iT3 rfl (by decide) v k _ rfl hown2 ⟨w2.heap.size, 0, none⟩ 1 1 [.int .i64 y.t.kind, .bool y.t.mu, .int .i64 y.t.reg, .int .i64 y.t.elem, .slice y.A y.t.flds.length y.c] rfl rfl ?c3 (fun u hu => by (simp at hu; rcases hu with rfl | rfl | rfl | rfl | rfl <;> rfl)) (by unfold maxLen; omega) (by omega) (by simp; omega) ?_
        case c3 =>
          intro j u hj
          rw [add0]
          exact row_new w2 [.int .i64 y.t.kind, .bool y.t.mu, .int .i64 y.t.reg, .int .i64 y.t.elem, .slice y.A y.t.flds.length y.c] 83 j u hj
        intro v' w5 hown' hgrow _
        obtain ⟨A5, c5', hv5⟩ := own_isSlice hown'
        subst hv5
        have hlow : ∀ j, j < w1.heap.size + 1 → w5.heap[j]? = w2.heap[j]? := fun j hj => (hgrow.block j (by simp; omega) (own_ne_low hown2 hj)).trans (Below.heap_alloc _ _ _ (by omega))
        have hk5 := (hlow w1.heap.size (by omega)).trans HD2.b1
        have hk05 := (hlow w.heap.size (by omega)).trans HD2.b0
        obtain ⟨c0, c1, c2, c3, c4, c5, c6, c7⟩ := blk7 hk5
        have c73 := c7 3
        have hs5 := hgrow.size
        simp only [World.size_alloc] at hs5
        have hKe : Keeps g w1.heap.size 83 wr w5 := ((Keeps.but hb2').trans (Keeps.alloc _ _)).trans (Keeps.grow hown2 hgrow)
        have hKf : Keeps g w1.heap.size 83 wr (w5.setCell ⟨w1.heap.size, 3, none⟩ (.slice A5 (k + 1) c5')) := hKe.trans (Keeps.put hk5)
        have hk6 : (w5.setCell ⟨w1.heap.size, 3, none⟩ (.slice A5 (k + 1) c5')).heap[w1.heap.size]? = some (.cells #[.string N1.1, v1, v2, .slice A5 (k + 1) c5', .slice none 0 0, .int .i64 0, .slice none 0 0] 28 (0, 0)) := by simp [World.setCell, Array.getElem?_modify, hk5]
        have hk06 := set_far (p := ⟨w1.heap.size, 3, none⟩) (.slice A5 (k + 1) c5') hk05 hne'
        have hown6 := own_put (k := w1.heap.size) (i := 3) (v := .slice A5 (k + 1) c5') hown' (by omega)
        have hr6 := rrl_put (k := w1.heap.size) (i := 3) (v := .slice A5 (k + 1) c5') (HD2.rd.low (by omega) (fun j hj => hlow j (by omega)) : RRl w5 g s') (by omega)
        have hb5 : But g W0 w5 := ⟨hgrow.os.trans HD2.bt.os, hgrow.tape.trans HD2.bt.tape, hgrow.output.trans HD2.bt.output, by have := HD2.bt.size; omega, fun j hj hne => (hlow j (by omega)).trans (HD2.bt.block j hj hne)⟩
        have hb6 := but_put (k := w1.heap.size) (i := 3) (v := .slice A5 (k + 1) c5') hb5 (by omega)
        have hs6 : w1.heap.size + 1 ≤ (w5.setCell ⟨w1.heap.size, 3, none⟩ (.slice A5 (k + 1) c5')).heap.size := by simp; omega
        have HDN := Lib.hid (⟨hk6, hk06, hr6, hb6, hs6⟩ : DI g w.heap.size w1.heap.size W0 (w5.setCell ⟨w1.heap.size, 3, none⟩ (.slice A5 (k + 1) c5')) N1.1 v1 v2 (.slice A5 (k + 1) c5') (.slice none 0 0) s')
        have HWN := Lib.hid hown6
        have hyl2 : (ys ++ [y]).length = k + 1 := by simp [hyl]
        have HFN : Hid (s'.err = 0 → y.t = x ∧ ∀ z ∈ ys ++ [y], FldAt g (w5.setCell ⟨w1.heap.size, 3, none⟩ (.slice A5 (k + 1) c5')) z) := Lib.hid (fun h0 => ⟨(hy2 h0).1, fun z hz => by
          rcases List.mem_append.1 hz with h1 | h1
          · exact (hyf HSE.out z h1).keep hKf (by decide)
          · rw [List.mem_singleton] at h1
            rw [h1]
            have h3 : FldAt g w2 y := own_mono (hy2 h0).2 (by show g + 1 ≤ wr.heap.size; omega)
            exact ((h3.keep (Keeps.alloc (e := 83) (k1 := w1.heap.size) _ (.cells #[.int .i64 y.t.kind, .bool y.t.mu, .int .i64 y.t.reg, .int .i64 y.t.elem, .slice y.A y.t.flds.length y.c] 83)) (by decide)).keep (Keeps.grow (k1 := w1.heap.size) hown2 hgrow) (by decide)).keep (Keeps.put (e := 83) hk5) (by decide)⟩)
        have HYX := Lib.hid hyx
        have HHY := Lib.hid hy2
        have HPN1 := Lib.hid (HP1.out.keep (by omega) hKf (by decide))
        have HPN2 := Lib.hid (HP2.out.keep (by omega) hKf (by decide))
        refine hK1.out _ _ (fun _ => c3) ?_
        clear hK1
        have hS := c3
        (iterate 1 (refine wpO_take (v := ?_) (by kernel_rfl) (fun _ _ _ h => h) (Or.inl ⟨by rfl, ?_⟩) hS ?_; rotate_left; (next => (rintro X _; (try simp only [List.getD_cons_zero, List.getD_cons_succ, List.getElem?_toArray, List.getElem?_cons_zero, List.getElem?_cons_succ, Option.getD_some]); go_simp; rfl)); simp only [List.getD_cons_zero, List.getD_cons_succ, List.getElem?_toArray, List.getElem?_cons_zero, List.getElem?_cons_succ, Option.getD_some, Act.put, List.setIfInBounds_toArray, List.set_cons_zero, List.set_cons_succ]))
        (refine wpO_one (by kernel_rfl) (fun K1 hK1 => ?_); simp only [List.getD_cons_zero, List.getD_cons_succ, List.getElem?_toArray, List.getElem?_cons_zero, List.getElem?_cons_succ, Option.getD_some, Act.put, List.setIfInBounds_toArray, List.set_cons_zero, List.set_cons_succ]; rw [if_pos (by rfl)]; go_simp)
        refine hK1.out _ _ (fun h => absurd h (by decide)) ?_
        refine wpO_done (by kernel_rfl) ?_
        clear hK1 hS hS2 hbA
        generalize hW6 : w5.setCell ⟨w1.heap.size, 3, none⟩ (.slice A5 (k + 1) c5') = W6 at *
        clear hKe hKf hk6 hk06 hown6 hr6 hb5 hb6 hs6 hlow hk5 hk05 hgrow hown' hown2
        go_wp2_with fail
        skip
        go_roundw
        case rel =>
          by_cases h0 : s'.err = 0
          · exact ⟨k + 1, s', xs ++ [x], .slice A5 (k + 1) c5', by go_num, by omega, by simp [hxl], HDN, Lib.hid ⟨ys ++ [y], hyl2, by rw [List.map_append, HYX.out, List.map_singleton, (HFN.out h0).1], by have h := HWN.out; rw [List.flatMap_append, List.flatMap_singleton]; exact h, fun h0 => (HFN.out h0).2⟩, Lib.hid (HAT.out.next hlt HSE.out HZ.out), HPN1, HPN2⟩
          · exact ⟨k + 1, s', xs ++ [y.t], .slice A5 (k + 1) c5', by go_num, by omega, by simp [hxl], HDN, Lib.hid ⟨ys ++ [y], hyl2, by rw [List.map_append, HYX.out]; rfl, by have h := HWN.out; rw [List.flatMap_append, List.flatMap_singleton]; exact h, fun h0 => (HFN.out h0).2⟩, Lib.hid ⟨fun h => absurd h h0, (HAT.out.next hlt HSE.out HZ.out).bad⟩, HPN1, HPN2⟩
        case measure => simp [intOf]; omega
      · have hfin := HAT.out.done hkn hgo
        have HFIN := Lib.hid (⟨v, by rw [hfin.1]; exact HD.out, by obtain ⟨ys, hyl, hyx, hown1, hyf⟩ := HROW.out; obtain ⟨A5, c5', hv5⟩ := own_isSlice hown1; exact ⟨A5, c5', k, ys, hv5, hyl, hown1, fun h0 => ⟨(hfin.2 h0).trans hyx.symm, hyf (hfin.1 ▸ h0)⟩⟩, HP1.out, HP2.out⟩ : ∃ v, DI g w.heap.size w1.heap.size W0 wr N1.1 v1 v2 v (.slice none 0 0) R3.2 ∧ RowT g w1.heap.size wr v R3 ∧ RowS w1.heap.size wr v1 R1 ∧ RowP w1.heap.size wr v2 R2)
        have hor : ¬ k < n3 ∨ sk.err ≠ 0 := by
          rcases Nat.lt_or_ge k n3 with h | h
          · right; exact fun h2 => hgo ⟨h, h2⟩
          · left; omega
        clear hfin hgo
        rcases hor with hx | hx
        · have hx' : ¬ (k : Int) < (n3 : Int) := by omega
          go_wp2_with fail
          all_goals (go_meet; exact HFIN.out)
        · have e1 : (sk.err == 0) = false := beq_false_of_ne hx
          generalize sk.err = er at *
          go_wp2_with fail
          all_goals (go_meet; exact HFIN.out)
  case rest =>
  obtain ⟨v3, hd, hrow3, hp1, hp2⟩ := hcut
  obtain ⟨X3, hXc⟩ : ∃ X : World, X = wc := ⟨_, rfl⟩
  subst hXc
  have HDX3 := Lib.hid hd
  have HROW33 := Lib.hid hrow3
  have HROW31 := Lib.hid hp1
  have HROW32 := Lib.hid hp2
  clear hd hrow3 hp1 hp2 HRY31 HRY32 HDY3 HST3
  go_wp2_with fail
  go_at_call 53
  refine (rlcount g R3.2 X3 HDX3.out.rd).mono ?_
  rintro e' Y4 ⟨rfl, hr, hb⟩
  have HST4 := Lib.hid (At16.start HL4.out (n := (countS 65535 R3.2).1) (s0 := (countS 65535 R3.2).2) rfl)
  have hnl4 := count_le 65535 R3.2
  generalize countS 65535 R3.2 = K at *
  obtain ⟨n4, s4⟩ := K
  simp only at HST4 hnl4 hr
  have HDY4 := Lib.hid (HDX3.out.but hb hr hk1g hk0g)
  have HRY41 := Lib.hid (HROW31.out.keep (e := 148) (by omega) (Keeps.but hb) (by decide))
  have HRY42 := Lib.hid (HROW32.out.keep (e := 148) (by omega) (Keeps.but hb) (by decide))
  have HRY43 := Lib.hid (HROW33.out.keep (e := 148) (by omega) (Keeps.but hb) (by decide) (by decide))
  clear hr hb
  go_upto_block 6 with fail
  go_cut [14] (fun sX wx => ∃ v, DI g w.heap.size w1.heap.size W0 wx N1.1 v1 v2 v3 v R4.2 ∧ RowL w1.heap.size wx v R4 ∧ RowS w1.heap.size wx v1 R1 ∧ RowP w1.heap.size wx v2 R2 ∧ RowT g w1.heap.size wx v3 R3)
  case first =>
    go_wp2_with fail
    go_loopw [14] (fun i wr => ∃ (k : Nat) (sk : Rs) (xs : List Lc) (v : Value), i = .int .i64 k ∧ k ≤ n4 ∧ xs.length = k ∧ Hid (DI g w.heap.size w1.heap.size W0 wr N1.1 v1 v2 v3 v sk) ∧ Hid (wr.ownsRow (w1.heap.size + 1) 87 2 v k (xs.flatMap (fun x => [Value.string x.name, .int .i64 x.type]))) ∧ Hid (At16 (localS tbl) R4 n4 k sk xs) ∧ Hid (RowS w1.heap.size wr v1 R1) ∧ Hid (RowP w1.heap.size wr v2 R2) ∧ Hid (RowT g w1.heap.size wr v3 R3)) (fun i _ => n4 - (intOf i).toNat)
    case atStart => exact ⟨0, s4, [], .slice none 0 0, rfl, by omega, rfl, HDY4, Lib.hid (World.ownsRow_nil _ _ _ _), HST4, HRY41, HRY42, HRY43⟩
    case round =>
      obtain ⟨k, sk, xs, v, rfl, hkn, hxl, HD, HROW, HAT, HP1, HP2, HP3⟩ := hrel
      have hsk := HD.out.rd.err
      have hsz := HD.out.sz
      have hWs := HD.out.bt.size
      by_cases hgo : k < n4 ∧ sk.err = 0
      · obtain ⟨hlt, hse⟩ := hgo
        rw [hse] at hsk
        have HSE := Lib.hid hse
        clear hse
        obtain ⟨a0, a1, a2, a3, a4, a5, a6, a7⟩ := blk7 HD.out.b1
        have a74 := a7 4
        clear a7
        have HN := Lib.hid (rlname g sk tbl T ct wr HD.out.rd (HTAB.out _ HD.out.bt) HTNE.out)
        have HZ : Hid ((localS tbl) sk = (⟨(nameS tbl sk).1, (numS (nameS tbl sk).2).1⟩, (numS (nameS tbl sk).2).2)) := Lib.hid rfl
        have HN2 := Lib.hid (fun wa (h : RRl wa g (nameS tbl sk).2) => rlnum g (nameS tbl sk).2 wa h)
        generalize (numS (nameS tbl sk).2).1 = xb at *
        generalize (numS (nameS tbl sk).2).2 = s' at *
        generalize nameS tbl sk = Z1 at *
        obtain ⟨xa, sa⟩ := Z1
        (try simp only at HN)
        (try simp only at HN2)
        (try simp only at HZ)
        go_wp2_with fail
        go_at_call 52
        refine HN.out.mono ?_
        rintro e' w2a ⟨rfl, hr2a, hb2a⟩
        have HR2a := Lib.hid hr2a
        have HB2a := Lib.hid hb2a
        clear hr2a hb2a HN
        go_wp2_with fail
        go_at_call 54
        refine (HN2.out w2a HR2a.out).mono ?_
        rintro e' w2 ⟨rfl, hr2, hb2⟩
        have hb2' : But g wr w2 := HB2a.out.trans hb2
        have HD2 := HD.out.but hb2' hr2 hk1g hk0g
        have hwz := hb2'.size
        have HB2 := Lib.hid hb2'
        have HD2H := Lib.hid HD2
        have hown2 : (w2.alloc (.cells #[.string xa, .int .i64 xb] 87)).ownsRow (w1.heap.size + 1) 87 2 v k (xs.flatMap (fun x => [Value.string x.name, .int .i64 x.type])) := (own_but HROW.out hb2' (by omega)).alloc _
        obtain ⟨b0, b1, b2, b3, b4, b5, b6, b7⟩ := blk7 HD2.b1
        have b74 := b7 4
        obtain ⟨Av, cv, hv⟩ := own_isSlice HROW.out
        have HVV := Lib.hid hv
        clear b7 hr2 hb2 hb2' HD2 HN2 a0 a1 a2 a3 a4 a5 a6 a74 hv
        go_wp2_with (at_builtin; refine wpList_append_own _ rfl _ _ 25 rfl (w1.heap.size + 1) 87 iL (.agg #[.string { data := #[] }, .int .i64 0]) 2 24 Tryz.underlying25 iL0 iL1 iL2 iL3 rfl (by decide) _ _ _ rfl hown2 ⟨w2.heap.size, 0, none⟩ 1 1 [.string xa, .int .i64 xb] rfl rfl ?d4 ?e4 ?f4 ?g4 ?h4 ?_)
        case d4 =>
          intro j u hj
          rw [add0]
          exact row_new w2 [.string xa, .int .i64 xb] 87 j u hj
        case e4 => intro u hu; (simp at hu; rcases hu with rfl | rfl <;> rfl)
        case f4 => unfold maxLen; omega
        case g4 => omega
        case h4 => simp; omega
        intro v' w5 hown' hgrow _
        obtain ⟨A5, c5', hv5⟩ := own_isSlice hown'
        subst hv5
        have hb2' := HB2.out
        have HD2 := HD2H.out
        have hlow : ∀ j, j < w1.heap.size + 1 → w5.heap[j]? = w2.heap[j]? := fun j hj => (hgrow.block j (by simp; omega) (own_ne_low hown2 hj)).trans (Below.heap_alloc _ _ _ (by omega))
        have hk5 := (hlow w1.heap.size (by omega)).trans HD2.b1
        have hk05 := (hlow w.heap.size (by omega)).trans HD2.b0
        obtain ⟨c0, c1, c2, c3, c4, c5, c6, c7⟩ := blk7 hk5
        have c74 := c7 4
        have hs5 := hgrow.size
        simp only [World.size_alloc] at hs5
        have hKe : Keeps g w1.heap.size 87 wr w5 := ((Keeps.but hb2').trans (Keeps.alloc _ _)).trans (Keeps.grow hown2 hgrow)
        have hKf : Keeps g w1.heap.size 87 wr (w5.setCell ⟨w1.heap.size, 4, none⟩ (.slice A5 (k + 1) c5')) := hKe.trans (Keeps.put hk5)
        have hk6 : (w5.setCell ⟨w1.heap.size, 4, none⟩ (.slice A5 (k + 1) c5')).heap[w1.heap.size]? = some (.cells #[.string N1.1, v1, v2, v3, .slice A5 (k + 1) c5', .int .i64 0, .slice none 0 0] 28 (0, 0)) := by simp [World.setCell, Array.getElem?_modify, hk5]
        have hk06 := set_far (p := ⟨w1.heap.size, 4, none⟩) (.slice A5 (k + 1) c5') hk05 hne'
        have hown6 := own_put (k := w1.heap.size) (i := 4) (v := .slice A5 (k + 1) c5') hown' (by omega)
        have hr6 := rrl_put (k := w1.heap.size) (i := 4) (v := .slice A5 (k + 1) c5') (HD2.rd.low (by omega) (fun j hj => hlow j (by omega)) : RRl w5 g s') (by omega)
        have hb5 : But g W0 w5 := ⟨hgrow.os.trans HD2.bt.os, hgrow.tape.trans HD2.bt.tape, hgrow.output.trans HD2.bt.output, by have := HD2.bt.size; omega, fun j hj hne => (hlow j (by omega)).trans (HD2.bt.block j hj hne)⟩
        have hb6 := but_put (k := w1.heap.size) (i := 4) (v := .slice A5 (k + 1) c5') hb5 (by omega)
        have hs6 : w1.heap.size + 1 ≤ (w5.setCell ⟨w1.heap.size, 4, none⟩ (.slice A5 (k + 1) c5')).heap.size := by simp; omega
        have HDN := Lib.hid (⟨hk6, hk06, hr6, hb6, hs6⟩ : DI g w.heap.size w1.heap.size W0 (w5.setCell ⟨w1.heap.size, 4, none⟩ (.slice A5 (k + 1) c5')) N1.1 v1 v2 v3 (.slice A5 (k + 1) c5') s')
        have HWN := Lib.hid hown6
        have HPN1 := Lib.hid (HP1.out.keep (by omega) hKf (by decide))
        have HPN2 := Lib.hid (HP2.out.keep (by omega) hKf (by decide))
        have HPN3 := Lib.hid (HP3.out.keep (by omega) hKf (by decide) (by decide))
        generalize hW6 : w5.setCell ⟨w1.heap.size, 4, none⟩ (.slice A5 (k + 1) c5') = W6 at *
        clear hKe hKf hk6 hk06 hown6 hr6 hb5 hb6 hs6 hlow hk5 hk05 hgrow hown' hown2
        go_wp2_with fail
        try rw [hW6]
        go_roundw
        case rel =>
          exact ⟨k + 1, s', xs ++ [⟨xa, xb⟩], .slice A5 (k + 1) c5', by go_num, by omega, by simp [hxl], HDN, Lib.hid (by have h := HWN.out; rw [List.flatMap_append, List.flatMap_singleton]; exact h), Lib.hid (HAT.out.next hlt HSE.out HZ.out), HPN1, HPN2, HPN3⟩
        case measure => simp [intOf]; omega
      · have hfin := HAT.out.done hkn hgo
        have HFIN := Lib.hid (⟨v, by rw [hfin.1]; exact HD.out, by obtain ⟨A5, c5', hv5⟩ := own_isSlice HROW.out; exact ⟨A5, c5', k, xs, hv5, hxl, HROW.out, hfin.2⟩, HP1.out, HP2.out, HP3.out⟩ : ∃ v, DI g w.heap.size w1.heap.size W0 wr N1.1 v1 v2 v3 v R4.2 ∧ RowL w1.heap.size wr v R4 ∧ RowS w1.heap.size wr v1 R1 ∧ RowP w1.heap.size wr v2 R2 ∧ RowT g w1.heap.size wr v3 R3)
        have hor : ¬ k < n4 ∨ sk.err ≠ 0 := by
          rcases Nat.lt_or_ge k n4 with h | h
          · right; exact fun h2 => hgo ⟨h, h2⟩
          · left; omega
        clear hfin hgo
        rcases hor with hx | hx
        · have hx' : ¬ (k : Int) < (n4 : Int) := by omega
          go_wp2_with fail
          all_goals (go_meet; exact HFIN.out)
        · have e1 : (sk.err == 0) = false := beq_false_of_ne hx
          generalize sk.err = er at *
          go_wp2_with fail
          all_goals (go_meet; exact HFIN.out)
  case rest =>
  obtain ⟨v4, hd, hrow4, hp1, hp2, hp3⟩ := hcut
  obtain ⟨X4, hXc⟩ : ∃ X : World, X = wc := ⟨_, rfl⟩
  subst hXc
  have HDX4 := Lib.hid hd
  have HROW44 := Lib.hid hrow4
  have HROW41 := Lib.hid hp1
  have HROW42 := Lib.hid hp2
  have HROW43 := Lib.hid hp3
  clear hd hrow4 hp1 hp2 hp3 HRY41 HRY42 HRY43 HDY4 HST4
  have HN5 := Lib.hid (rlnum g R4.2 X4 HDX4.out.rd)
  rw [HL5.out] at HN5
  go_wp2_with fail
  go_at_call 54
  refine HN5.out.mono ?_
  rintro e' Y5 ⟨rfl, hr, hb⟩
  have hd5 := HDX4.out.but hb hr hk1g hk0g
  obtain ⟨X5, hX5⟩ : ∃ X, Y5.setCell ⟨w1.heap.size, 5, none⟩ (.int .i64 R5.1) = X := ⟨_, rfl⟩
  have hk5 : X5.heap[w1.heap.size]? = some (.cells #[.string N1.1, v1, v2, v3, v4, .int .i64 R5.1, .slice none 0 0] 28 (0, 0)) := by rw [← hX5]; exact blk7_put hd5.b1
  have hk05 : X5.heap[w.heap.size]? = some (.cells #[.string ⟨#[]⟩, .slice none 0 0, .slice none 0 0, .slice none 0 0, .slice none 0 0, .int .i64 0, .slice none 0 0] 28 (0, 0)) := by rw [← hX5]; exact set_far _ hd5.b0 hne'
  have hr5 : RRl X5 g R5.2 := by rw [← hX5]; exact rrl_put hr (by omega)
  have hb5 : But g W0 X5 := by rw [← hX5]; exact but_put hd5.bt (by omega)
  have hKf : Keeps g w1.heap.size 148 X4 X5 := by rw [← hX5]; exact (Keeps.but hb).trans (Keeps.put hd5.b1)
  have HR1 := Lib.hid (HROW41.out.keep (by omega) hKf (by decide))
  have HR2 := Lib.hid (HROW42.out.keep (by omega) hKf (by decide))
  have HR3 := Lib.hid (HROW43.out.keep (by omega) hKf (by decide) (by decide))
  have HR4 := Lib.hid (HROW44.out.keep (by omega) hKf (by decide))
  obtain ⟨a0, a1, a2, a3, a4, a5, a6, a7⟩ := blk7 hd5.b1
  have a75 := a7 5
  have HK5 := Lib.hid hk5
  have HK05 := Lib.hid hk05
  have HB5 := Lib.hid hb5
  have HEND := Lib.hid (rend_any g R5.2 X5 hr5.1)
  have hX5s := hb5.size
  obtain ⟨A1', c1', m1, x1, hv1, l1, o1, q1⟩ := HR1.out
  obtain ⟨A2', c2', m2, x2, hv2, l2, o2, q2⟩ := HR2.out
  obtain ⟨A3', c3', m3, ys, hv3, l3, o3, q3⟩ := HR3.out
  obtain ⟨A4', c4', m4, x4, hv4, l4, o4, q4⟩ := HR4.out
  subst hv1 hv2 hv3 hv4 l1 l2 l3 l4
  have O1 := Lib.hid o1
  have O2 := Lib.hid o2
  have O3 := Lib.hid o3
  have O4 := Lib.hid o4
  have Q1 := Lib.hid q1
  have Q2 := Lib.hid q2
  have Q3 := Lib.hid q3
  have Q4 := Lib.hid q4
  clear hd5 hk5 hk05 hr5 hb5 hKf hr hb HR1 HR2 HR3 HR4 o1 o2 o3 o4 q1 q2 q3 q4 a7 HROW41 HROW42 HROW43 HROW44 HN5
  go_wp2_with fail
  go_at_call 56
  refine HEND.out.mono ?_
  rintro e' w6 ⟨rfl, hw6⟩
  obtain rfl := hw6.symm
  clear hw6 a0 a1 a2 a3 a4 a5 a6 a75 hX5
  obtain ⟨d0, d1, d2, d3, d4, d5, d6, d7⟩ := blk7 HK05.out
  have d70 := d7 0
  have d71 := d7 1
  have d72 := d7 2
  have d73 := d7 3
  have d74 := d7 4
  have d75 := d7 5
  have d76 := d7 6
  clear d7
  by_cases hend : endS R5.2 = 0
  · have HQ5 : Hid (Q = (⟨N1.1, R1.1, R2.1, R3.1, R4.1, R5.1, []⟩, 0)) := Lib.hid (by
      rw [← HQ.out]
      unfold decS
      rw [HBODY.out]
      rw [if_pos hend])
    have herr : R5.2.err = 0 := by
      unfold endS at hend
      by_cases h : R5.2.err = 0
      · exact h
      · rw [if_neg h] at hend; exact hend
    obtain ⟨e0, e1, e2, e3, e4⟩ := HST.out herr
    have z1 := Q1.out e1
    have z2 := Q2.out e2
    obtain ⟨z3, z3f⟩ := Q3.out e3
    have z4 := Q4.out e4
    have Z3 := Lib.hid z3
    have Z3F := Lib.hid z3f
    subst z1 z2 z4
    rw [hend]
    obtain ⟨b0, b1, b2, b3, b4, b5, b6, _⟩ := blk7 HK5.out
    clear hend herr e0 e1 e2 e3 e4 z3 z3f HST
    go_wp2_with fail
    generalize hW7 : ((((((X5.setCell ⟨w.heap.size, 0, none⟩ (.string N1.1)).setCell ⟨w.heap.size, 1, none⟩ (.slice A1' R1.1.length c1')).setCell ⟨w.heap.size, 2, none⟩ (.slice A2' R2.1.length c2')).setCell ⟨w.heap.size, 3, none⟩ (.slice A3' ys.length c3')).setCell ⟨w.heap.size, 4, none⟩ (.slice A4' R4.1.length c4')).setCell ⟨w.heap.size, 5, none⟩ (.int .i64 R5.1)).setCell ⟨w.heap.size, 6, none⟩ (.slice none 0 0) = W7
    have hW7' : set7 X5 w.heap.size (.string N1.1) (.slice A1' R1.1.length c1') (.slice A2' R2.1.length c2') (.slice A3' ys.length c3') (.slice A4' R4.1.length c4') (.int .i64 R5.1) (.slice none 0 0) = W7 := hW7
    have n := blk7_set (.string N1.1) (.slice A1' R1.1.length c1') (.slice A2' R2.1.length c2') (.slice A3' ys.length c3') (.slice A4' R4.1.length c4') (.int .i64 R5.1) (.slice none 0 0) HK05.out
    have hB7 : Below w.heap.size w W7 := by
      rw [← hW7']
      exact set7_below _ _ _ _ _ _ _ (HBW0.out.trans (HB5.out.below (by omega) (by omega))) (Nat.le_refl _)
    have hfar : ∀ j, w.heap.size < j → W7.heap[j]? = X5.heap[j]? := fun j h1 => by rw [← hW7', set7_far _ _ _ _ _ _ _ (by omega)]
    have q1 := own_block O1.out (fun j h1 h2 _ => hfar j (by omega))
    have q2 := own_block O2.out (fun j h1 h2 _ => hfar j (by omega))
    have q3 := own_block O3.out (fun j h1 h2 _ => hfar j (by omega))
    have q4 := own_block O4.out (fun j h1 h2 _ => hfar j (by omega))
    have q3f : ∀ y ∈ ys, GoodH W7 y := fun y hy => fld_good (g := g) (own_block (Z3F.out y hy) (fun j h1 h2 _ => hfar j (by omega)))
    rw [hW7'] at n
    clear hW7 hW7' hfar
    rw [flat1] at q1
    obtain ⟨B1, k1, hv1, p1, _⟩ := slc_own (R := RN) (fun w B b o x h => h) q1 rfl
    obtain ⟨B2, k2, hv2, p2⟩ := slc_own2 (R := RPr) (fun _ => rfl) (fun w B b o x h => ⟨h 0 _ rfl, h 1 _ rfl⟩) q2 rfl
    obtain ⟨B3, k3, hv3, p3⟩ := slc_of_rows q3 q3f
    obtain ⟨B4, k4, hv4, p4⟩ := slc_own2 (R := RLc) (fun _ => rfl) (fun w B b o x h => ⟨h 0 _ rfl, h 1 _ rfl⟩) q4 rfl
    injection hv1 with hv1 _ hc1
    injection hv2 with hv2 _ hc2
    injection hv3 with hv3 _ hc3
    injection hv4 with hv4 _ hc4
    subst hv1 hv2 hv3 hv4 hc1 hc2 hc3 hc4
    rw [← Z3.out] at p3
    have hyl : ys.length = R3.1.length := by rw [Z3.out]; simp
    obtain ⟨u0, u1, u2, u3, u4, u5, u6, _⟩ := blk7 n
    rw [hyl] at u3
    rw [HQ5.out]
    refine bodyPost_ret (v := .tuple #[.agg #[.string N1.1, .slice A1' R1.1.length c1', .slice A2' R2.1.length c2', .slice A3' R3.1.length c3', .slice A4' R4.1.length c4', .int .i64 R5.1, .slice none 0 0], .int .i64 0]) (by simp [results, Tryz.results15, go_sem, u0, u1, u2, u3, u4, u5, u6] <;> rfl) rfl ?_
    exact ⟨⟨A1', c1', A2', c2', A3', c3', A4', c4', none, 0⟩, rfl, ⟨p1, p2, p3, p4, ⟨Sl.nil, by simp, by simp⟩⟩, hB7⟩
  · have HQ5 : Hid (Q = (noBody, endS R5.2)) := Lib.hid (by
      rw [← HQ.out]
      unfold decS
      rw [HBODY.out]
      rw [if_neg hend])
    have e2 : (endS R5.2 == 0) = false := by simp [hend]
    have e3 : (endS R5.2 != 0) = true := by simp [hend]
    clear hend HST
    generalize endS R5.2 = er at *
    go_wp2_with fail
    generalize hW7 : ((((((X5.setCell ⟨w.heap.size, 0, none⟩ (.string ⟨#[]⟩)).setCell ⟨w.heap.size, 1, none⟩ (.slice none 0 0)).setCell ⟨w.heap.size, 2, none⟩ (.slice none 0 0)).setCell ⟨w.heap.size, 3, none⟩ (.slice none 0 0)).setCell ⟨w.heap.size, 4, none⟩ (.slice none 0 0)).setCell ⟨w.heap.size, 5, none⟩ (.int .i64 0)).setCell ⟨w.heap.size, 6, none⟩ (.slice none 0 0) = W7
    have hW7' : set7 X5 w.heap.size (.string ⟨#[]⟩) (.slice none 0 0) (.slice none 0 0) (.slice none 0 0) (.slice none 0 0) (.int .i64 0) (.slice none 0 0) = W7 := hW7
    have n := blk7_set (.string ⟨#[]⟩) (.slice none 0 0) (.slice none 0 0) (.slice none 0 0) (.slice none 0 0) (.int .i64 0) (.slice none 0 0) HK05.out
    have hB7 : Below w.heap.size w W7 := by
      rw [← hW7']
      exact set7_below _ _ _ _ _ _ _ (HBW0.out.trans (HB5.out.below (by omega) (by omega))) (Nat.le_refl _)
    rw [hW7'] at n
    clear hW7 hW7'
    obtain ⟨u0, u1, u2, u3, u4, u5, u6, _⟩ := blk7 n
    rw [HQ5.out]
    refine bodyPost_ret (v := .tuple #[.agg #[.string ⟨#[]⟩, .slice none 0 0, .slice none 0 0, .slice none 0 0, .slice none 0 0, .int .i64 0, .slice none 0 0], .int .i64 er]) (by simp [results, Tryz.results15, go_sem, u0, u1, u2, u3, u4, u5, u6] <;> rfl) rfl ?_
    exact ⟨noBH, rfl, noBd _, hB7⟩
end Go.Proofs.YtbnljlpefpllcaaGreatDoor
namespace Go.Proofs.YtbnljlpefpllcaaGreatDoor
open Go Go.RowKit
theorem neqPr0 (a b : Int) (w : World) : Sem.run Tryz.prog (binOp .neq 79 (.agg #[.int .i64 a, .int .i64 b]) (.agg #[.int .i64 a, .int .i64 b])) w = .ok (.bool false) w := by
  have u3 := Tryz.underlying3
  have a3 := Tryz.isAgg3
  have z3 := Tryz.sizeOf3
  obtain ⟨i0, hi, hz0, hz1, hz2⟩ := info_parts infoInt
  rw [run_neq_struct, show (10000 : Nat) = 9999 + 1 from rfl, run_equalIn_array w 9999 _ _ Tryz.underlying79 hi]
  have hc : Tryz.prog.cellsOf 3 = 1 := by kernel_rfl
  rw [hc]
  simp [Op.eqItems, List.range_succ, go_sem, part]
theorem neqLc0 (a : ByteArray) (b : Int) (w : World) : Sem.run Tryz.prog (binOp .neq 87 (.agg #[.string a, .int .i64 b]) (.agg #[.string a, .int .i64 b])) w = .ok (.bool false) w := by
  have u3 := Tryz.underlying3
  have a3 := Tryz.isAgg3
  have z3 := Tryz.sizeOf3
  have u9 := Tryz.underlying9
  have a9 := Tryz.isAgg9
  have z9 := Tryz.sizeOf9
  have hS : Tryz.prog.underlying 87 = some (.struct (Tryz.prog.fieldsOf 87)) := by kernel_rfl
  have hp : Tryz.prog.stoodInHeld 87 = false := by kernel_rfl
  rw [run_neq_struct, show (10000 : Nat) = 9999 + 1 from rfl, run_equalIn_agg w 9999 87 _ _ hS hp]
  simp only [Program.fieldsOf, Tryz.underlying87]
  go_simp
set_option maxRecDepth 100000 in
set_option maxHeartbeats 4000000 in
theorem same_str (xs : List ByteArray) (A B : Option Addr) (c d : Nat) (w : World) (hs : Slc 1 RN w A c xs) (ht : Slc 1 RN w B d xs) :
    Calls Tryz.prog 57 #[.slice A xs.length c, .slice B xs.length d] w fun e' w' => e' = .returned (.bool true) ∧ Below w.heap.size w w' := by
  have hle := hs.le
  have hbg := hs.big
  have hle2 := ht.le
  have hbg2 := ht.big
  have HS := Lib.hid hs
  have HT := Lib.hid ht
  have neqPr := neqPr0
  clear hs ht
  go_enter Tryz.func57, Tryz.ntmps57
  go_wp2_with fail
  go_loopw [5] (fun v wr => ∃ i : Nat, i ≤ xs.length ∧ v = .int .i64 i ∧ Hid (Below w.heap.size w wr)) (fun v _ => xs.length - (intOf v).toNat)
  case atStart => exact ⟨0, by omega, rfl, Lib.hid (Below.refl _ _)⟩
  case round =>
    obtain ⟨i, hi, rfl, HB⟩ := hrel
    by_cases hlt : i < xs.length
    · obtain ⟨b, o, rfl, hb, y⟩ := (HS.out.keep RN.keeps HB.out).sl.at_ hlt
      obtain ⟨b2, o2, rfl, hb2, z⟩ := (HT.out.keep RN.keeps HB.out).sl.at_ hlt
      generalize xs[i] = x at *
      have p0 : wr.cell? ⟨b, o + i, none⟩ = some (.string x) := by simpa [RN] using y
      have q0 : wr.cell? ⟨b2, o2 + i, none⟩ = some (.string x) := by simpa [RN] using z
      clear y z
      go_wp2_with fail
      go_quiet (fail)
      go_wp2_with fail
      go_roundw
      case rel => exact ⟨i + 1, by omega, by go_num, Lib.hid (below_drewN HB.out _)⟩
      case measure => simp [intOf]; omega
    · go_wp2_with fail
      go_ret
      exact ⟨rfl, HB.out⟩
set_option maxRecDepth 100000 in
set_option maxHeartbeats 4000000 in
theorem same_pairs (xs : List (Int × Int)) (A B : Option Addr) (c d : Nat) (w : World) (hs : Slc 2 RPr w A c xs) (ht : Slc 2 RPr w B d xs) :
    Calls Tryz.prog 58 #[.slice A xs.length c, .slice B xs.length d] w fun e' w' => e' = .returned (.bool true) ∧ Below w.heap.size w w' := by
  have hle := hs.le
  have hbg := hs.big
  have hle2 := ht.le
  have hbg2 := ht.big
  have HS := Lib.hid hs
  have HT := Lib.hid ht
  have neqPr := neqPr0
  clear hs ht
  go_enter Tryz.func58, Tryz.ntmps58
  go_wp2_with fail
  go_loopw [5] (fun v wr => ∃ i : Nat, i ≤ xs.length ∧ v = .int .i64 i ∧ Hid (Below w.heap.size w wr)) (fun v _ => xs.length - (intOf v).toNat)
  case atStart => exact ⟨0, by omega, rfl, Lib.hid (Below.refl _ _)⟩
  case round =>
    obtain ⟨i, hi, rfl, HB⟩ := hrel
    by_cases hlt : i < xs.length
    · obtain ⟨b, o, rfl, hb, y⟩ := (HS.out.keep RPr.keeps HB.out).sl.at_ hlt
      obtain ⟨b2, o2, rfl, hb2, z⟩ := (HT.out.keep RPr.keeps HB.out).sl.at_ hlt
      generalize xs[i] = x at *
      have p0 : wr.cell? ⟨b, o + i * 2, none⟩ = some (.int .i64 x.1) := y.1
      have p1 : wr.cell? ⟨b, o + i * 2 + 1, none⟩ = some (.int .i64 x.2) := y.2
      have q0 : wr.cell? ⟨b2, o2 + i * 2, none⟩ = some (.int .i64 x.1) := z.1
      have q1 : wr.cell? ⟨b2, o2 + i * 2 + 1, none⟩ = some (.int .i64 x.2) := z.2
      clear y z
      go_wp2_with fail
      go_quiet (fail)
      go_wp2_with fail
      go_roundw
      case rel => exact ⟨i + 1, by omega, by go_num, Lib.hid (below_drewN HB.out _)⟩
      case measure => simp [intOf]; omega
    · go_wp2_with fail
      go_ret
      exact ⟨rfl, HB.out⟩
end Go.Proofs.YtbnljlpefpllcaaGreatDoor
