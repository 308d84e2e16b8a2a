/-
  Parts of the proof: V32T V32D V32E V24 V25 V26 V33.
-/
import Derived.Test.YtbnljlpefpllcaaGreatDoorMD15
namespace Go.Proofs.YtbnljlpefpllcaaGreatDoor
open Go Go.RowKit Go.Maps Go.WideMaps
set_option maxRecDepth 100000 in
set_option maxHeartbeats 8000000 in
theorem sub_tup (E : SubE) (b : Bdy) (HE : E.Ok b) (m : Nat) (HREC0 : E.Rec b m) (s t : Nat) (hm : s + t < m + 1) (hs : s < b.types.length) (ht : t < b.types.length) (W : World) (ks : List (Int × Int)) (h : E.St b W ks) (hmem : ((s : Int), (t : Int)) ∉ ks) (hcase : ((b.types[s].kind == b.types[t].kind) && (b.types[s].mu == b.types[t].mu) && ((b.types[s].flds.length : Int) == (b.types[t].flds.length : Int)) && !(b.types[s].kind == 3)) = true) :
    Calls Tryz.prog 231 #[.int .i64 s, .int .i64 t, .pointer (some ⟨E.pk, 0, none⟩), .pointer (some ⟨E.pl, 0, none⟩), .pointer (some ⟨E.pr, 0, none⟩), .pointer (some ⟨E.pf, 0, none⟩)] W fun e' W' => e' = .returned (.bool (subB b s t)) ∧ E.Q b W ks s t W' := by
    have HREC := Lib.hid HREC0
    have HSB := Lib.hid (subB_eq HE.ok.tyok hs ht)
    have HOKS := Lib.hid (HE.ok.tyok s hs)
    have HOKT := Lib.hid (HE.ok.tyok t ht)
    have hn := HE.ok.ntyp
    have hlen := h.lt HE
    have wfs : (Lit.int .i64 (s : Int)).wf = true := WalkArith.wf_i64 (by omega)
    have wft : (Lit.int .i64 (t : Int)).wf = true := WalkArith.wf_i64 (by omega)
    have x1 := h.k
    have x2 := h.l
    have x3 := h.r
    have x4 := h.f
    have hmemo := h.memo
    have HST := Lib.hid h
    have HEE := Lib.hid HE
    have hle := HE.ty.le
    have hbig := HE.ty.big
    have HMD : Hid (decide (((s : Int), (t : Int)) ∈ ks) = false) := Lib.hid (by simp [hmem])
    have HM := Lib.hid hmem
    obtain ⟨bb, oo, hA, hbb, hxs⟩ := HE.ty.sl.at_ hs
    obtain ⟨b2, o2, hA2, hbb2, hxt⟩ := HE.ty.sl.at_ ht
    have hAA : some (⟨bb, oo, none⟩ : Addr) = some ⟨b2, o2, none⟩ := hA.symm.trans hA2
    simp only [Option.some.injEq, Addr.mk.injEq, and_true] at hAA
    obtain ⟨rfl, rfl⟩ := hAA
    clear hA2 hbb2
    obtain ⟨ta, hta⟩ : ∃ x, b.types[s] = x := ⟨_, rfl⟩
    obtain ⟨tb, htb⟩ : ∃ x, b.types[t] = x := ⟨_, rfl⟩
    rw [hta] at hxs HSB HOKS hcase
    rw [htb] at hxt HSB HOKT hcase
    obtain ⟨r0, r1, r2, r3, A2, c2, r4, r6, r7, r8⟩ := hxs
    obtain ⟨q0, q1, q2, q3, B2, d2, q4, q6, q7, q8⟩ := hxt
    have HFA : Hid (Slc 1 RInt E.w0 A2 c2 ta.flds) := Lib.hid ⟨r8, r6, r7⟩
    have HFB : Hid (Slc 1 RInt E.w0 B2 d2 tb.flds) := Lib.hid ⟨q8, q6, q7⟩
    have hb0 := h.low
    replace r0 := cell_keep hb0 r0
    replace r1 := cell_keep hb0 r1
    replace r2 := cell_keep hb0 r2
    replace r3 := cell_keep hb0 r3
    replace r4 := cell_keep hb0 r4
    replace q0 := cell_keep hb0 q0
    replace q1 := cell_keep hb0 q1
    replace q2 := cell_keep hb0 q2
    replace q3 := cell_keep hb0 q3
    replace q4 := cell_keep hb0 q4
    rw [hA] at x2
    clear r8 q8 hta htb hb0 h HE hmem
    go_enter Tryz.func231, Tryz.ntmps231; go_wp2_with (at_lookup; refine wpList_lookM _ rfl _ _ 299 rfl 79 3 4 arrP Tryz.underlying3 progN Tryz.underlying299 (zeroB3 _) _ _ _ rfl hmemo _ _ rfl wfs wft ?_; rw [if_neg HM.out, HMD.out])
    have hS : Below W.heap.size W W.drew := (Below.refl _ _).drew
    refine wp_region_o (S := fun X => Below W.heap.size W X) [0, 1, 2, 3, 4, 5, 6, 7, 8, 9, 10, 11] (by kernel_rfl) ?_
    (iterate 8 (refine wpO_take (v := ?_) (by kernel_rfl) (fun _ _ _ h => h) (Or.inl ⟨by rfl, ?_⟩) hS ?_; rotate_left; (next => (rintro X hX; have s0 := cell_keep hX x2; have u0 := cell_keep hX r0; have u1 := cell_keep hX r1; have u2 := cell_keep hX r2; have u3 := cell_keep hX r3; have u4 := cell_keep hX r4; have v0 := cell_keep hX q0; have v1 := cell_keep hX q1; have v2 := cell_keep hX q2; have v3 := cell_keep hX q3; have v4 := cell_keep hX q4; (try simp only [List.getD_cons_zero, List.getD_cons_succ, List.getElem?_toArray, List.getElem?_cons_zero, List.getElem?_cons_succ, Option.getD_some]); go_simp; rfl)); simp only [List.getD_cons_zero, List.getD_cons_succ, List.getElem?_toArray, List.getElem?_cons_zero, List.getElem?_cons_succ, Option.getD_some, Act.put, List.setIfInBounds_toArray, List.set_cons_zero, List.set_cons_succ]))
    have hS1 : Below W.heap.size W (W.drew.alloc ty0) := by (repeat (first | exact Below.refl _ _ | assumption | refine Below.alloc ?_ (by first | omega | (simp; done) | (simp; omega)) _ | refine below_drewN ?_ _ | refine Below.drew ?_ | refine Below.setCell ?_ (by first | omega | (simp; done) | (simp; omega)) _))
    have hS2 : Below W.heap.size W ((W.drew.alloc ty0).alloc ty0) := by (repeat (first | exact Below.refl _ _ | assumption | refine Below.alloc ?_ (by first | omega | (simp; done) | (simp; omega)) _ | refine below_drewN ?_ _ | refine Below.drew ?_ | refine Below.setCell ?_ (by first | omega | (simp; done) | (simp; omega)) _))
    refine wpO_allocs [0, 1, 2, 3, 4, 5, 6, 7, 9, 8, 10, 11] ty0 (by kernel_rfl) ?_ ?_ ?_ hS1 hS2 ?_
    · intro a1 w1 K hK
      (simp only [List.getD_cons_zero, List.getD_cons_succ, List.getElem?_toArray, List.getElem?_cons_zero, List.getElem?_cons_succ, Option.getD_some, Act.put, List.setIfInBounds_toArray, List.set_cons_zero, List.set_cons_succ])
      rw [if_pos (by rfl)]
      go_simp
      exact hK
    · intro a1 w1 K hK
      (simp only [List.getD_cons_zero, List.getD_cons_succ, List.getElem?_toArray, List.getElem?_cons_zero, List.getElem?_cons_succ, Option.getD_some, Act.put, List.setIfInBounds_toArray, List.set_cons_zero, List.set_cons_succ])
      rw [if_pos (by rfl)]
      go_simp
      exact hK
    · exact fun _ _ => rfl
    intro ga gb hg
    obtain ⟨hB1, ya, yb⟩ := pair_new W.drew ga gb ta tb A2 B2 c2 d2 hg
    have hS3 : Below W.heap.size W (((W.drew.alloc ty0).alloc ty0).setCells ga 0 (tyL ta A2 c2)) := below_setCells (by rcases hg with h | h <;> (rw [h.1]; simp)) _ _ _ hS2
    have tha : ((W.drew.alloc ty0).alloc ty0).there ga 0 (tyL ta A2 c2).toArray.size := by
      rcases hg with ⟨h, -⟩ | ⟨h, -⟩ <;> rw [h]
      · exact World.there_alloc (there_new _ _ _ _ 5 rfl (by simp)) _
      · exact there_new _ _ _ _ 5 (by simp) (by simp)
    have thb : ((W.drew.alloc ty0).alloc ty0).there gb 0 (tyL tb B2 d2).toArray.size := by
      rcases hg with ⟨-, h⟩ | ⟨-, h⟩ <;> rw [h]
      · exact there_new _ _ _ _ 5 (by simp) (by simp)
      · exact World.there_alloc (there_new _ _ _ _ 5 rfl (by simp)) _
    have hS4 : Below W.heap.size W ((((W.drew.alloc ty0).alloc ty0).setCells ga 0 (tyL ta A2 c2)).setCells gb 0 (tyL tb B2 d2)) := hS.trans (hB1.mono (Nat.le_refl _))
    have hne : ga ≠ gb ∧ W.heap.size ≤ ga ∧ W.heap.size ≤ gb := by rcases hg with ⟨rfl, rfl⟩ | ⟨rfl, rfl⟩ <;> simp
    have hML := HST.out.memo.lt
    have hM : E.M ≠ ga ∧ E.M ≠ gb := by omega
    clear hg
    have thc := World.there_setCells thb ga 0 (tyL ta A2 c2)
    generalize (W.drew.alloc ty0).alloc ty0 = W8 at *
    have E9 : ∃ W9, W8.setCells ga 0 (tyL ta A2 c2) = W9 := ⟨_, rfl⟩
    obtain ⟨W9, e9⟩ := E9
    obtain ⟨W1, e1⟩ : ∃ W1, W9.setCells gb 0 (tyL tb B2 d2) = W1 := ⟨_, rfl⟩
    rw [e9] at hB1 ya yb hS3 hS4 thc
    rw [e1] at hB1 ya yb hS4
    (refine wpO_one (by kernel_rfl) (fun K1 hK1 => ?_); simp only [List.getD_cons_zero, List.getD_cons_succ, List.getElem?_toArray, List.getElem?_cons_zero, List.getElem?_cons_succ, Option.getD_some, Act.put, List.setIfInBounds_toArray, List.set_cons_zero, List.set_cons_succ]; rw [if_pos (by rfl)])
    refine wp_store_mid 83 (.tmp 11) (.tmp 27) rfl ga 0 (tyL ta A2 c2).toArray rfl rfl tha (by kernel_rfl) (by simp [tyL, Value.oneCell']) ?_
    rw [List.toList_toArray, e9]
    refine hK1.out _ _ (fun _ => hS3) ?_
    clear hK1
    (refine wpO_one (by kernel_rfl) (fun K1 hK1 => ?_); simp only [List.getD_cons_zero, List.getD_cons_succ, List.getElem?_toArray, List.getElem?_cons_zero, List.getElem?_cons_succ, Option.getD_some, Act.put, List.setIfInBounds_toArray, List.set_cons_zero, List.set_cons_succ]; rw [if_pos (by rfl)])
    refine wp_store_mid 83 (.tmp 12) (.tmp 31) rfl gb 0 (tyL tb B2 d2).toArray rfl rfl thc (by kernel_rfl) (by simp [tyL, Value.oneCell']) ?_
    rw [List.toList_toArray, e1]
    refine hK1.out _ _ (fun _ => hS4) ?_
    clear hK1
    refine wpO_done (by kernel_rfl) ?_
    (simp only [List.getD_cons_zero, List.getD_cons_succ, List.getElem?_toArray, List.getElem?_cons_zero, List.getElem?_cons_succ, Option.getD_some, Act.put, List.setIfInBounds_toArray, List.set_cons_zero, List.set_cons_succ])
    have ya0 := ya 0 _ rfl
    have ya1 := ya 1 _ rfl
    have ya2 := ya 2 _ rfl
    have ya3 := ya 3 _ rfl
    have ya4 := ya 4 _ rfl
    have yb0 := yb 0 _ rfl
    have yb1 := yb 1 _ rfl
    have yb2 := yb 2 _ rfl
    have yb3 := yb 3 _ rfl
    have yb4 := yb 4 _ rfl
    have hst1 := HST.out.keep hS4
    have HPH := Lib.hid (SubE.Ph.start HST.out hS4 ((s : Int) + t))
    have HB1 := Lib.hid hS4
    have HM1 := Lib.hid hM
    have HC : Hid (∀ X, E.Ph b W1 ks ((s : Int) + t) X → (∀ i v, (tyL ta A2 c2)[i]? = some v → X.cell? ⟨ga, i, none⟩ = some v) ∧ (∀ i v, (tyL tb B2 d2)[i]? = some v → X.cell? ⟨gb, i, none⟩ = some v) ∧ X.cell? ⟨E.pf, 0, none⟩ = some E.F ∧ X.cell? ⟨E.pr, 0, none⟩ = some (.pointer (some ⟨E.r, 0, none⟩)) ∧ X.cell? ⟨E.pk, 0, none⟩ = some (.map (some E.M)) ∧ Below E.w0.heap.size E.w0 X) := Lib.hid (fun X ⟨kx, h1, h2, h3⟩ =>
      ⟨fun i v hi => grown_cell h3 (ya i v hi) (by simpa using Ne.symm HM1.out.1), fun i v hi => grown_cell h3 (yb i v hi) (by simpa using Ne.symm HM1.out.2), h1.f, h1.r, h1.k, h1.low⟩)
    have hbp := HST.out.memo.lt
    clear hS hS1 hS2 hS3 hS4 hB1 ya yb tha thb thc e9 e1 x1 x2 x3 x4 hmemo r0 r1 r2 r3 r4 q0 q1 q2 q3 q4 hM hML
    have HCALL : Hid (∀ x y : Int, 0 ≤ x → 0 ≤ y → x + y < (s : Int) + t → x < (b.types.length : Int) → y < (b.types.length : Int) → ∀ X, E.Ph b W1 ks ((s : Int) + t) X →
        Calls Tryz.prog 231 #[.int .i64 x, .int .i64 y, .pointer (some ⟨E.pk, 0, none⟩), .pointer (some ⟨E.pl, 0, none⟩), .pointer (some ⟨E.pr, 0, none⟩), .pointer (some ⟨E.pf, 0, none⟩)] X fun e' X' => e' = .returned (.bool (subB b x y)) ∧ E.Ph b W1 ks ((s : Int) + t) X') := Lib.hid (fun x y hx hy hxy hxl hyl X ⟨kx, h1, h2, h3⟩ => by
      obtain ⟨x, rfl⟩ := Int.eq_ofNat_of_zero_le hx
      obtain ⟨y, rfl⟩ := Int.eq_ofNat_of_zero_le hy
      refine (HREC.out x y (by omega) (by omega) (by omega) X kx h1).mono ?_
      rintro e' X' ⟨rfl, hq⟩
      exact ⟨rfl, SubE.Ph.call h1 h2 h3 hq hxy⟩)
    clear HREC hn
    obtain ⟨p1, hp1⟩ : ∃ q, (ta.kind == tb.kind) = q := ⟨_, rfl⟩
    obtain ⟨p2, hp2⟩ : ∃ q, (ta.mu == tb.mu) = q := ⟨_, rfl⟩
    obtain ⟨p3, hp3⟩ : ∃ q, ((ta.flds.length : Int) == (tb.flds.length : Int)) = q := ⟨_, rfl⟩
    obtain ⟨p4, hp4⟩ : ∃ q, (ta.kind == 3) = q := ⟨_, rfl⟩
    rw [hp1, hp2, hp3, hp4] at hcase
    have HCASE := Lib.hid hcase
    clear hcase
    have HP1 := Lib.hid hp1
    have HP2 := Lib.hid hp2
    have HP3 := Lib.hid hp3
    have HP4 := Lib.hid hp4
    -- what is there behind the first tests
    have HLAW : Hid (∀ q : Bool, (p1 = true → p2 = true → p3 = true → p4 = true → q = (outB b.outl b.regions.length ta.reg tb.reg && subB b ta.elem tb.elem && (!ta.mu || subB b tb.elem ta.elem))) → (¬ (p1 = true ∧ p2 = true ∧ p3 = true ∧ p4 = true) → q = (p1 && p2 && p3)) →
        subB b s t = (q && (((ta.flds.drop 0).zip (tb.flds.drop 0)).all (fun p => subB b p.1 p.2))) ∧ (q = true → ta.flds.length = tb.flds.length)) := Lib.hid (fun q h1 h2 => by
      rw [HSB.out]
      unfold subS
      have g1 : decide (ta.kind = tb.kind) = p1 := by rw [← HP1.out]; rfl
      have g2 : decide (ta.mu = tb.mu) = p2 := by rw [← HP2.out]; cases ta.mu <;> cases tb.mu <;> rfl
      have g3 : decide (ta.flds.length = tb.flds.length) = p3 := by rw [← HP3.out, nat_beq]
      have g4 : decide (ta.kind ≠ 3) = !p4 := by rw [← HP4.out]; by_cases h : ta.kind = 3 <;> simp [h]
      have g5 : p4 = true → ta.flds = [] := fun h => (HOKS.out.1 (by rw [← HP4.out] at h; simpa using h)).2.2
      rw [g1, g2, g3, g4, List.drop_zero, List.drop_zero]
      have g6 : p3 = true → ta.flds.length = tb.flds.length := fun h => by rw [← g3] at h; simpa using h
      cases p1 <;> cases p2 <;> cases p3 <;> cases p4 <;> simp_all)
    clear HSB
    have HR : Hid (0 ≤ (s : Int) ∧ (s : Int) < (b.types.length : Int) ∧ 0 ≤ (t : Int) ∧ (t : Int) < (b.types.length : Int)) := Lib.hid ⟨by omega, by omega, by omega, by omega⟩
    have HO : Hid (∀ X, E.Ph b W1 ks ((s : Int) + t) X → Calls Tryz.prog 214 #[.pointer (some ⟨E.r, 0, none⟩), .int .i64 ta.reg, .int .i64 tb.reg] X fun e' X' => e' = .returned (.bool (outB b.outl b.regions.length ta.reg tb.reg)) ∧ E.Ph b W1 ks ((s : Int) + t) X') := Lib.hid (fun X hX => by
      refine (outl_any b.outl b.regions.length ta.reg tb.reg E.r X (HEE.out.rel.keep (HC.out X hX).2.2.2.2.2) HEE.out.ok.pairs (by have := HEE.out.ok.nreg; omega) HEE.out.ok.nout).mono ?_
      rintro e' X' ⟨rfl, hb⟩
      exact ⟨rfl, hX.keep hb⟩)
    obtain ⟨z1, z2, z3, z4⟩ : W1.cell? ⟨E.pf, 0, none⟩ = some E.F ∧ W1.cell? ⟨E.pr, 0, none⟩ = some (.pointer (some ⟨E.r, 0, none⟩)) ∧ W1.cell? ⟨E.pk, 0, none⟩ = some (.map (some E.M)) ∧ True := ⟨hst1.f, hst1.r, hst1.k, trivial⟩
    clear hst1 z4
    unfold SubE.F at z1
    have hc := HCASE.out
    clear HCASE
    have hall : ¬ (p1 = true ∧ p2 = true ∧ p3 = true ∧ p4 = true) := by rintro ⟨rfl, rfl, rfl, rfl⟩; simp at hc
    have HL3 : Hid (∀ q : Bool, q = (p1 && p2 && p3) → subB b s t = (q && (((ta.flds.drop 0).zip (tb.flds.drop 0)).all (fun p => subB b p.1 p.2))) ∧ (q = true → ta.flds.length = tb.flds.length)) := Lib.hid (fun q hq => HLAW.out q (fun h1 h2 h3 h4 => absurd ⟨h1, h2, h3, h4⟩ hall) (fun _ => hq))
    clear HLAW HO HP1 HP2 HP3 HP4
    have HPZ := HPH
    obtain ⟨rfl, rfl, rfl, rfl⟩ : p1 = true ∧ p2 = true ∧ p3 = true ∧ p4 = false := by revert hc; cases p1 <;> cases p2 <;> cases p3 <;> cases p4 <;> simp
    clear hc
    have HV := Lib.hid (HL3.out true rfl)
    have hln := HV.out.2 rfl
    have HLN := Lib.hid hln
    clear hall HL3 hln
    go_wp2_with fail
    go_loopg [9, 13] ta.flds.length (fun gk v i wr => ∃ (j : Nat) (q : Bool), gk = ta.flds.length - j ∧ j ≤ ta.flds.length ∧ v = .bool q ∧ i = .int .i64 j ∧ Hid (E.Ph b W1 ks ((s : Int) + t) wr) ∧ Hid (subB b s t = (q && ((ta.flds.drop j).zip (tb.flds.drop j)).all (fun p => subB b p.1 p.2))))
    case atStart => exact ⟨0, true, by omega, by omega, rfl, rfl, HPZ, Lib.hid HV.out.1⟩
    case round =>
      clear HPZ HV
      obtain ⟨j, q, hgj, hj, rfl, rfl, HPZ, HV⟩ := hrel
      have hq := HPZ.out
      obtain ⟨ca, cb, cf, cr, ck, -⟩ := HC.out _ hq; unfold SubE.F at cf; have ca0 := ca 0 _ rfl; have ca1 := ca 1 _ rfl; have ca2 := ca 2 _ rfl; have ca3 := ca 3 _ rfl; have ca4 := ca 4 _ rfl; have cb0 := cb 0 _ rfl; have cb1 := cb 1 _ rfl; have cb2 := cb 2 _ rfl; have cb3 := cb 3 _ rfl; have cb4 := cb 4 _ rfl; clear ca cb
      clear hq
      cases q
      · have HVV : Hid (subB b s t = false) := Lib.hid (by rw [HV.out]; rfl)
        clear HCALL HOKS HOKT
        obtain ⟨kz, hstz, hnz, hgz⟩ := HPZ.out; have HSZ := Lib.hid hstz; have HNZ := Lib.hid hnz; have HGZ := Lib.hid hgz; have hkz := hstz.k; clear hnz hgz; go_wp2_with (at_mapUpdate; refine wpList_storeM _ rfl _ _ _ 299 rfl 79 3 4 arrP Tryz.underlying3 progN Tryz.underlying299 _ _ _ rfl hstz.memo (hstz.lt HEE.out) _ _ rfl wfs wft (by rw [HVV.out]; rfl) ?_; intro w9 hm9 hg9; have HM9 := Lib.hid hm9; have HG9 := Lib.hid hg9; clear hm9 hg9); clear hstz; go_ret; refine ⟨?_, SubE.fin HEE.out HM.out HR.out HB1.out HSZ.out HNZ.out HGZ.out HM9.out HG9.out⟩; rw [HVV.out]; rfl
      · by_cases hlt : j < ta.flds.length
        · have hlt2 : j < tb.flds.length := by have := HLN.out; omega
          obtain ⟨ba, oa, rfl, hba, hxa⟩ := HFA.out.sl.at_ hlt
          obtain ⟨b8, o8, rfl, hb8, hxb⟩ := HFB.out.sl.at_ hlt2
          have h5 := HOKS.out.2 ta.flds[j] (List.getElem_mem hlt)
          have h6 := HOKT.out.2 tb.flds[j] (List.getElem_mem hlt2)
          have HV2 : Hid (subB b s t = (subB b ta.flds[j] tb.flds[j] && ((ta.flds.drop (j + 1)).zip (tb.flds.drop (j + 1))).all (fun p => subB b p.1 p.2))) := Lib.hid (by rw [HV.out, drop_cons hlt, drop_cons hlt2, List.zip_cons_cons, List.all_cons, Bool.true_and])
          obtain ⟨x, hxx⟩ : ∃ x, ta.flds[j] = x := ⟨_, rfl⟩
          obtain ⟨y, hyy⟩ : ∃ y, tb.flds[j] = y := ⟨_, rfl⟩
          rw [hxx] at hxa h5 HV2
          rw [hyy] at hxb h6 HV2
          have xa : E.w0.cell? ⟨ba, oa + j, none⟩ = some (.int .i64 x) := by simpa [RInt] using hxa
          have xb : E.w0.cell? ⟨b8, o8 + j, none⟩ = some (.int .i64 y) := by simpa [RInt] using hxb
          have HCX := Lib.hid (HCALL.out x y h5.1 h6.1 (by omega) (by omega) (by omega))
          have XA := Lib.hid xa
          have XB := Lib.hid xb
          clear hxa hxb h5 h6 hxx hyy HV HCALL HOKS HOKT xa xb
          go_wp2_with fail
          have hS : E.Ph b W1 ks ((s : Int) + t) wr.drew := HPZ.out.keep ((Below.refl _ _).drew)
          clear ca0 ca1 ca2 ca3 ca4 cb0 cb1 cb2 cb3 cb4 cf cr ck
          refine wp_region_o (S := fun X => E.Ph b W1 ks ((s : Int) + t) X) [0, 1, 2, 3, 4, 5, 6, 7, 8, 9, 10, 11, 12] (by kernel_rfl) ?_
          (iterate 11 (refine wpO_take (v := ?_) (by kernel_rfl) (fun _ _ _ h => h) (Or.inl ⟨by rfl, ?_⟩) hS ?_; rotate_left; (next => (rintro X hX; obtain ⟨da, db, df, -, -, dl⟩ := HC.out X hX; unfold SubE.F at df; have s4 := da 4 _ rfl; have u4 := db 4 _ rfl; have v1 := cell_keep dl XA.out; have v2 := cell_keep dl XB.out; clear da db; (try simp only [List.getD_cons_zero, List.getD_cons_succ, List.getElem?_toArray, List.getElem?_cons_zero, List.getElem?_cons_succ, Option.getD_some]); go_simp; rfl)); simp only [List.getD_cons_zero, List.getD_cons_succ, List.getElem?_toArray, List.getElem?_cons_zero, List.getElem?_cons_succ, Option.getD_some, Act.put, List.setIfInBounds_toArray, List.set_cons_zero, List.set_cons_succ]))
          (refine wpO_one (by kernel_rfl) (fun K1 hK1 => ?_); simp only [List.getD_cons_zero, List.getD_cons_succ, List.getElem?_toArray, List.getElem?_cons_zero, List.getElem?_cons_succ, Option.getD_some, Act.put, List.setIfInBounds_toArray, List.set_cons_zero, List.set_cons_succ]; rw [if_pos (by rfl)]; go_simp)
          refine (HCX.out _ hS).mono ?_
          rintro e' w2 ⟨rfl, hq⟩
          refine hK1.out _ _ (fun _ => hq) ?_
          have HQ := Lib.hid hq
          replace hS := hq
          clear hK1 hq
          (iterate 1 (refine wpO_take (v := ?_) (by kernel_rfl) (fun _ _ _ h => h) (Or.inl ⟨by rfl, ?_⟩) hS ?_; rotate_left; (next => (rintro X -; (try simp only [List.getD_cons_zero, List.getD_cons_succ, List.getElem?_toArray, List.getElem?_cons_zero, List.getElem?_cons_succ, Option.getD_some]); go_simp; rfl)); simp only [List.getD_cons_zero, List.getD_cons_succ, List.getElem?_toArray, List.getElem?_cons_zero, List.getElem?_cons_succ, Option.getD_some, Act.put, List.setIfInBounds_toArray, List.set_cons_zero, List.set_cons_succ]))
          refine wpO_done (by kernel_rfl) ?_
          go_wp2_with fail
          go_roundg (ta.flds.length - (j + 1))
          case measure => omega
          case rel => exact ⟨j + 1, subB b x y, rfl, by omega, rfl, by go_num, HQ, HV2⟩
        · have HVV : Hid (subB b s t = true) := Lib.hid (by rw [HV.out, List.drop_eq_nil_of_le (by omega)]; rfl)
          have e0 : ¬ ((j : Int) < (ta.flds.length : Int)) := by omega
          clear HCALL HOKS HOKT
          obtain ⟨kz, hstz, hnz, hgz⟩ := HPZ.out; have HSZ := Lib.hid hstz; have HNZ := Lib.hid hnz; have HGZ := Lib.hid hgz; have hkz := hstz.k; clear hnz hgz; go_wp2_with (at_mapUpdate; refine wpList_storeM _ rfl _ _ _ 299 rfl 79 3 4 arrP Tryz.underlying3 progN Tryz.underlying299 _ _ _ rfl hstz.memo (hstz.lt HEE.out) _ _ rfl wfs wft (by rw [HVV.out]; rfl) ?_; intro w9 hm9 hg9; have HM9 := Lib.hid hm9; have HG9 := Lib.hid hg9; clear hm9 hg9); clear hstz; go_ret; refine ⟨?_, SubE.fin HEE.out HM.out HR.out HB1.out HSZ.out HNZ.out HGZ.out HM9.out HG9.out⟩; rw [HVV.out]; rfl
end Go.Proofs.YtbnljlpefpllcaaGreatDoor
namespace Go.Proofs.YtbnljlpefpllcaaGreatDoor
open Go Go.RowKit Go.Maps Go.WideMaps
set_option maxRecDepth 100000 in
set_option maxHeartbeats 8000000 in
theorem sub_diff (E : SubE) (b : Bdy) (HE : E.Ok b) (m : Nat) (HREC0 : E.Rec b m) (s t : Nat) (hm : s + t < m + 1) (hs : s < b.types.length) (ht : t < b.types.length) (W : World) (ks : List (Int × Int)) (h : E.St b W ks) (hmem : ((s : Int), (t : Int)) ∉ ks) (hcase : ((b.types[s].kind == b.types[t].kind) && (b.types[s].mu == b.types[t].mu) && ((b.types[s].flds.length : Int) == (b.types[t].flds.length : Int))) = false) :
    Calls Tryz.prog 231 #[.int .i64 s, .int .i64 t, .pointer (some ⟨E.pk, 0, none⟩), .pointer (some ⟨E.pl, 0, none⟩), .pointer (some ⟨E.pr, 0, none⟩), .pointer (some ⟨E.pf, 0, none⟩)] W fun e' W' => e' = .returned (.bool (subB b s t)) ∧ E.Q b W ks s t W' := by
    have HREC := Lib.hid HREC0
    have HSB := Lib.hid (subB_eq HE.ok.tyok hs ht)
    have HOKS := Lib.hid (HE.ok.tyok s hs)
    have HOKT := Lib.hid (HE.ok.tyok t ht)
    have hn := HE.ok.ntyp
    have hlen := h.lt HE
    have wfs : (Lit.int .i64 (s : Int)).wf = true := WalkArith.wf_i64 (by omega)
    have wft : (Lit.int .i64 (t : Int)).wf = true := WalkArith.wf_i64 (by omega)
    have x1 := h.k
    have x2 := h.l
    have x3 := h.r
    have x4 := h.f
    have hmemo := h.memo
    have HST := Lib.hid h
    have HEE := Lib.hid HE
    have hle := HE.ty.le
    have hbig := HE.ty.big
    have HMD : Hid (decide (((s : Int), (t : Int)) ∈ ks) = false) := Lib.hid (by simp [hmem])
    have HM := Lib.hid hmem
    obtain ⟨bb, oo, hA, hbb, hxs⟩ := HE.ty.sl.at_ hs
    obtain ⟨b2, o2, hA2, hbb2, hxt⟩ := HE.ty.sl.at_ ht
    have hAA : some (⟨bb, oo, none⟩ : Addr) = some ⟨b2, o2, none⟩ := hA.symm.trans hA2
    simp only [Option.some.injEq, Addr.mk.injEq, and_true] at hAA
    obtain ⟨rfl, rfl⟩ := hAA
    clear hA2 hbb2
    obtain ⟨ta, hta⟩ : ∃ x, b.types[s] = x := ⟨_, rfl⟩
    obtain ⟨tb, htb⟩ : ∃ x, b.types[t] = x := ⟨_, rfl⟩
    rw [hta] at hxs HSB HOKS hcase
    rw [htb] at hxt HSB HOKT hcase
    obtain ⟨r0, r1, r2, r3, A2, c2, r4, r6, r7, r8⟩ := hxs
    obtain ⟨q0, q1, q2, q3, B2, d2, q4, q6, q7, q8⟩ := hxt
    have HFA : Hid (Slc 1 RInt E.w0 A2 c2 ta.flds) := Lib.hid ⟨r8, r6, r7⟩
    have HFB : Hid (Slc 1 RInt E.w0 B2 d2 tb.flds) := Lib.hid ⟨q8, q6, q7⟩
    have hb0 := h.low
    replace r0 := cell_keep hb0 r0
    replace r1 := cell_keep hb0 r1
    replace r2 := cell_keep hb0 r2
    replace r3 := cell_keep hb0 r3
    replace r4 := cell_keep hb0 r4
    replace q0 := cell_keep hb0 q0
    replace q1 := cell_keep hb0 q1
    replace q2 := cell_keep hb0 q2
    replace q3 := cell_keep hb0 q3
    replace q4 := cell_keep hb0 q4
    rw [hA] at x2
    clear r8 q8 hta htb hb0 h HE hmem
    go_enter Tryz.func231, Tryz.ntmps231; go_wp2_with (at_lookup; refine wpList_lookM _ rfl _ _ 299 rfl 79 3 4 arrP Tryz.underlying3 progN Tryz.underlying299 (zeroB3 _) _ _ _ rfl hmemo _ _ rfl wfs wft ?_; rw [if_neg HM.out, HMD.out])
    have hS : Below W.heap.size W W.drew := (Below.refl _ _).drew
    refine wp_region_o (S := fun X => Below W.heap.size W X) [0, 1, 2, 3, 4, 5, 6, 7, 8, 9, 10, 11] (by kernel_rfl) ?_
    (iterate 8 (refine wpO_take (v := ?_) (by kernel_rfl) (fun _ _ _ h => h) (Or.inl ⟨by rfl, ?_⟩) hS ?_; rotate_left; (next => (rintro X hX; have s0 := cell_keep hX x2; have u0 := cell_keep hX r0; have u1 := cell_keep hX r1; have u2 := cell_keep hX r2; have u3 := cell_keep hX r3; have u4 := cell_keep hX r4; have v0 := cell_keep hX q0; have v1 := cell_keep hX q1; have v2 := cell_keep hX q2; have v3 := cell_keep hX q3; have v4 := cell_keep hX q4; (try simp only [List.getD_cons_zero, List.getD_cons_succ, List.getElem?_toArray, List.getElem?_cons_zero, List.getElem?_cons_succ, Option.getD_some]); go_simp; rfl)); simp only [List.getD_cons_zero, List.getD_cons_succ, List.getElem?_toArray, List.getElem?_cons_zero, List.getElem?_cons_succ, Option.getD_some, Act.put, List.setIfInBounds_toArray, List.set_cons_zero, List.set_cons_succ]))
    have hS1 : Below W.heap.size W (W.drew.alloc ty0) := by (repeat (first | exact Below.refl _ _ | assumption | refine Below.alloc ?_ (by first | omega | (simp; done) | (simp; omega)) _ | refine below_drewN ?_ _ | refine Below.drew ?_ | refine Below.setCell ?_ (by first | omega | (simp; done) | (simp; omega)) _))
    have hS2 : Below W.heap.size W ((W.drew.alloc ty0).alloc ty0) := by (repeat (first | exact Below.refl _ _ | assumption | refine Below.alloc ?_ (by first | omega | (simp; done) | (simp; omega)) _ | refine below_drewN ?_ _ | refine Below.drew ?_ | refine Below.setCell ?_ (by first | omega | (simp; done) | (simp; omega)) _))
    refine wpO_allocs [0, 1, 2, 3, 4, 5, 6, 7, 9, 8, 10, 11] ty0 (by kernel_rfl) ?_ ?_ ?_ hS1 hS2 ?_
    · intro a1 w1 K hK
      (simp only [List.getD_cons_zero, List.getD_cons_succ, List.getElem?_toArray, List.getElem?_cons_zero, List.getElem?_cons_succ, Option.getD_some, Act.put, List.setIfInBounds_toArray, List.set_cons_zero, List.set_cons_succ])
      rw [if_pos (by rfl)]
      go_simp
      exact hK
    · intro a1 w1 K hK
      (simp only [List.getD_cons_zero, List.getD_cons_succ, List.getElem?_toArray, List.getElem?_cons_zero, List.getElem?_cons_succ, Option.getD_some, Act.put, List.setIfInBounds_toArray, List.set_cons_zero, List.set_cons_succ])
      rw [if_pos (by rfl)]
      go_simp
      exact hK
    · exact fun _ _ => rfl
    intro ga gb hg
    obtain ⟨hB1, ya, yb⟩ := pair_new W.drew ga gb ta tb A2 B2 c2 d2 hg
    have hS3 : Below W.heap.size W (((W.drew.alloc ty0).alloc ty0).setCells ga 0 (tyL ta A2 c2)) := below_setCells (by rcases hg with h | h <;> (rw [h.1]; simp)) _ _ _ hS2
    have tha : ((W.drew.alloc ty0).alloc ty0).there ga 0 (tyL ta A2 c2).toArray.size := by
      rcases hg with ⟨h, -⟩ | ⟨h, -⟩ <;> rw [h]
      · exact World.there_alloc (there_new _ _ _ _ 5 rfl (by simp)) _
      · exact there_new _ _ _ _ 5 (by simp) (by simp)
    have thb : ((W.drew.alloc ty0).alloc ty0).there gb 0 (tyL tb B2 d2).toArray.size := by
      rcases hg with ⟨-, h⟩ | ⟨-, h⟩ <;> rw [h]
      · exact there_new _ _ _ _ 5 (by simp) (by simp)
      · exact World.there_alloc (there_new _ _ _ _ 5 rfl (by simp)) _
    have hS4 : Below W.heap.size W ((((W.drew.alloc ty0).alloc ty0).setCells ga 0 (tyL ta A2 c2)).setCells gb 0 (tyL tb B2 d2)) := hS.trans (hB1.mono (Nat.le_refl _))
    have hne : ga ≠ gb ∧ W.heap.size ≤ ga ∧ W.heap.size ≤ gb := by rcases hg with ⟨rfl, rfl⟩ | ⟨rfl, rfl⟩ <;> simp
    have hML := HST.out.memo.lt
    have hM : E.M ≠ ga ∧ E.M ≠ gb := by omega
    clear hg
    have thc := World.there_setCells thb ga 0 (tyL ta A2 c2)
    generalize (W.drew.alloc ty0).alloc ty0 = W8 at *
    have E9 : ∃ W9, W8.setCells ga 0 (tyL ta A2 c2) = W9 := ⟨_, rfl⟩
    obtain ⟨W9, e9⟩ := E9
    obtain ⟨W1, e1⟩ : ∃ W1, W9.setCells gb 0 (tyL tb B2 d2) = W1 := ⟨_, rfl⟩
    rw [e9] at hB1 ya yb hS3 hS4 thc
    rw [e1] at hB1 ya yb hS4
    (refine wpO_one (by kernel_rfl) (fun K1 hK1 => ?_); simp only [List.getD_cons_zero, List.getD_cons_succ, List.getElem?_toArray, List.getElem?_cons_zero, List.getElem?_cons_succ, Option.getD_some, Act.put, List.setIfInBounds_toArray, List.set_cons_zero, List.set_cons_succ]; rw [if_pos (by rfl)])
    refine wp_store_mid 83 (.tmp 11) (.tmp 27) rfl ga 0 (tyL ta A2 c2).toArray rfl rfl tha (by kernel_rfl) (by simp [tyL, Value.oneCell']) ?_
    rw [List.toList_toArray, e9]
    refine hK1.out _ _ (fun _ => hS3) ?_
    clear hK1
    (refine wpO_one (by kernel_rfl) (fun K1 hK1 => ?_); simp only [List.getD_cons_zero, List.getD_cons_succ, List.getElem?_toArray, List.getElem?_cons_zero, List.getElem?_cons_succ, Option.getD_some, Act.put, List.setIfInBounds_toArray, List.set_cons_zero, List.set_cons_succ]; rw [if_pos (by rfl)])
    refine wp_store_mid 83 (.tmp 12) (.tmp 31) rfl gb 0 (tyL tb B2 d2).toArray rfl rfl thc (by kernel_rfl) (by simp [tyL, Value.oneCell']) ?_
    rw [List.toList_toArray, e1]
    refine hK1.out _ _ (fun _ => hS4) ?_
    clear hK1
    refine wpO_done (by kernel_rfl) ?_
    (simp only [List.getD_cons_zero, List.getD_cons_succ, List.getElem?_toArray, List.getElem?_cons_zero, List.getElem?_cons_succ, Option.getD_some, Act.put, List.setIfInBounds_toArray, List.set_cons_zero, List.set_cons_succ])
    have ya0 := ya 0 _ rfl
    have ya1 := ya 1 _ rfl
    have ya2 := ya 2 _ rfl
    have ya3 := ya 3 _ rfl
    have ya4 := ya 4 _ rfl
    have yb0 := yb 0 _ rfl
    have yb1 := yb 1 _ rfl
    have yb2 := yb 2 _ rfl
    have yb3 := yb 3 _ rfl
    have yb4 := yb 4 _ rfl
    have hst1 := HST.out.keep hS4
    have HPH := Lib.hid (SubE.Ph.start HST.out hS4 ((s : Int) + t))
    have HB1 := Lib.hid hS4
    have HM1 := Lib.hid hM
    have HC : Hid (∀ X, E.Ph b W1 ks ((s : Int) + t) X → (∀ i v, (tyL ta A2 c2)[i]? = some v → X.cell? ⟨ga, i, none⟩ = some v) ∧ (∀ i v, (tyL tb B2 d2)[i]? = some v → X.cell? ⟨gb, i, none⟩ = some v) ∧ X.cell? ⟨E.pf, 0, none⟩ = some E.F ∧ X.cell? ⟨E.pr, 0, none⟩ = some (.pointer (some ⟨E.r, 0, none⟩)) ∧ X.cell? ⟨E.pk, 0, none⟩ = some (.map (some E.M)) ∧ Below E.w0.heap.size E.w0 X) := Lib.hid (fun X ⟨kx, h1, h2, h3⟩ =>
      ⟨fun i v hi => grown_cell h3 (ya i v hi) (by simpa using Ne.symm HM1.out.1), fun i v hi => grown_cell h3 (yb i v hi) (by simpa using Ne.symm HM1.out.2), h1.f, h1.r, h1.k, h1.low⟩)
    have hbp := HST.out.memo.lt
    clear hS hS1 hS2 hS3 hS4 hB1 ya yb tha thb thc e9 e1 x1 x2 x3 x4 hmemo r0 r1 r2 r3 r4 q0 q1 q2 q3 q4 hM hML
    have HCALL : Hid (∀ x y : Int, 0 ≤ x → 0 ≤ y → x + y < (s : Int) + t → x < (b.types.length : Int) → y < (b.types.length : Int) → ∀ X, E.Ph b W1 ks ((s : Int) + t) X →
        Calls Tryz.prog 231 #[.int .i64 x, .int .i64 y, .pointer (some ⟨E.pk, 0, none⟩), .pointer (some ⟨E.pl, 0, none⟩), .pointer (some ⟨E.pr, 0, none⟩), .pointer (some ⟨E.pf, 0, none⟩)] X fun e' X' => e' = .returned (.bool (subB b x y)) ∧ E.Ph b W1 ks ((s : Int) + t) X') := Lib.hid (fun x y hx hy hxy hxl hyl X ⟨kx, h1, h2, h3⟩ => by
      obtain ⟨x, rfl⟩ := Int.eq_ofNat_of_zero_le hx
      obtain ⟨y, rfl⟩ := Int.eq_ofNat_of_zero_le hy
      refine (HREC.out x y (by omega) (by omega) (by omega) X kx h1).mono ?_
      rintro e' X' ⟨rfl, hq⟩
      exact ⟨rfl, SubE.Ph.call h1 h2 h3 hq hxy⟩)
    clear HREC hn
    obtain ⟨p1, hp1⟩ : ∃ q, (ta.kind == tb.kind) = q := ⟨_, rfl⟩
    obtain ⟨p2, hp2⟩ : ∃ q, (ta.mu == tb.mu) = q := ⟨_, rfl⟩
    obtain ⟨p3, hp3⟩ : ∃ q, ((ta.flds.length : Int) == (tb.flds.length : Int)) = q := ⟨_, rfl⟩
    obtain ⟨p4, hp4⟩ : ∃ q, (ta.kind == 3) = q := ⟨_, rfl⟩
    rw [hp1, hp2, hp3] at hcase
    have HCASE := Lib.hid hcase
    clear hcase
    have HP1 := Lib.hid hp1
    have HP2 := Lib.hid hp2
    have HP3 := Lib.hid hp3
    have HP4 := Lib.hid hp4
    -- what is there behind the first tests
    have HLAW : Hid (∀ q : Bool, (p1 = true → p2 = true → p3 = true → p4 = true → q = (outB b.outl b.regions.length ta.reg tb.reg && subB b ta.elem tb.elem && (!ta.mu || subB b tb.elem ta.elem))) → (¬ (p1 = true ∧ p2 = true ∧ p3 = true ∧ p4 = true) → q = (p1 && p2 && p3)) →
        subB b s t = (q && (((ta.flds.drop 0).zip (tb.flds.drop 0)).all (fun p => subB b p.1 p.2))) ∧ (q = true → ta.flds.length = tb.flds.length)) := Lib.hid (fun q h1 h2 => by
      rw [HSB.out]
      unfold subS
      have g1 : decide (ta.kind = tb.kind) = p1 := by rw [← HP1.out]; rfl
      have g2 : decide (ta.mu = tb.mu) = p2 := by rw [← HP2.out]; cases ta.mu <;> cases tb.mu <;> rfl
      have g3 : decide (ta.flds.length = tb.flds.length) = p3 := by rw [← HP3.out, nat_beq]
      have g4 : decide (ta.kind ≠ 3) = !p4 := by rw [← HP4.out]; by_cases h : ta.kind = 3 <;> simp [h]
      have g5 : p4 = true → ta.flds = [] := fun h => (HOKS.out.1 (by rw [← HP4.out] at h; simpa using h)).2.2
      rw [g1, g2, g3, g4, List.drop_zero, List.drop_zero]
      have g6 : p3 = true → ta.flds.length = tb.flds.length := fun h => by rw [← g3] at h; simpa using h
      cases p1 <;> cases p2 <;> cases p3 <;> cases p4 <;> simp_all)
    clear HSB
    have HR : Hid (0 ≤ (s : Int) ∧ (s : Int) < (b.types.length : Int) ∧ 0 ≤ (t : Int) ∧ (t : Int) < (b.types.length : Int)) := Lib.hid ⟨by omega, by omega, by omega, by omega⟩
    have HO : Hid (∀ X, E.Ph b W1 ks ((s : Int) + t) X → Calls Tryz.prog 214 #[.pointer (some ⟨E.r, 0, none⟩), .int .i64 ta.reg, .int .i64 tb.reg] X fun e' X' => e' = .returned (.bool (outB b.outl b.regions.length ta.reg tb.reg)) ∧ E.Ph b W1 ks ((s : Int) + t) X') := Lib.hid (fun X hX => by
      refine (outl_any b.outl b.regions.length ta.reg tb.reg E.r X (HEE.out.rel.keep (HC.out X hX).2.2.2.2.2) HEE.out.ok.pairs (by have := HEE.out.ok.nreg; omega) HEE.out.ok.nout).mono ?_
      rintro e' X' ⟨rfl, hb⟩
      exact ⟨rfl, hX.keep hb⟩)
    obtain ⟨z1, z2, z3, z4⟩ : W1.cell? ⟨E.pf, 0, none⟩ = some E.F ∧ W1.cell? ⟨E.pr, 0, none⟩ = some (.pointer (some ⟨E.r, 0, none⟩)) ∧ W1.cell? ⟨E.pk, 0, none⟩ = some (.map (some E.M)) ∧ True := ⟨hst1.f, hst1.r, hst1.k, trivial⟩
    clear hst1 z4
    unfold SubE.F at z1
    have hc := HCASE.out
    clear HCASE
    have hall : ¬ (p1 = true ∧ p2 = true ∧ p3 = true ∧ p4 = true) := by rintro ⟨rfl, rfl, rfl, rfl⟩; simp at hc
    have HL3 : Hid (∀ q : Bool, q = (p1 && p2 && p3) → subB b s t = (q && (((ta.flds.drop 0).zip (tb.flds.drop 0)).all (fun p => subB b p.1 p.2))) ∧ (q = true → ta.flds.length = tb.flds.length)) := Lib.hid (fun q hq => HLAW.out q (fun h1 h2 h3 h4 => absurd ⟨h1, h2, h3, h4⟩ hall) (fun _ => hq))
    clear HLAW HO HP1 HP2 HP3 HP4
    have HPZ := HPH
    rcases (show p1 = false ∨ (p1 = true ∧ p2 = false) ∨ (p1 = true ∧ p2 = true ∧ p3 = false) by revert hc; cases p1 <;> cases p2 <;> cases p3 <;> simp) with rfl | ⟨rfl, rfl⟩ | ⟨rfl, rfl, rfl⟩
    · have HV := Lib.hid (HL3.out false rfl)
      clear hall HL3 hc
      go_wp2_with fail
      have HVV : Hid (subB b s t = false) := Lib.hid (by rw [HV.out.1]; rfl); (try clear HCALL); (try clear HSS); (try clear HE1); (try clear HE2);  (try clear HO); (try clear HL2); (try clear HLAW); go_loopg [9, 13] 0 (fun gk v i wr => v = .bool false ∧ i = .int .i64 0 ∧ Hid (E.Ph b W1 ks ((s : Int) + t) wr)); (case atStart => exact ⟨rfl, rfl, HPZ⟩); (case round => (obtain ⟨rfl, rfl, HPZ⟩ := hrel; obtain ⟨kz, hstz, hnz, hgz⟩ := HPZ.out; have HSZ := Lib.hid hstz; have HNZ := Lib.hid hnz; have HGZ := Lib.hid hgz; have hkz := hstz.k; clear hnz hgz; go_wp2_with (at_mapUpdate; refine wpList_storeM _ rfl _ _ _ 299 rfl 79 3 4 arrP Tryz.underlying3 progN Tryz.underlying299 _ _ _ rfl hstz.memo (hstz.lt HEE.out) _ _ rfl wfs wft (by rw [HVV.out]; rfl) ?_; intro w9 hm9 hg9; have HM9 := Lib.hid hm9; have HG9 := Lib.hid hg9; clear hm9 hg9); clear hstz; go_ret; refine ⟨?_, SubE.fin HEE.out HM.out HR.out HB1.out HSZ.out HNZ.out HGZ.out HM9.out HG9.out⟩; rw [HVV.out]; rfl))
    · have HV := Lib.hid (HL3.out false rfl)
      clear hall HL3 hc
      go_wp2_with fail
      have HVV : Hid (subB b s t = false) := Lib.hid (by rw [HV.out.1]; rfl); (try clear HCALL); (try clear HSS); (try clear HE1); (try clear HE2);  (try clear HO); (try clear HL2); (try clear HLAW); go_loopg [9, 13] 0 (fun gk v i wr => v = .bool false ∧ i = .int .i64 0 ∧ Hid (E.Ph b W1 ks ((s : Int) + t) wr)); (case atStart => exact ⟨rfl, rfl, HPZ⟩); (case round => (obtain ⟨rfl, rfl, HPZ⟩ := hrel; obtain ⟨kz, hstz, hnz, hgz⟩ := HPZ.out; have HSZ := Lib.hid hstz; have HNZ := Lib.hid hnz; have HGZ := Lib.hid hgz; have hkz := hstz.k; clear hnz hgz; go_wp2_with (at_mapUpdate; refine wpList_storeM _ rfl _ _ _ 299 rfl 79 3 4 arrP Tryz.underlying3 progN Tryz.underlying299 _ _ _ rfl hstz.memo (hstz.lt HEE.out) _ _ rfl wfs wft (by rw [HVV.out]; rfl) ?_; intro w9 hm9 hg9; have HM9 := Lib.hid hm9; have HG9 := Lib.hid hg9; clear hm9 hg9); clear hstz; go_ret; refine ⟨?_, SubE.fin HEE.out HM.out HR.out HB1.out HSZ.out HNZ.out HGZ.out HM9.out HG9.out⟩; rw [HVV.out]; rfl))
    · have HV := Lib.hid (HL3.out false rfl)
      clear hall HL3 hc
      go_wp2_with fail
      have HVV : Hid (subB b s t = false) := Lib.hid (by rw [HV.out.1]; rfl); (try clear HCALL); (try clear HSS); (try clear HE1); (try clear HE2);  (try clear HO); (try clear HL2); (try clear HLAW); go_loopg [9, 13] 0 (fun gk v i wr => v = .bool false ∧ i = .int .i64 0 ∧ Hid (E.Ph b W1 ks ((s : Int) + t) wr)); (case atStart => exact ⟨rfl, rfl, HPZ⟩); (case round => (obtain ⟨rfl, rfl, HPZ⟩ := hrel; obtain ⟨kz, hstz, hnz, hgz⟩ := HPZ.out; have HSZ := Lib.hid hstz; have HNZ := Lib.hid hnz; have HGZ := Lib.hid hgz; have hkz := hstz.k; clear hnz hgz; go_wp2_with (at_mapUpdate; refine wpList_storeM _ rfl _ _ _ 299 rfl 79 3 4 arrP Tryz.underlying3 progN Tryz.underlying299 _ _ _ rfl hstz.memo (hstz.lt HEE.out) _ _ rfl wfs wft (by rw [HVV.out]; rfl) ?_; intro w9 hm9 hg9; have HM9 := Lib.hid hm9; have HG9 := Lib.hid hg9; clear hm9 hg9); clear hstz; go_ret; refine ⟨?_, SubE.fin HEE.out HM.out HR.out HB1.out HSZ.out HNZ.out HGZ.out HM9.out HG9.out⟩; rw [HVV.out]; rfl))
end Go.Proofs.YtbnljlpefpllcaaGreatDoor
namespace Go.Proofs.YtbnljlpefpllcaaGreatDoor
open Go Go.RowKit Go.Maps Go.WideMaps
set_option maxRecDepth 100000 in
set_option maxHeartbeats 8000000 in
theorem sub_found (E : SubE) (b : Bdy) (HE : E.Ok b) (s t : Nat) (hs : s < b.types.length) (ht : t < b.types.length) (W : World) (ks : List (Int × Int)) (h : E.St b W ks) (hmem : ((s : Int), (t : Int)) ∈ ks) :
    Calls Tryz.prog 231 #[.int .i64 s, .int .i64 t, .pointer (some ⟨E.pk, 0, none⟩), .pointer (some ⟨E.pl, 0, none⟩), .pointer (some ⟨E.pr, 0, none⟩), .pointer (some ⟨E.pf, 0, none⟩)] W fun e' W' => e' = .returned (.bool (subB b s t)) ∧ E.Q b W ks s t W' := by
    have hn := HE.ok.ntyp
    have hlen := h.lt HE
    have wfs : (Lit.int .i64 (s : Int)).wf = true := WalkArith.wf_i64 (by omega)
    have wft : (Lit.int .i64 (t : Int)).wf = true := WalkArith.wf_i64 (by omega)
    have x1 := h.k
    have x2 := h.l
    have x3 := h.r
    have x4 := h.f
    have hmemo := h.memo
    have HST := Lib.hid h
    have HEE := Lib.hid HE
    have hle := HE.ty.le
    have hbig := HE.ty.big
    have HMD : Hid (decide (((s : Int), (t : Int)) ∈ ks) = true) := Lib.hid (by simp [hmem])
    have HM := Lib.hid hmem
    clear h HE hmem
    go_enter Tryz.func231, Tryz.ntmps231
    go_wp2_with (at_lookup; refine wpList_lookM _ rfl _ _ 299 rfl 79 3 4 arrP Tryz.underlying3 progN Tryz.underlying299 (zeroB3 _) _ _ _ rfl hmemo _ _ rfl wfs wft ?_; rw [if_pos HM.out, HMD.out])
    go_ret
    exact ⟨rfl, ks, HST.out, fun p hp => Or.inl hp, grown_of_below (Below.refl _ _) _⟩
theorem sub1_any (E : SubE) (b : Bdy) (HE : E.Ok b) : ∀ m : Nat, E.Rec b m
  | 0 => fun _ _ h => absurd h (by omega)
  | m + 1 => fun s t hm hs ht W ks h => by
    have HR := sub1_any E b HE m
    by_cases hmem : ((s : Int), (t : Int)) ∈ ks
    · exact sub_found E b HE s t hs ht W ks h hmem
    obtain ⟨p, hp⟩ : ∃ p, ((b.types[s].kind == b.types[t].kind) && (b.types[s].mu == b.types[t].mu) && ((b.types[s].flds.length : Int) == (b.types[t].flds.length : Int))) = p := ⟨_, rfl⟩
    obtain ⟨q, hq⟩ : ∃ q, (b.types[s].kind == 3) = q := ⟨_, rfl⟩
    cases p
    · exact sub_diff E b HE m HR s t hm hs ht W ks h hmem hp
    · cases q
      · exact sub_tup E b HE m HR s t hm hs ht W ks h hmem (by rw [hp, hq]; rfl)
      · exact sub_ref E b HE m HR s t hm hs ht W ks h hmem (by rw [hp, hq]; rfl)
end Go.Proofs.YtbnljlpefpllcaaGreatDoor
namespace Go.Proofs.YtbnljlpefpllcaaGreatDoor
open Go Go.RowKit
set_option maxRecDepth 100000 in
set_option maxHeartbeats 4000000 in
theorem kindOf_any (b : Bdy) (bh : BH) (r : Nat) (o : Opd) (A : Option Addr) (c : Nat) (w : World) (H : BdAt w b bh) (hp : Slc 2 RPj w A c o.place.proj) (hok : Okay b.types b.locals)
    (hty : o.kind ≠ 2 → o.kind ≠ 3 → o.kind ≠ 4 → (tyB b o.place).2 = 0) :
    Calls Tryz.prog 130 #[.agg (ckC b bh r).toArray, .agg (opC o A c).toArray] w fun e' w' => e' = .returned (.int .i64 (kindO b o)) ∧ Below w.heap.size w w' := by
  have HT := Lib.hid (fun W (hb : Below w.heap.size w W) => ctypeOf_any b bh r o.place A c W (H.keep hb) (hp.keep RPj.keeps hb) hok)
  have HQ : Hid (kindO b o = if o.kind = 2 then 2 else if o.kind = 3 then 1 else if o.kind = 4 then 0 else kindT b (tyB b o.place).1) := Lib.hid rfl
  generalize kindO b o = q at HQ ⊢
  have HS := Lib.hid H.typ
  have hin := tyOf_ok hok (l := o.place.loc) (ps := o.place.proj)
  change (tyB b o.place).2 = 0 → 0 ≤ (tyB b o.place).1 ∧ (tyB b o.place).1 < b.types.length at hin
  generalize tyB b o.place = t at HT HQ hty hin
  obtain ⟨t, e⟩ := t
  simp only at HQ hty hin
  clear H hp hok
  unfold ckC at HT ⊢
  unfold opC
  obtain ⟨A3, h3⟩ : ∃ x, bh.A3 = x := ⟨_, rfl⟩
  rw [h3] at HS HT ⊢
  clear h3
  by_cases h2 : o.kind = 2
  · have HF : Hid (q = 2) := Lib.hid (by rw [HQ.out, if_pos h2])
    rw [h2]
    clear HQ HT HS hty hin
    go_enter Tryz.func130, Tryz.ntmps130
    go_wp2_with fail
    go_ret
    exact ⟨by rw [HF.out]; rfl, by (repeat (first | exact Below.refl _ _ | assumption | refine Below.alloc ?_ (by first | omega | (simp; done) | (simp; omega)) _ | refine below_drewN ?_ _ | refine Below.drew ?_ | refine Below.setCell ?_ (by first | omega | (simp; done) | (simp; omega)) _))⟩
  by_cases h3 : o.kind = 3
  · have HF : Hid (q = 1) := Lib.hid (by rw [HQ.out, if_neg h2, if_pos h3])
    rw [h3]
    clear HQ HT HS hty hin
    go_enter Tryz.func130, Tryz.ntmps130
    go_wp2_with fail
    go_ret
    exact ⟨by rw [HF.out]; rfl, by (repeat (first | exact Below.refl _ _ | assumption | refine Below.alloc ?_ (by first | omega | (simp; done) | (simp; omega)) _ | refine below_drewN ?_ _ | refine Below.drew ?_ | refine Below.setCell ?_ (by first | omega | (simp; done) | (simp; omega)) _))⟩
  by_cases h4 : o.kind = 4
  · have HF : Hid (q = 0) := Lib.hid (by rw [HQ.out, if_neg h2, if_neg h3, if_pos h4])
    rw [h4]
    clear HQ HT HS hty hin
    go_enter Tryz.func130, Tryz.ntmps130
    go_wp2_with fail
    go_ret
    exact ⟨by rw [HF.out]; rfl, by (repeat (first | exact Below.refl _ _ | assumption | refine Below.alloc ?_ (by first | omega | (simp; done) | (simp; omega)) _ | refine below_drewN ?_ _ | refine Below.drew ?_ | refine Below.setCell ?_ (by first | omega | (simp; done) | (simp; omega)) _))⟩
  obtain rfl := hty h2 h3 h4
  obtain ⟨g1, g2⟩ := hin rfl
  obtain ⟨k, rfl⟩ := Int.eq_ofNat_of_zero_le g1
  have hlt : k < b.types.length := by omega
  obtain ⟨bb, oo, rfl, hbb, hx⟩ := HS.out.sl.at_ hlt
  have HF : Hid (q = b.types[k].kind) := Lib.hid (by rw [HQ.out, if_neg h2, if_neg h3, if_neg h4, kindT]; simp [hlt])
  generalize b.types[k] = ty at hx HF
  obtain ⟨r1, -⟩ := hx
  have e2 : (o.kind == 2) = false := by simp [h2]
  have e3 : (o.kind == 3) = false := by simp [h3]
  have e4 : (o.kind == 4) = false := by simp [h4]
  clear HQ HS hty hin h2 h3 h4 g1
  go_enter Tryz.func130, Tryz.ntmps130
  go_wp2_with (go_at_call 132; refine (HT.out _ (bel2 _ _ _)).mono ?_; rintro e' w1 ⟨rfl, hb1⟩; have HB := Lib.hid ((bel2 _ _ _).trans (hb1.mono (bel2 _ _ _).size)); obtain ⟨y, -⟩ := cells_two hb1; have y3 := y 3 _ rfl; have x1 := cell_keep HB.out r1; clear y hb1)
  go_ret
  exact ⟨by rw [HF.out]; rfl, HB.out⟩
end Go.Proofs.YtbnljlpefpllcaaGreatDoor
namespace Go.Proofs.YtbnljlpefpllcaaGreatDoor
open Go Go.RowKit
set_option maxRecDepth 100000 in
set_option maxHeartbeats 8000000 in
theorem operand_any (b : Bdy) (bh : BH) (r : Nat) (o : Opd) (A : Option Addr) (c : Nat) (w : World) (H : BdAt w b bh) (hp : Slc 2 RPj w A c o.place.proj) (hok : Okay b.types b.locals)
    (hcop : ∀ W, Below w.heap.size w W → ∀ i : Int, 0 ≤ i → i < b.types.length → Calls Tryz.prog 180 #[.slice bh.A3 b.types.length bh.c3, .int .i64 i] W fun e' w' => e' = .returned (.bool (copB b.types i)) ∧ Below W.heap.size W w') :
    Calls Tryz.prog 128 #[.agg (ckC b bh r).toArray, .agg (opC o A c).toArray] w fun e' w' => e' = .returned (.int .i64 (opE b o)) ∧ Below w.heap.size w w' := by
  have HT := Lib.hid (fun W (hb : Below w.heap.size w W) => ctypeOf_any b bh r o.place A c W (H.keep hb) (hp.keep RPj.keeps hb) hok)
  have HZ := Lib.hid (fun W => zero_any o.place A c W)
  have HD := Lib.hid (fun W (hb : Below w.heap.size w W) => hasD_any o.place 0 A c W (hp.keep RPj.keeps hb))
  have HQ : Hid (opE b o = if o.kind < 0 ∨ 4 < o.kind then 14 else if (o.kind ≠ 2 ∧ o.kind ≠ 3 ∧ o.n ≠ 0) ∨ (1 < o.kind ∧ zeroP o.place = false) then 2 else if o.kind = 3 ∧ o.n ≠ 0 ∧ o.n ≠ 1 then 3 else if 1 < o.kind then 0 else if (tyB b o.place).2 ≠ 0 then (tyB b o.place).2 else if o.kind = 0 then fail22 (!copB b.types (tyB b o.place).1) else fail22 (hasD o.place.proj 0)) := Lib.hid rfl
  have hin := tyOf_ok hok (l := o.place.loc) (ps := o.place.proj)
  change (tyB b o.place).2 = 0 → 0 ≤ (tyB b o.place).1 ∧ (tyB b o.place).1 < b.types.length at hin
  have HIN := Lib.hid (fun W (hb : Below w.heap.size w W) (h : (tyB b o.place).2 = 0) => hcop W hb (tyB b o.place).1 (hin h).1 (hin h).2)
  clear hcop hin
  generalize opE b o = q at HQ ⊢
  generalize zeroP o.place = z at HZ HQ
  generalize hasD o.place.proj 0 = hd at HD HQ
  generalize tyB b o.place = t at HT HQ HIN
  obtain ⟨t, e⟩ := t
  simp only at HQ HIN
  generalize copB b.types t = cp at HIN HQ
  obtain ⟨k, pl, n⟩ := o
  simp only at HQ HT HZ HD
  clear H hp hok
  unfold ckC at HT ⊢
  unfold opC
  simp only
  by_cases h01 : k = 0 ∨ k = 1
  · by_cases hn : n = 0
    · subst hn
      by_cases he : e = 0
      · subst he
        rcases h01 with rfl | rfl
        · have HF : Hid (q = fail22 (!cp)) := Lib.hid (by rw [HQ.out]; simp)
          have HC := Lib.hid (fun W hb => HIN.out W hb rfl)
          clear HQ HZ HD HIN
          go_enter Tryz.func128, Tryz.ntmps128
          go_wp2_with (first
            | (go_at_call 132; refine (HT.out _ (bel2 _ _ _)).mono ?_; rintro e' w1 ⟨rfl, hb1⟩; have HB := Lib.hid ((bel2 _ _ _).trans (hb1.mono (bel2 _ _ _).size)); obtain ⟨z, y⟩ := cells_two hb1; have z3 := z 3 _ rfl; have y0 := y 0 _ rfl; have y1 := y 1 _ rfl; have y2 := y 2 _ rfl; have y3 := y 3 _ rfl; clear y z hb1)
            | (go_at_call 180; refine (HC.out _ HB.out).mono ?_; rintro e' w2 ⟨rfl, hb2⟩; have HB2 := Lib.hid (HB.out.trans (hb2.mono HB.out.size)); clear hb2)
            | (go_at_call 129; refine (failed_any _ _).mono ?_; rintro e' w3 ⟨rfl, hw⟩; obtain rfl := hw.symm))
          go_ret
          exact ⟨by rw [HF.out]; rfl, HB2.out⟩
        · have HF : Hid (q = fail22 hd) := Lib.hid (by rw [HQ.out]; simp)
          clear HQ HZ HIN
          go_enter Tryz.func128, Tryz.ntmps128
          go_wp2_with (first
            | (go_at_call 132; refine (HT.out _ (bel2 _ _ _)).mono ?_; rintro e' w1 ⟨rfl, hb1⟩; have HB := Lib.hid ((bel2 _ _ _).trans (hb1.mono (bel2 _ _ _).size)); obtain ⟨z, y⟩ := cells_two hb1; have z3 := z 3 _ rfl; have y0 := y 0 _ rfl; have y1 := y 1 _ rfl; have y2 := y 2 _ rfl; have y3 := y 3 _ rfl; clear y z hb1)
            | (go_at_call 133; refine (HD.out _ HB.out).mono ?_; rintro e' w2 ⟨rfl, hb2⟩; have HB2 := Lib.hid (HB.out.trans (hb2.mono HB.out.size)); clear hb2)
            | (go_at_call 129; refine (failed_any _ _).mono ?_; rintro e' w3 ⟨rfl, hw⟩; obtain rfl := hw.symm))
          go_ret
          exact ⟨by rw [HF.out]; rfl, HB2.out⟩
      · have HF : Hid (q = e) := Lib.hid (by rw [HQ.out]; rcases h01 with rfl | rfl <;> simp [he])
        have e5 : (e != 0) = true := by simp [he]
        clear HQ HZ HIN HD
        rcases h01 with rfl | rfl
        all_goals
          go_enter Tryz.func128, Tryz.ntmps128
          go_wp2_with (go_at_call 132; refine (HT.out _ (bel2 _ _ _)).mono ?_; rintro e' w1 ⟨rfl, hb1⟩; have HB := Lib.hid ((bel2 _ _ _).trans (hb1.mono (bel2 _ _ _).size)); obtain ⟨z, y⟩ := cells_two hb1; have z3 := z 3 _ rfl; have y0 := y 0 _ rfl; have y1 := y 1 _ rfl; have y2 := y 2 _ rfl; have y3 := y 3 _ rfl; clear y z hb1)
          go_ret
          exact ⟨by rw [HF.out]; rfl, HB.out⟩
    · have HF : Hid (q = 2) := Lib.hid (by rw [HQ.out]; rcases h01 with rfl | rfl <;> simp [hn])
      have e5 : (n != 0) = true := by simp [hn]
      clear HQ HZ HIN HD HT
      rcases h01 with rfl | rfl
      all_goals
        go_enter Tryz.func128, Tryz.ntmps128
        go_wp2_with fail
        go_ret
        exact ⟨by rw [HF.out]; rfl, by (repeat (first | exact Below.refl _ _ | assumption | refine Below.alloc ?_ (by first | omega | (simp; done) | (simp; omega)) _ | refine below_drewN ?_ _ | refine Below.drew ?_ | refine Below.setCell ?_ (by first | omega | (simp; done) | (simp; omega)) _))⟩
  · have HK : Hid (¬ (k = 0 ∨ k = 1)) := Lib.hid h01
    have e0 : (k == 0) = false := by simp; omega
    have e1 : (k == 1) = false := by simp; omega
    clear h01 HT HD HIN
    go_enter Tryz.func128, Tryz.ntmps128
    go_wp2_with (go_at_call 124; refine (HZ.out _).mono ?_; rintro e' w1 ⟨rfl, hb1⟩; have HB := Lib.hid ((bel2 _ _ _).trans (hb1.mono (bel2 _ _ _).size)); obtain ⟨-, y⟩ := cells_two hb1; have y0 := y 0 _ rfl; have y1 := y 1 _ rfl; have y2 := y 2 _ rfl; have y3 := y 3 _ rfl; clear y hb1)
    all_goals
      go_ret
      refine ⟨?_, by first | exact HB.out | (repeat (first | exact Below.refl _ _ | assumption | refine Below.alloc ?_ (by first | omega | (simp; done) | (simp; omega)) _ | refine below_drewN ?_ _ | refine Below.drew ?_ | refine Below.setCell ?_ (by first | omega | (simp; done) | (simp; omega)) _))⟩
      have HF := HQ.out
      have hk := HK.out
      try clear y0 y1 y2 y3
      clear HQ HZ HK
      rw [HF]
      refine congrArg (fun i => Ending.returned (Value.int .i64 i)) ?_
      clear HF
      have b2 : (k == 2) = decide (k = 2) := by rw [Bool.eq_iff_iff]; simp
      have b3 : (k == 3) = decide (k = 3) := by rw [Bool.eq_iff_iff]; simp
      have b4 : (k != 4) = decide (k ≠ 4) := by rw [Bool.eq_iff_iff]; simp
      have b5 : (n != 0) = decide (n ≠ 0) := by rw [Bool.eq_iff_iff]; simp
      have b6 : (n != 1) = decide (n ≠ 1) := by rw [Bool.eq_iff_iff]; simp
      simp only [b2, b3, b4, b5, b6] at *
      clear b2 b3 b4 b5 b6
      grind
end Go.Proofs.YtbnljlpefpllcaaGreatDoor
namespace Go.Proofs.YtbnljlpefpllcaaGreatDoor
open Go Go.RowKit
set_option maxRecDepth 100000 in
set_option maxHeartbeats 8000000 in
theorem fits_any (b : Bdy) (bh : BH) (r : Nat) (o : Opd) (f : Nat) (A : Option Addr) (c : Nat) (w : World) (H : BdAt w b bh) (hp : Slc 2 RPj w A c o.place.proj) (hok : Okay b.types b.locals)
    (hty : o.kind ≠ 2 → o.kind ≠ 3 → o.kind ≠ 4 → (tyB b o.place).2 = 0) (hf : f < b.types.length)
    (hsub : ∀ W, Below w.heap.size w W → ∀ i : Int, 0 ≤ i → i < b.types.length → Calls Tryz.prog 218 #[.pointer (some ⟨r, 0, none⟩), .slice bh.A3 b.types.length bh.c3, .int .i64 i, .int .i64 f] W fun e' w' => e' = .returned (.bool (subB b i f)) ∧ Below W.heap.size W w') :
    Calls Tryz.prog 181 #[.agg (ckC b bh r).toArray, .agg (opC o A c).toArray, .int .i64 f] w fun e' w' => e' = .returned (.bool (fitsO b o f)) ∧ Below w.heap.size w w' := by
  have HT := Lib.hid (fun W (hb : Below w.heap.size w W) => ctypeOf_any b bh r o.place A c W (H.keep hb) (hp.keep RPj.keeps hb) hok)
  have HK := Lib.hid (fun W (hb : Below w.heap.size w W) => kindOf_any b bh r o A c W (H.keep hb) (hp.keep RPj.keeps hb) hok hty)
  have HQ : Hid (fitsO b o f = if o.kind ≠ 0 ∧ o.kind ≠ 1 then decide (kindO b o = kindT b f) else subB b (tyB b o.place).1 f) := Lib.hid rfl
  have HS := Lib.hid H.typ
  have hin := tyOf_ok hok (l := o.place.loc) (ps := o.place.proj)
  change (tyB b o.place).2 = 0 → 0 ≤ (tyB b o.place).1 ∧ (tyB b o.place).1 < b.types.length at hin
  have HIN := Lib.hid (fun W (hb : Below w.heap.size w W) (h : (tyB b o.place).2 = 0) => hsub W hb (tyB b o.place).1 (hin h).1 (hin h).2)
  clear hsub hin
  generalize fitsO b o f = q at HQ ⊢
  generalize tyB b o.place = t at HT HQ HIN hty
  generalize kindO b o = ko at HK HQ
  obtain ⟨t, e⟩ := t
  simp only at HQ HIN hty
  clear H hp hok
  unfold ckC at HT HK ⊢
  unfold opC at HK ⊢
  by_cases h01 : o.kind = 0 ∨ o.kind = 1
  · obtain rfl : e = 0 := hty (by omega) (by omega) (by omega)
    have HF : Hid (q = subB b t f) := Lib.hid (by rw [HQ.out, if_neg (by omega)])
    have HC := Lib.hid (fun W hb => HIN.out W hb rfl)
    clear HQ HIN HK HS hty
    generalize subB b t f = sb at HF HC
    obtain ⟨k, hk⟩ : ∃ k, o.kind = k := ⟨_, rfl⟩
    rw [hk] at h01 ⊢
    clear hk
    rcases h01 with rfl | rfl
    all_goals
      go_enter Tryz.func181, Tryz.ntmps181
      go_wp2_with (first
        | (go_at_call 132; refine (HT.out _ (bel2 _ _ _)).mono ?_; rintro e' w1 ⟨rfl, hb1⟩; have HB := Lib.hid ((bel2 _ _ _).trans (hb1.mono (bel2 _ _ _).size)); obtain ⟨y, -⟩ := cells_two hb1; have y3 := y 3 _ rfl; have y7 := y 7 _ rfl; clear y hb1)
        | (go_at_call 218; refine (HC.out _ HB.out).mono ?_; rintro e' w2 ⟨rfl, hb2⟩; have HB2 := Lib.hid (HB.out.trans (hb2.mono HB.out.size)); clear hb2))
      go_ret
      exact ⟨by rw [HF.out]; rfl, HB2.out⟩
  · have HF : Hid (q = decide (ko = kindT b f)) := Lib.hid (by rw [HQ.out, if_pos ⟨fun h => h01 (Or.inl h), fun h => h01 (Or.inr h)⟩])
    have e0 : (o.kind != 0) = true := by simp; omega
    have e1 : (o.kind != 1) = true := by simp; omega
    clear HQ HIN HT hty h01
    obtain ⟨A3, h3⟩ : ∃ x, bh.A3 = x := ⟨_, rfl⟩
    rw [h3] at HS HK ⊢
    clear h3
    obtain ⟨bb, oo, rfl, hbb, hx⟩ := HS.out.sl.at_ hf
    have HF2 : Hid (q = decide (ko = b.types[f].kind)) := Lib.hid (by rw [HF.out, kindT]; simp [hf])
    generalize b.types[f] = ty at hx HF2
    obtain ⟨r1, -⟩ := hx
    clear HS HF
    have HB1 := Lib.hid (fun (W : World) (h : Below w.heap.size w W) => h.drew)
    go_enter Tryz.func181, Tryz.ntmps181
    go_wp2_with fail
    have HB2 := Lib.hid (HB1.out _ (bel2 w (.cells #[.string b.name, .slice bh.A1 b.regions.length bh.c1, .slice bh.A2 b.outl.length bh.c2, .slice (some ⟨bb, oo, none⟩) b.types.length bh.c3, .slice bh.A4 b.locals.length bh.c4, .int .i64 b.args, .slice bh.A5 b.blocks.length bh.c5, .pointer (some ⟨r, 0, none⟩)] 137) (.cells #[.int .i64 o.kind, .int .i64 o.place.loc, .slice A o.place.proj.length c, .int .i64 o.n] 175)))
    obtain ⟨y, z⟩ := cells_two (w := w) (l1 := [.string b.name, .slice bh.A1 b.regions.length bh.c1, .slice bh.A2 b.outl.length bh.c2, .slice (some ⟨bb, oo, none⟩) b.types.length bh.c3, .slice bh.A4 b.locals.length bh.c4, .int .i64 b.args, .slice bh.A5 b.blocks.length bh.c5, .pointer (some ⟨r, 0, none⟩)]) (l2 := [.int .i64 o.kind, .int .i64 o.place.loc, .slice A o.place.proj.length c, .int .i64 o.n]) (t1 := 137) (t2 := 175) ((Below.refl _ _).drew)
    have hS := And.intro y (And.intro z (cell_keep HB2.out r1))
    clear y z
    refine wp_region_o (S := fun X => (∀ i v, [.string b.name, .slice bh.A1 b.regions.length bh.c1, .slice bh.A2 b.outl.length bh.c2, .slice (some ⟨bb, oo, none⟩) b.types.length bh.c3, .slice bh.A4 b.locals.length bh.c4, .int .i64 b.args, .slice bh.A5 b.blocks.length bh.c5, .pointer (some ⟨r, 0, none⟩)][i]? = some v → X.cell? ⟨w.heap.size, i, none⟩ = some v) ∧ (∀ i v, [.int .i64 o.kind, .int .i64 o.place.loc, .slice A o.place.proj.length c, .int .i64 o.n][i]? = some v → X.cell? ⟨w.heap.size + 1, i, none⟩ = some v) ∧ X.cell? ⟨bb, oo + f * 5, none⟩ = some (.int .i64 ty.kind)) [0, 1, 3, 4, 5, 6, 7, 8, 9, 2, 10, 11] (by kernel_rfl) ?_
    (iterate 9 (refine wpO_take (v := ?_) (by kernel_rfl) (fun _ _ _ h => h) (Or.inl ⟨by rfl, ?_⟩) hS ?_; rotate_left; (next => (rintro X ⟨hX, hY, hZ⟩; have s0 := hX 0 _ rfl; have s1 := hX 1 _ rfl; have s2 := hX 2 _ rfl; have s3 := hX 3 _ rfl; have s4 := hX 4 _ rfl; have s5 := hX 5 _ rfl; have s6 := hX 6 _ rfl; have s7 := hX 7 _ rfl; have u0 := hY 0 _ rfl; have u1 := hY 1 _ rfl; have u2 := hY 2 _ rfl; have u3 := hY 3 _ rfl; (try simp only [List.getD_cons_zero, List.getD_cons_succ, List.getElem?_toArray, List.getElem?_cons_zero, List.getElem?_cons_succ, Option.getD_some]); go_simp; rfl)); simp only [List.getD_cons_zero, List.getD_cons_succ, List.getElem?_toArray, List.getElem?_cons_zero, List.getElem?_cons_succ, Option.getD_some, Act.put, List.setIfInBounds_toArray, List.set_cons_zero, List.set_cons_succ]))
    (refine wpO_one (by kernel_rfl) (fun K1 hK1 => ?_); simp only [List.getD_cons_zero, List.getD_cons_succ, List.getElem?_toArray, List.getElem?_cons_zero, List.getElem?_cons_succ, Option.getD_some, Act.put, List.setIfInBounds_toArray, List.set_cons_zero, List.set_cons_succ]; rw [if_pos (by rfl)]; go_simp)
    refine (HK.out _ HB2.out).mono ?_
    rintro e' w2 ⟨rfl, hb⟩
    replace hS := And.intro (fun i v hi => cell_keep hb (hS.1 i v hi)) (And.intro (fun i v hi => cell_keep hb (hS.2.1 i v hi)) (cell_keep hb hS.2.2))
    have HB3 := Lib.hid (HB2.out.trans (hb.mono HB2.out.size))
    clear hb
    refine hK1.out _ _ (fun _ => hS) ?_
    (iterate 2 (refine wpO_take (v := ?_) (by kernel_rfl) (fun _ _ _ h => h) (Or.inl ⟨by rfl, ?_⟩) hS ?_; rotate_left; (next => (rintro X -; (try simp only [List.getD_cons_zero, List.getD_cons_succ, List.getElem?_toArray, List.getElem?_cons_zero, List.getElem?_cons_succ, Option.getD_some]); go_simp; rfl)); simp only [List.getD_cons_zero, List.getD_cons_succ, List.getElem?_toArray, List.getElem?_cons_zero, List.getElem?_cons_succ, Option.getD_some, Act.put, List.setIfInBounds_toArray, List.set_cons_zero, List.set_cons_succ]))
    refine wpO_done (by kernel_rfl) ?_
    go_wp2_with fail
    go_ret
    exact ⟨by rw [HF2.out]; rfl, HB3.out⟩
end Go.Proofs.YtbnljlpefpllcaaGreatDoor
namespace Go.Proofs.YtbnljlpefpllcaaGreatDoor
open Go Go.RowKit Go.Maps Go.WideMaps
theorem sub_st (w : World) (b : Bdy) (A : Option Addr) (c r : Nat) (t0 t1 t2 t3 : TypeId) :
    SubE.St ⟨w, A, c, w.heap.size + 3, w.heap.size + 1, w.heap.size, w.heap.size + 4, w.heap.size + 2, r⟩ b (((((w.alloc (.cells #[.pointer (some ⟨r, 0, none⟩)] t0)).alloc (.cells #[.slice A b.types.length c] t1)).alloc (.map #[] 0)).alloc (.cells #[.map (some (w.heap.size + 2))] t2)).alloc (.cells #[SubE.F ⟨w, A, c, w.heap.size + 3, w.heap.size + 1, w.heap.size, w.heap.size + 4, w.heap.size + 2, r⟩] t3)) [] := by
  obtain ⟨F, hF⟩ : ∃ F, SubE.F ⟨w, A, c, w.heap.size + 3, w.heap.size + 1, w.heap.size, w.heap.size + 4, w.heap.size + 2, r⟩ = F := ⟨_, rfl⟩
  rw [hF]
  have keepA : ∀ (W W' : World) (p : Addr) (v : Value), Below W.heap.size W W' → W.cell? p = some v → W'.cell? p = some v := fun W W' p v hb h => cell_keep hb h
  refine ⟨by (repeat (first | exact Below.refl _ _ | assumption | refine Below.alloc ?_ (by first | omega | (simp; done) | (simp; omega)) _ | refine below_drewN ?_ _ | refine Below.drew ?_ | refine Below.setCell ?_ (by first | omega | (simp; done) | (simp; omega)) _)), ?_, ?_, ?_, ?_, ?_, by simp, by simp⟩
  · have := cells_new (((w.alloc (.cells #[.pointer (some ⟨r, 0, none⟩)] t0)).alloc (.cells #[.slice A b.types.length c] t1)).alloc (.map #[] 0)) [.map (some (w.heap.size + 2))] t2 0 _ rfl
    simp only [World.size_alloc] at this
    exact cell_keep ((Below.refl _ _).alloc (Nat.le_refl _) _) this
  · have := cells_new (w.alloc (.cells #[.pointer (some ⟨r, 0, none⟩)] t0)) [.slice A b.types.length c] t1 0 _ rfl
    simp only [World.size_alloc] at this
    exact cell_keep ((((Below.refl _ _).alloc (Nat.le_refl _) _).alloc (by simp) _).alloc (by simp) _) this
  · have := cells_new w [.pointer (some ⟨r, 0, none⟩)] t0 0 _ rfl
    exact cell_keep (((((Below.refl _ _).alloc (Nat.le_refl _) _).alloc (by simp) _).alloc (by simp) _).alloc (by simp) _) this
  · have := cells_new ((((w.alloc (.cells #[.pointer (some ⟨r, 0, none⟩)] t0)).alloc (.cells #[.slice A b.types.length c] t1)).alloc (.map #[] 0)).alloc (.cells #[.map (some (w.heap.size + 2))] t2)) [F] t3 0 _ rfl
    simp only [World.size_alloc] at this
    rw [hF]
    exact this
  · have := Memo.made ((w.alloc (.cells #[.pointer (some ⟨r, 0, none⟩)] t0)).alloc (.cells #[.slice A b.types.length c] t1)) Tryz.prog 79 (subB b)
    simp only [World.size_alloc] at this
    exact (this.alloc _).alloc _
set_option maxRecDepth 100000 in
set_option maxHeartbeats 8000000 in
theorem sub_any (b : Bdy) (A : Option Addr) (c r : Nat) (s t : Int) (w : World) (hs : Slc 5 RTy w A c b.types) (hok : DeclOk b) (hrel : Rel3 w r b.regions.length (relL b.outl)) :
    Calls Tryz.prog 218 #[.pointer (some ⟨r, 0, none⟩), .slice A b.types.length c, .int .i64 s, .int .i64 t] w fun e' w' => e' = .returned (.bool (subB b s t)) ∧ Below w.heap.size w w' := by
  have hle := hs.le
  have hbig := hs.big
  by_cases hr : 0 ≤ s ∧ s < (b.types.length : Int) ∧ 0 ≤ t ∧ t < (b.types.length : Int)
  case neg =>
    rw [subB_out (by omega)]
    clear hs hrel hok
    go_enter Tryz.func218, Tryz.ntmps218
    go_wp2_with fail
    all_goals first
      | (exfalso; omega)
      | (go_ret; exact ⟨rfl, by (repeat (first | exact Below.refl _ _ | assumption | refine Below.alloc ?_ (by first | omega | (simp; done) | (simp; omega)) _ | refine below_drewN ?_ _ | refine Below.drew ?_ | refine Below.setCell ?_ (by first | omega | (simp; done) | (simp; omega)) _))⟩)
  case pos =>
  obtain ⟨i, rfl⟩ := Int.eq_ofNat_of_zero_le hr.1
  obtain ⟨j, rfl⟩ := Int.eq_ofNat_of_zero_le hr.2.2.1
  have hi : i < b.types.length := by omega
  have hj : j < b.types.length := by omega
  have HE : SubE.Ok ⟨w, A, c, w.heap.size + 3, w.heap.size + 1, w.heap.size, w.heap.size + 4, w.heap.size + 2, r⟩ b := ⟨hs, hok, hrel, by simp, by simp, by simp, by simp, by simp⟩
  have HC := Lib.hid (fun W h => sub1_any _ b HE (i + j + 1) i j (by omega) hi hj W [] h)
  have hmm := @run_makeMap Tryz.prog
  have hst : ∀ (a : Addr) (fn : Fn) (f c : Array Value) (W : World), (store a (.func fn f c)).run Tryz.prog W = stored Tryz.prog W a (.func fn f c) .plain := fun a fn f c W => run_store Tryz.prog W a (.func fn f c) _ rfl
  clear hs HE hok hrel
  generalize hq : subB b (i : Int) (j : Int) = q at HC ⊢
  go_enter Tryz.func218, Tryz.ntmps218
  go_wp2_with (go_at_call 231; refine (HC.out _ (sub_st w b A c r _ _ _ _)).mono ?_; rintro e' w1 ⟨rfl, hq⟩; have HQ := Lib.hid hq; clear hq)
  all_goals first
    | (exfalso; omega)
    | (go_ret
       obtain ⟨ks, h1, -⟩ := HQ.out
       exact ⟨rfl, h1.low⟩)
/-- A body that is being checked: its declarations are valid, the relation lies at block r. -/
structure Ck (w : World) (b : Bdy) (bh : BH) (r : Nat) : Prop where
  at_ : BdAt w b bh
  ok : DeclOk b
  rel : Rel3 w r b.regions.length (relL b.outl)
theorem Ck.keep {w w' : World} {b : Bdy} {bh : BH} {r : Nat} (h : Ck w b bh r) (hb : Below w.heap.size w w') : Ck w' b bh r := ⟨h.at_.keep hb, h.ok, h.rel.keep hb⟩
theorem operand_c {b : Bdy} {bh : BH} {r : Nat} {w : World} (H : Ck w b bh r) (o : Opd) (A : Option Addr) (c : Nat) (hp : Slc 2 RPj w A c o.place.proj) :
    Calls Tryz.prog 128 #[.agg (ckC b bh r).toArray, .agg (opC o A c).toArray] w fun e' w' => e' = .returned (.int .i64 (opE b o)) ∧ Below w.heap.size w w' :=
  operand_any b bh r o A c w H.at_ hp H.ok.okay (fun W hb i h0 h1 => cop_any b.types H.ok.tyok H.ok.ntyp i bh.A3 bh.c3 W (H.keep hb).at_.typ)
theorem opE_ty {b : Bdy} {o : Opd} (h : opE b o = 0) : o.kind ≠ 2 → o.kind ≠ 3 → o.kind ≠ 4 → (tyB b o.place).2 = 0 := by
  intro h2 h3 h4
  unfold opE at h
  by_cases c1 : o.kind < 0 ∨ 4 < o.kind
  · rw [if_pos c1] at h; cases h
  rw [if_neg c1] at h
  by_cases c2 : (o.kind ≠ 2 ∧ o.kind ≠ 3 ∧ o.n ≠ 0) ∨ (1 < o.kind ∧ zeroP o.place = false)
  · rw [if_pos c2] at h; cases h
  rw [if_neg c2, if_neg (by omega), if_neg (by omega)] at h
  by_cases c3 : (tyB b o.place).2 ≠ 0
  · rw [if_pos c3] at h; exact h
  · simpa using c3
theorem kindOf_c {b : Bdy} {bh : BH} {r : Nat} {w : World} (H : Ck w b bh r) (o : Opd) (A : Option Addr) (c : Nat) (hp : Slc 2 RPj w A c o.place.proj) (ho : opE b o = 0) :
    Calls Tryz.prog 130 #[.agg (ckC b bh r).toArray, .agg (opC o A c).toArray] w fun e' w' => e' = .returned (.int .i64 (kindO b o)) ∧ Below w.heap.size w w' :=
  kindOf_any b bh r o A c w H.at_ hp H.ok.okay (opE_ty ho)
theorem fits_c {b : Bdy} {bh : BH} {r : Nat} {w : World} (H : Ck w b bh r) (o : Opd) (A : Option Addr) (c : Nat) (hp : Slc 2 RPj w A c o.place.proj) (ho : opE b o = 0) (f : Int) (h0 : 0 ≤ f) (hf : f < b.types.length) :
    Calls Tryz.prog 181 #[.agg (ckC b bh r).toArray, .agg (opC o A c).toArray, .int .i64 f] w fun e' w' => e' = .returned (.bool (fitsO b o f)) ∧ Below w.heap.size w w' := by
  obtain ⟨f, rfl⟩ := Int.eq_ofNat_of_zero_le h0
  exact fits_any b bh r o f A c w H.at_ hp H.ok.okay (opE_ty ho) (by omega) (fun W hb i _ _ => sub_any b bh.A3 bh.c3 r i f W (H.keep hb).at_.typ H.ok (H.keep hb).rel)
end Go.Proofs.YtbnljlpefpllcaaGreatDoor
