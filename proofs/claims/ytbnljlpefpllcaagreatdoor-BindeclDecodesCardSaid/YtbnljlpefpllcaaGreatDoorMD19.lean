/-
  Parts of the proof: V15B.
-/
import Derived.Test.YtbnljlpefpllcaaGreatDoorMD14
namespace Go.Proofs.YtbnljlpefpllcaaGreatDoor
open Go Go.RowKit Go.Maps
/-- A relation survives what happens to blocks that lie below its own. -/
theorem GI.but {w w' : World} {base rel c lo : Nat} {M : Bool → Nat} {n : Int} {L : Bool → Int → List Int} {F : Bool → Int → Value} (h : GI w base rel M c n L F) (hr : lo ≤ rel) (hm : ∀ s, lo ≤ M s) (hk : ∀ k, lo ≤ k → k < w.heap.size → w'.heap[k]? = w.heap[k]?) (hs : w.heap.size ≤ w'.heap.size) : GI w' base rel M c n L F :=
  ⟨(hk _ hr (Array.getElem?_eq_some_iff.1 h.head).1).trans h.head, fun s => (h.maps s).block (hk _ (hm s) (h.maps s).lt), fun s x => own_block (h.rows s x) (fun k h1 h2 _ => hk k (by have := h.lrel; omega) h2), h.apart, h.lrel, h.lmap, h.ne1, h.ne2, Nat.le_trans h.low hs⟩
def newP2 (n : Int) (pairs : List (Int × Int)) (w : World) (e' : Ending) (w' : World) : Prop := ∃ r0 M c F base, e' = .returned (.tuple #[.pointer (some ⟨r0, 0, none⟩), .int .i64 0]) ∧ GI w' base r0 M c n (relL pairs) F ∧ w.heap.size ≤ r0 ∧ (∀ s, w.heap.size ≤ M s) ∧ Below w.heap.size w w'
set_option maxRecDepth 100000 in
set_option maxHeartbeats 8000000 in
theorem new_ok2 (l : List (Int × Int)) (n : Int) (A : Option Addr) (c : Nat) (w : World) (hs : Slc 2 RPr w A c l) (hok : pairsC n l = 0) (hn : n ≤ 4611686018427387904) :
    Calls Tryz.prog 123 #[.slice A l.length c, .int .i64 n] w (newP2 n l w) := by
  obtain ⟨hlen, hall⟩ := pairsC_all hok
  have hle := hs.le
  have hbig := hs.big
  have HCH := Lib.hid (pairsC_any l n A c w hs)
  rw [hok] at HCH
  have HS := Lib.hid hs
  have HALL := Lib.hid hall
  clear hs hall hok
  obtain ⟨i0, hi, hz0, hz1, hz2⟩ := info_parts infoInt
  have hmm := @run_makeMap Tryz.prog
  go_enter Tryz.func123, Tryz.ntmps123
  go_wp2_with (go_at_call 120; refine HCH.out.mono ?_; rintro e' w1 ⟨rfl, hb1⟩; have HB1 := Lib.hid hb1; clear hb1)
  have HG0 : Hid (GI (((w1.alloc (.map #[] 0)).alloc (.map #[] 0)).alloc (.cells #[.int .i64 n, .map (some w1.heap.size), .map (some (w1.heap.size + 1))] 244)) (w1.heap.size + 3) (w1.heap.size + 2) (mapsAt w1.heap.size) 0 n (relL []) (fun _ _ => nilS)) := Lib.hid (by
    have b1 : Below (w1.alloc (.map #[] 0)).heap.size (w1.alloc (.map #[] 0)) ((w1.alloc (.map #[] 0)).alloc (.map #[] 0)) := (Below.refl _ _).alloc (Nat.le_refl _) _
    have b2 : Below ((w1.alloc (.map #[] 0)).alloc (.map #[] 0)).heap.size ((w1.alloc (.map #[] 0)).alloc (.map #[] 0)) (((w1.alloc (.map #[] 0)).alloc (.map #[] 0)).alloc (.cells #[.int .i64 n, .map (some w1.heap.size), .map (some (w1.heap.size + 1))] 244)) := (Below.refl _ _).alloc (Nat.le_refl _) _
    have hnil : mapF (fun _ => nilS) = fun _ => nilS := by funext x; cases x <;> (try rfl); rename_i q _; cases q <;> rfl
    refine ⟨?_, ?_, fun s x => ?_, fun s x s' x' g h => (by cases h), (by omega), fun s => (by cases s <;> simp [mapsAt]), fun s => (by cases s <;> simp [mapsAt]), (by simp [mapsAt]), (by simp)⟩
    · exact alloc_at _ _ _ (by simp)
    · intro s
      rw [hnil]
      cases s
      · exact (OwnV.made w1 _ _ _).block ((b2.block _ (by simp [mapsAt]; omega)).trans (b1.block _ (by simp [mapsAt])))
      · have := OwnV.made (w1.alloc (.map #[] 0)) Tryz.prog 3 nilS
        simp only [World.size_alloc] at this
        exact this.block (b2.block _ (by simp [mapsAt]))
    · have : relL [] s x = [] := by cases s <;> rfl
      rw [this]
      exact World.ownsRow_nil _ _ _ _)
  go_loopw [23] (fun v wr => ∃ (k : Nat) (F : Bool → Int → Value), k ≤ l.length ∧ v = .int .i64 k ∧ Hid (GI wr (w1.heap.size + 3) (w1.heap.size + 2) (mapsAt w1.heap.size) (2 * k) n (relL (l.take k)) F) ∧ Hid (Below w1.heap.size w1 wr)) (fun v _ => l.length - (intOf v).toNat)
  case atStart => exact ⟨0, _, by omega, rfl, HG0, Lib.hid ((((Below.refl _ _).alloc (Nat.le_refl _) _).alloc (by simp) _).alloc (by simp; omega) _)⟩
  case round =>
    clear HG0
    obtain ⟨k, F, hk, rfl, HG, hB⟩ := hrel
    by_cases hlt : k < l.length
    · obtain ⟨b, o, rfl, hb, hx⟩ := (HS.out.keep RPr.keeps (HB1.out.trans (hB.out.mono HB1.out.size))).sl.at_ hlt
      have HTK : Hid (relL (l.take (k + 1)) = updL (updL (relL (l.take k)) false l[k].1 (relL (l.take k) false l[k].1 ++ [l[k].2])) true l[k].2 (relL (l.take k) true l[k].2 ++ [l[k].1])) := Lib.hid (by rw [List.take_succ_eq_append_getElem hlt, relL_snoc])
      have hpp := HALL.out l[k] (List.getElem_mem hlt)
      have HL1 := Lib.hid (relL_len (l.take k) false l[k].1)
      have HL2 := Lib.hid (relL_len (l.take k) true l[k].2)
      rw [List.length_take] at HL1 HL2
      obtain ⟨p, hp⟩ : ∃ p, l[k] = p := ⟨_, rfl⟩
      rw [hp] at hx HTK hpp HL1 HL2
      obtain ⟨p1, p2⟩ := p
      obtain ⟨x0, x1⟩ := hx
      simp only at x0 x1 hpp HTK HL1 HL2
      clear hp
      generalize relL (l.take k) = L at HG HTK HL1 HL2
      have key1 := key3 (a := p1) (by omega) (by omega)
      have key2 := key3 (a := p2) (by omega) (by omega)
      obtain ⟨W, hW⟩ : ∃ W, wr.alloc (.cells #[.int .i64 p1, .int .i64 p2] 79) = W := ⟨_, rfl⟩
      have hbw : Below wr.heap.size wr W := by rw [← hW]; exact (Below.refl _ _).alloc (Nat.le_refl _) _
      have hWs : W.heap.size = wr.heap.size + 1 := by rw [← hW]; simp
      have hP1 : W.heap[wr.heap.size]? = some (.cells #[.int .i64 p1, .int .i64 p2] 79) := by rw [← hW]; exact Array.getElem?_push_size
      have HGW := Lib.hid (HG.out.keep hbw)
      have HWS := Lib.hid hWs
      have HROW := Lib.hid (fun s x k (hk : (F s x).ownBlock = some k) => ((HG.out.rows s x).lt k hk).2)
      have hB1 : Below w1.heap.size w1 W := hB.out.trans (hbw.mono hB.out.size)
      have hlo := HG.out.low
      clear HG hbw
      go_wp2_with fail
      try rw [hW]
      have hrow1 : ∀ k, (F false p1).ownBlock = some k → k < wr.heap.size := HROW.out false p1
      obtain ⟨r0, r1, r2⟩ := three_get HGW.out.head
      obtain ⟨p0, p1'⟩ := two_get hP1
      have hmap := HGW.out.maps false
      have hlook : ∀ X : World, X.heap[mapsAt w1.heap.size false]? = W.heap[mapsAt w1.heap.size false]? → (Instr.lookup 242 (.map (some (mapsAt w1.heap.size false))) (.int .i64 p1) false).run Tryz.prog X = .ok (F false p1) X := fun X q => (hmap.block q).look law3 Tryz.underlying242 (zeroSl X) key1
      have hS : W.drew.heap[w1.heap.size + 2]? = W.heap[w1.heap.size + 2]? ∧ W.drew.heap[mapsAt w1.heap.size false]? = W.heap[mapsAt w1.heap.size false]? ∧ W.drew.heap[wr.heap.size]? = W.heap[wr.heap.size]? := ⟨rfl, rfl, rfl⟩
      refine wp_region_ot (S := fun X => X.heap[w1.heap.size + 2]? = W.heap[w1.heap.size + 2]? ∧ X.heap[mapsAt w1.heap.size false]? = W.heap[mapsAt w1.heap.size false]? ∧ X.heap[wr.heap.size]? = W.heap[wr.heap.size]?) 17 [0, 1, 2, 3, 4, 5, 6, 7, 8, 9, 10, 11, 12, 13, 14, 15, 16, 17] (by kernel_rfl) ?_
      (iterate 15 (refine wpO_take (v := ?_) (by kernel_rfl) (fun _ _ _ h => h) (Or.inl ⟨by rfl, ?_⟩) hS ?_; rotate_left; (next => (rintro X ⟨q1, q2, q3⟩; have s1 := (cell_of_heap q1 1).trans r1; have s2 := (cell_of_heap q1 2).trans r2; have s3 := (cell_of_heap q3 0).trans p0; have s4 := (cell_of_heap q3 1).trans p1'; have e0 := hlook X q2; (try simp only [List.getD_cons_zero, List.getD_cons_succ, List.getElem?_toArray, List.getElem?_cons_zero, List.getElem?_cons_succ, Option.getD_some]); go_simp; rfl)); simp only [List.getD_cons_zero, List.getD_cons_succ, List.getElem?_toArray, List.getElem?_cons_zero, List.getElem?_cons_succ, Option.getD_some, Act.put, List.setIfInBounds_toArray, List.set_cons_zero, List.set_cons_succ]))
      (refine wpO_one (by kernel_rfl) (fun K1 hK1 => ?_); simp only [List.getD_cons_zero, List.getD_cons_succ, List.getElem?_toArray, List.getElem?_cons_zero, List.getElem?_cons_succ, Option.getD_some, Act.put, List.setIfInBounds_toArray, List.set_cons_zero, List.set_cons_succ]; rw [if_pos (by rfl)]; go_simp)
      obtain ⟨W1, hW1⟩ : ∃ X, (W.alloc (.cells #[.int .i64 p2] 3)).drew = X := ⟨_, rfl⟩
      have hbW1 : Below W.heap.size W W1 := by rw [← hW1]; exact ((Below.refl _ _).alloc (Nat.le_refl _) _).drew
      have hnews : ∀ j u, [Value.int .i64 p2][j]? = some u → W1.cell? ((⟨W.heap.size, 0, none⟩ : Addr).add j) = some u := by rw [← hW1]; exact fun j u hj => cell_new_at W _ _ _ rfl j u hj
      have hlz1 : wr.heap.size < W.heap.size := by omega
      have hm1 : mapsAt w1.heap.size false < wr.heap.size := by simp [mapsAt]; omega
      try rw [hW1]
      refine hK1.out _ _ (fun _ => ⟨hbW1.block _ (by omega), hbW1.block _ (by omega), hbW1.block _ hlz1⟩) ?_
      (refine wpO_one (by kernel_rfl) (fun K1 hK1 => ?_); simp only [List.getD_cons_zero, List.getD_cons_succ, List.getElem?_toArray, List.getElem?_cons_zero, List.getElem?_cons_succ, Option.getD_some, Act.put, List.setIfInBounds_toArray, List.set_cons_zero, List.set_cons_succ]; rw [if_pos (by rfl)])
      refine wpO_append (.tmp 39) (.tmp 42) 51 rfl (w1.heap.size + 3) 3 i0 (.int .i64 0) 1 8 Tryz.underlying51 hi hz0 hz1 hz2 rfl (by decide) (F false p1) _ _ rfl ((HGW.out.keep hbW1).rows false p1) ⟨W.heap.size, 0, none⟩ 1 1 [.int .i64 p2] (by rw [HWS.out]; rfl) rfl hnews (ints_oneCell .i64 [p2]) (by have := HL1.out; unfold maxLen; omega) (by have := HL1.out; omega) (by have := hbW1.size; omega) ?_
      intro v1 W2 hown1 hgrow1 hloc1
      have hk1 : ∀ k, k < W.heap.size → some k ≠ (F false p1).ownBlock → W2.heap[k]? = W.heap[k]? := fun k hk hr => (hgrow1.block k (Nat.lt_of_lt_of_le hk hbW1.size) hr).trans (hbW1.block k hk)
      have hlow1 : ∀ k, k < w1.heap.size + 3 → some k ≠ (F false p1).ownBlock := fun k hk e => by have := ((HGW.out.rows false p1).lt k e.symm).1; omega
      have hpb1 : W2.heap[wr.heap.size]? = W.heap[wr.heap.size]? := hk1 _ hlz1 (fun e => by have := hrow1 _ e.symm; omega)
      have hmb1 : W2.heap[mapsAt w1.heap.size false]? = W.heap[mapsAt w1.heap.size false]? := hk1 _ (by omega) (hlow1 _ (by simp [mapsAt]))
      refine hK1.out _ _ (fun _ => ⟨hk1 _ (by omega) (hlow1 _ (by omega)), hmb1, hpb1⟩) ?_
      (refine wpO_one (by kernel_rfl) (fun K1 hK1 => ?_); simp only [List.getD_cons_zero, List.getD_cons_succ, List.getElem?_toArray, List.getElem?_cons_zero, List.getElem?_cons_succ, Option.getD_some, Act.put, List.setIfInBounds_toArray, List.set_cons_zero, List.set_cons_succ]; rw [if_pos (by rfl)])
      obtain ⟨W2', hrun1, hmp1, hg1⟩ := (hmap.block hmb1).store law3 Tryz.underlying242 (by unfold maxLen; omega) key1 trivial v1 (f' := mapF (updF F false p1 v1 false)) (by simp [mapF, updF]) (mapF_old (fun y hy => by simp [updF, hy]))
      refine wpU_store (.tmp 30) (.tmp 32) (.tmp 43) 242 rfl rfl rfl rfl hrun1 ?_
      refine hK1.out _ _ (fun h => absurd h (by decide)) ?_
      refine wpO_done (by kernel_rfl) ?_
      have HG2 := Lib.hid ((HGW.out.keep hbW1).step false p1 p2 v1 hown1 hgrow1 hloc1 hmp1 hg1)
      have hP2 : W2'.heap[wr.heap.size]? = some (.cells #[.int .i64 p1, .int .i64 p2] 79) := ((hg1.block _ (Nat.lt_of_lt_of_le hlz1 (Nat.le_trans hbW1.size hgrow1.size)) (by simp; omega)).trans hpb1).trans hP1
      have hB2 : Below w1.heap.size w1 W2' := by
        have ha : Below w1.heap.size w1 W1 := hB1.trans (hbW1.mono hB1.size)
        have hc := ha.grown hgrow1 ha.size (fun k hk => by have := ((HGW.out.rows false p1).lt k hk).1; omega)
        exact hc.grown hg1 hc.size (fun k hk => by injection hk with hk; subst hk; simp [mapsAt])
      have hlt2 : wr.heap.size < W2'.heap.size := Nat.lt_of_lt_of_le hlz1 (Nat.le_trans hbW1.size (Nat.le_trans hgrow1.size hg1.size))
      clear hS hlook hmap r0 r1 r2 p0 p1' hnews hown1 hgrow1 hloc1 hmp1 hg1 hrun1 hk1 hlow1 hpb1 hmb1 hbW1 hK1
      go_wp2_with fail
      have HL2' : Hid ((updL L false p1 (L false p1 ++ [p2]) true p2).length ≤ min k l.length) := Lib.hid (by simp only [updL, Bool.true_eq_false, false_and, if_false]; exact HL2.out)
      have hrow2 : ∀ k, ((updF F false p1 v1) true p2).ownBlock = some k → k < wr.heap.size := HROW.out true p2
      obtain ⟨r0, r1, r2⟩ := three_get HG2.out.head
      obtain ⟨p0, p1'⟩ := two_get hP2
      have hmap := HG2.out.maps true
      have hlook : ∀ X : World, X.heap[mapsAt w1.heap.size true]? = W2'.heap[mapsAt w1.heap.size true]? → (Instr.lookup 242 (.map (some (mapsAt w1.heap.size true))) (.int .i64 p2) false).run Tryz.prog X = .ok ((updF F false p1 v1) true p2) X := fun X q => (hmap.block q).look law3 Tryz.underlying242 (zeroSl X) key2
      have hS : W2'.drew.heap[w1.heap.size + 2]? = W2'.heap[w1.heap.size + 2]? ∧ W2'.drew.heap[mapsAt w1.heap.size true]? = W2'.heap[mapsAt w1.heap.size true]? ∧ W2'.drew.heap[wr.heap.size]? = W2'.heap[wr.heap.size]? := ⟨rfl, rfl, rfl⟩
      refine wp_region_ot (S := fun X => X.heap[w1.heap.size + 2]? = W2'.heap[w1.heap.size + 2]? ∧ X.heap[mapsAt w1.heap.size true]? = W2'.heap[mapsAt w1.heap.size true]? ∧ X.heap[wr.heap.size]? = W2'.heap[wr.heap.size]?) 17 [0, 1, 2, 3, 4, 5, 6, 7, 8, 9, 10, 11, 12, 13, 14, 15, 16, 17] (by kernel_rfl) ?_
      (iterate 15 (refine wpO_take (v := ?_) (by kernel_rfl) (fun _ _ _ h => h) (Or.inl ⟨by rfl, ?_⟩) hS ?_; rotate_left; (next => (rintro X ⟨q1, q2, q3⟩; have s1 := (cell_of_heap q1 1).trans r1; have s2 := (cell_of_heap q1 2).trans r2; have s3 := (cell_of_heap q3 0).trans p0; have s4 := (cell_of_heap q3 1).trans p1'; have e0 := hlook X q2; (try simp only [List.getD_cons_zero, List.getD_cons_succ, List.getElem?_toArray, List.getElem?_cons_zero, List.getElem?_cons_succ, Option.getD_some]); go_simp; rfl)); simp only [List.getD_cons_zero, List.getD_cons_succ, List.getElem?_toArray, List.getElem?_cons_zero, List.getElem?_cons_succ, Option.getD_some, Act.put, List.setIfInBounds_toArray, List.set_cons_zero, List.set_cons_succ]))
      (refine wpO_one (by kernel_rfl) (fun K1 hK1 => ?_); simp only [List.getD_cons_zero, List.getD_cons_succ, List.getElem?_toArray, List.getElem?_cons_zero, List.getElem?_cons_succ, Option.getD_some, Act.put, List.setIfInBounds_toArray, List.set_cons_zero, List.set_cons_succ]; rw [if_pos (by rfl)]; go_simp)
      obtain ⟨W3, hW3⟩ : ∃ X, (W2'.alloc (.cells #[.int .i64 p1] 3)).drew = X := ⟨_, rfl⟩
      have hbW3 : Below W2'.heap.size W2' W3 := by rw [← hW3]; exact ((Below.refl _ _).alloc (Nat.le_refl _) _).drew
      have hnews : ∀ j u, [Value.int .i64 p1][j]? = some u → W3.cell? ((⟨W2'.heap.size, 0, none⟩ : Addr).add j) = some u := by rw [← hW3]; exact fun j u hj => cell_new_at W2' _ _ _ rfl j u hj
      have hlz2 : wr.heap.size < W2'.heap.size := by exact hlt2
      have hm2 : mapsAt w1.heap.size true < wr.heap.size := by simp [mapsAt]; omega
      try rw [hW3]
      refine hK1.out _ _ (fun _ => ⟨hbW3.block _ (by omega), hbW3.block _ (by omega), hbW3.block _ hlz2⟩) ?_
      (refine wpO_one (by kernel_rfl) (fun K1 hK1 => ?_); simp only [List.getD_cons_zero, List.getD_cons_succ, List.getElem?_toArray, List.getElem?_cons_zero, List.getElem?_cons_succ, Option.getD_some, Act.put, List.setIfInBounds_toArray, List.set_cons_zero, List.set_cons_succ]; rw [if_pos (by rfl)])
      refine wpO_append (.tmp 56) (.tmp 59) 51 rfl (w1.heap.size + 3) 3 i0 (.int .i64 0) 1 8 Tryz.underlying51 hi hz0 hz1 hz2 rfl (by decide) ((updF F false p1 v1) true p2) _ _ rfl ((HG2.out.keep hbW3).rows true p2) ⟨W2'.heap.size, 0, none⟩ 1 1 [.int .i64 p1] rfl rfl hnews (ints_oneCell .i64 [p1]) (by have := HL2'.out; unfold maxLen; omega) (by have := HL2'.out; omega) (by have := hbW3.size; omega) ?_
      intro v2 W4 hown2 hgrow2 hloc2
      have hk2 : ∀ k, k < W2'.heap.size → some k ≠ ((updF F false p1 v1) true p2).ownBlock → W4.heap[k]? = W2'.heap[k]? := fun k hk hr => (hgrow2.block k (Nat.lt_of_lt_of_le hk hbW3.size) hr).trans (hbW3.block k hk)
      have hlow2 : ∀ k, k < w1.heap.size + 3 → some k ≠ ((updF F false p1 v1) true p2).ownBlock := fun k hk e => by have := ((HG2.out.rows true p2).lt k e.symm).1; omega
      have hpb2 : W4.heap[wr.heap.size]? = W2'.heap[wr.heap.size]? := hk2 _ hlz2 (fun e => by have := hrow2 _ e.symm; omega)
      have hmb2 : W4.heap[mapsAt w1.heap.size true]? = W2'.heap[mapsAt w1.heap.size true]? := hk2 _ (by omega) (hlow2 _ (by simp [mapsAt]))
      refine hK1.out _ _ (fun _ => ⟨hk2 _ (by omega) (hlow2 _ (by omega)), hmb2, hpb2⟩) ?_
      (refine wpO_one (by kernel_rfl) (fun K1 hK1 => ?_); simp only [List.getD_cons_zero, List.getD_cons_succ, List.getElem?_toArray, List.getElem?_cons_zero, List.getElem?_cons_succ, Option.getD_some, Act.put, List.setIfInBounds_toArray, List.set_cons_zero, List.set_cons_succ]; rw [if_pos (by rfl)])
      obtain ⟨W4', hrun2, hmp2, hg2⟩ := (hmap.block hmb2).store law3 Tryz.underlying242 (by unfold maxLen; omega) key2 trivial v2 (f' := mapF (updF (updF F false p1 v1) true p2 v2 true)) (by simp [mapF, updF]) (mapF_old (fun y hy => by simp [updF, hy]))
      refine wpU_store (.tmp 47) (.tmp 49) (.tmp 60) 242 rfl rfl rfl rfl hrun2 ?_
      refine hK1.out _ _ (fun h => absurd h (by decide)) ?_
      refine wpO_done (by kernel_rfl) ?_
      have HG3 := Lib.hid ((HG2.out.keep hbW3).step true p2 p1 v2 hown2 hgrow2 hloc2 hmp2 hg2)
      have hP3 : W4'.heap[wr.heap.size]? = some (.cells #[.int .i64 p1, .int .i64 p2] 79) := ((hg2.block _ (Nat.lt_of_lt_of_le hlz2 (Nat.le_trans hbW3.size hgrow2.size)) (by simp; omega)).trans hpb2).trans hP2
      have hB3 : Below w1.heap.size w1 W4' := by
        have ha : Below w1.heap.size w1 W3 := hB2.trans (hbW3.mono hB2.size)
        have hc := ha.grown hgrow2 ha.size (fun k hk => by have := ((HG2.out.rows true p2).lt k hk).1; omega)
        exact hc.grown hg2 hc.size (fun k hk => by injection hk with hk; subst hk; simp [mapsAt])
      have hlt2 : wr.heap.size < W4'.heap.size := Nat.lt_of_lt_of_le hlz2 (Nat.le_trans hbW3.size (Nat.le_trans hgrow2.size hg2.size))
      clear hS hlook hmap r0 r1 r2 p0 p1' hnews hown2 hgrow2 hloc2 hmp2 hg2 hrun2 hk2 hlow2 hpb2 hmb2 hbW3 hK1
      go_wp2_with fail
      have hLL : updL L false p1 (L false p1 ++ [p2]) true p2 = L true p2 := by simp [updL]
      have hG3 := HG3.out
      rw [hLL, ← HTK.out] at hG3
      exact ⟨⟨k + 1, _, by omega, by go_num, Lib.hid hG3, Lib.hid hB3⟩, by simp [intOf]; omega⟩
    · have hke : l.take k = l := List.take_of_length_le (by omega)
      have HR := HG
      rw [hke] at HR
      clear HG
      go_wp2_with fail
      refine bodyPost_ret (v := .tuple #[.pointer (some ⟨w1.heap.size + 2, 0, none⟩), .int .i64 0]) (by simp [results, Tryz.results123, go_sem] <;> rfl) rfl ⟨_, _, _, _, _, rfl, HR.out, by have := HB1.out.size; omega, fun s => by have := HB1.out.size; cases s <;> simp [mapsAt] <;> omega, HB1.out.trans (hB.out.mono HB1.out.size)⟩
end Go.Proofs.YtbnljlpefpllcaaGreatDoor
