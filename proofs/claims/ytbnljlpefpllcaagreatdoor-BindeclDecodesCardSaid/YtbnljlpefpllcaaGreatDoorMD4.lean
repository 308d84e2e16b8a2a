/-
  Parts of the proof: P3 P4 P5.
-/
import Derived.Test.YtbnljlpefpllcaaGreatDoorMD3
import Derived.Test.YtbnljlpefpllcaaGreatDoorMD1
namespace Go.Proofs.YtbnljlpefpllcaaGreatDoor
open Go Go.RowKit
attribute [local go_sem] Oper.semAt_some
/-- The groups that have come name the next one. -/
theorem grpL_at : ∀ (l : List UInt8) (k : Nat) (pre : List (Nat × UInt8)) (x : Nat × UInt8) (post : List (Nat × UInt8)), grpL k l = pre ++ x :: post → x.1 = k + pre.length ∧ l.drop pre.length = x.2 :: l.drop (pre.length + 1) ∧ (x.2.toNat < 128 → post = [])
  | [], k, pre, x, post, h => by
    cases pre <;> simp [grpL] at h
  | c :: r, k, [], x, post, h => by
    rw [grpL_cons] at h
    simp only [List.nil_append, List.cons.injEq] at h
    obtain ⟨rfl, h2⟩ := h
    refine ⟨rfl, rfl, fun hc => ?_⟩
    rw [if_pos hc] at h2
    exact h2.symm
  | c :: r, k, y :: pre, x, post, h => by
    rw [grpL_cons] at h
    simp only [List.cons_append, List.cons.injEq] at h
    obtain ⟨_, h2⟩ := h
    by_cases hc : c.toNat < 128
    · rw [if_pos hc] at h2
      cases pre <;> simp at h2
    · rw [if_neg hc] at h2
      obtain ⟨a, b, d⟩ := grpL_at r (k + 1) pre x post h2
      exact ⟨by simp only [List.length_cons]; omega, by simpa using b, d⟩
/-- All groups have come, and none was the last one: the row is at its end. -/
theorem grpL_all : ∀ (l : List UInt8) (k : Nat), (∀ x ∈ grpL k l, 128 ≤ x.2.toNat) → (grpL k l).length = l.length
  | [], _, _ => rfl
  | c :: r, k, h => by
    rw [grpL_cons] at h ⊢
    have hc := h (k, c) (by simp)
    simp only at hc
    rw [if_neg (by omega)] at h ⊢
    rw [List.length_cons, List.length_cons, grpL_all r (k + 1) (fun x hx => h x (by simp [hx]))]
/-- What lies in the call's blocks while the groups come. -/
def GetI (l : List UInt8) (k : Nat) (G : Nat × Nat × Int) (w : World) (pre : List (Nat × UInt8)) (W : World) : Prop :=
  W.heap[w.heap.size]? = some (.cells #[.int .i64 k] 3 (0, 0)) ∧ W.heap[w.heap.size + 1]? = some (.cells #[.int .u64 0] 148 (0, 0)) ∧
  W.heap[w.heap.size + 1 + 1]? = some (.cells #[.int .i64 0] 3 (0, 0)) ∧ W.heap[w.heap.size + 1 + 1 + 1]? = some (.cells #[.int .i64 0] 35 (0, 0)) ∧
  (∃ m : Nat, W.heap[w.heap.size + 1 + 1 + 1 + 1]? = some (.cells #[.int .u64 m] 148 (0, 0)) ∧ m < 2 ^ (7 * pre.length) ∧ G = getG pre.length m (l.drop pre.length)) ∧
  pre.length ≤ 9 ∧ (∀ x ∈ pre, 128 ≤ x.2.toNat) ∧ Below w.heap.size w W
theorem GetI.turn {l : List UInt8} {k : Nat} {G : Nat × Nat × Int} {w : World} {pre : List (Nat × UInt8)} {D : Nat} {T : TypeId → Bool} {X Y : World} (h : GetI l k G w pre X) (ht : Turn D T X Y) (hD : w.heap.size + 5 ≤ D) : GetI l k G w pre Y := by
  obtain ⟨h0, h1, h2, h3, ⟨m, h4, h5⟩, h6, h7, h8⟩ := h
  exact ⟨ht.block_low (by omega) h0, ht.block_low (by omega) h1, ht.block_low (by omega) h2, ht.block_low (by omega) h3, ⟨m, ht.block_low (by omega) h4, h5⟩, h6, h7, ht.below (by omega) h8.size h8⟩
/-- The results lie there. -/
def GetX (v : Nat) (E er : Int) (w W : World) : Prop :=
  W.heap[w.heap.size + 1]? = some (.cells #[.int .u64 v] 148 (0, 0)) ∧ W.heap[w.heap.size + 1 + 1]? = some (.cells #[.int .i64 E] 3 (0, 0)) ∧
  W.heap[w.heap.size + 1 + 1 + 1]? = some (.cells #[.int .i64 er] 35 (0, 0)) ∧ Below w.heap.size w W
theorem GetX.drew {v : Nat} {E er : Int} {w X : World} (h : GetX v E er w X) : GetX v E er w X.drew := ⟨h.1, h.2.1, h.2.2.1, h.2.2.2.drew⟩
theorem GetX.turn {v : Nat} {E er : Int} {w : World} {D : Nat} {T : TypeId → Bool} {X Y : World} (h : GetX v E er w X) (ht : Turn D T X Y) (hD : w.heap.size + 5 ≤ D) : GetX v E er w Y := by
  obtain ⟨h1, h2, h3, h8⟩ := h
  exact ⟨ht.block_low (by omega) h1, ht.block_low (by omega) h2, ht.block_low (by omega) h3, ht.below (by omega) h8.size h8⟩
set_option maxRecDepth 100000 in
set_option maxHeartbeats 4000000 in
theorem pget_any (all : List UInt8) (A : Option Addr) (c k : Nat) (w : World) (hs : Slc 1 RB w A c all) (hk : k ≤ all.length) (hl : all.length ≤ 1000000) :
    Calls Tryz.prog 140 #[.slice A all.length c, .int .i64 k] w fun e' w' => e' = .returned (.tuple #[.int .u64 (getL (all.drop k)).1, .int .i64 (if (getL (all.drop k)).2.2 = 0 then (k : Int) + (getL (all.drop k)).2.1 else 0), .int .i64 (getL (all.drop k)).2.2]) ∧ Below w.heap.size w w' := by
  have hle := hs.le
  have hbg := hs.big
  have hcut := run_cut (P := Tryz.prog) 34 5 A all.length c k 1 Tryz.underlying34 Tryz.sizeOf5 (by omega)
  have hs2 := hs.dropN k hk
  have hln : (all.drop k).length = all.length - k := List.length_drop
  have hl2 : all.length - k ≤ 1000000 := by omega
  generalize cutA A c k 1 = A' at *
  rw [← hln] at hcut
  have HS := Lib.hid hs2
  clear hs hs2
  generalize all.drop k = l at *
  have hlk : k + l.length ≤ 1000000 := by omega
  clear hln
  generalize all.length = n0 at *
  obtain ⟨G, hG⟩ : ∃ G, getL l = G := ⟨_, rfl⟩
  rw [hG]
  have HG := Lib.hid hG
  obtain ⟨E, hE⟩ : ∃ E, (if G.2.2 = 0 then (k : Int) + G.2.1 else 0) = E := ⟨_, rfl⟩
  rw [hE]
  have HE := Lib.hid hE
  obtain ⟨gv, hgv⟩ : ∃ v, G.1 = v := ⟨_, rfl⟩
  rw [hgv]
  have HV := Lib.hid hgv
  obtain ⟨ge, hge⟩ : ∃ v, G.2.2 = v := ⟨_, rfl⟩
  rw [hge]
  have HR := Lib.hid hge
  clear hG hE hgv hge
  refine (callsIn_wide (n := 5)).1 ?_
  refine callsIn_of_wp_marks Tryz.func140 rfl trivial ?_ rfl
  simp only [Tryz.ntmps140, List.size_toArray, List.length_cons, List.length_nil, Nat.reduceAdd, Nat.reduceSub, Array.replicate_succ, Array.replicate_zero, List.push_toArray, List.append_toArray, List.nil_append, List.cons_append]
  gi_wp2_with (refine ⟨trivial, ?_⟩; gi_at_call 188; refine (callsIn_wide.2 (groups_any _ _ _ _)).mono ?_; rintro e' w' ⟨rfl, rfl⟩)
  obtain ⟨W0, hW0⟩ : ∃ W0, (((((w.alloc (.cells #[.int .i64 k] 3)).alloc (.cells #[.int .u64 0] 148)).alloc (.cells #[.int .i64 0] 3)).alloc (.cells #[.int .i64 0] 35)).alloc (.cells #[.int .u64 0] 148)).alloc (.cells #[.slice A' l.length (c - k)] 34) = W0 := ⟨_, rfl⟩
  rw [hW0]
  have hB0 : Below w.heap.size w W0 := by rw [← hW0]; (repeat (first | exact Below.refl _ _ | assumption | refine Below.alloc ?_ (by first | omega | (simp; done) | (simp; omega)) _ | refine below_drewN ?_ _ | refine Below.drew ?_ | refine Below.setCell ?_ (by first | omega | (simp; done) | (simp; omega)) _))
  have hz0 : W0.heap.size = w.heap.size + 1 + 1 + 1 + 1 + 1 + 1 := by subst hW0; simp
  have hat : ∀ (i : Nat) (o : Obj), [Obj.cells #[.int .i64 k] 3, .cells #[.int .u64 0] 148, .cells #[.int .i64 0] 3, .cells #[.int .i64 0] 35, .cells #[.int .u64 0] 148, .cells #[.slice A' l.length (c - k)] 34][i]? = some o → W0.heap[w.heap.size + i]? = some o := by
    intro i o h
    rw [← hW0]
    exact (allocs_get [Obj.cells #[.int .i64 k] 3, .cells #[.int .u64 0] 148, .cells #[.int .i64 0] 3, .cells #[.int .i64 0] 35, .cells #[.int .u64 0] 148, .cells #[.slice A' l.length (c - k)] 34] w i (List.getElem?_eq_some_iff.1 h).1).trans h
  have z0 := hat 0 _ rfl
  have z1 := hat 1 _ rfl
  have z2 := hat 2 _ rfl
  have z3 := hat 3 _ rfl
  have z4 := hat 4 _ rfl
  have z5 := hat 5 _ rfl
  have hseq := grp_seq (5 - 1) (by omega) l A' (c - k) (w.heap.size + 5) w W0 hB0 (blk1 z5).1 HS.out
  have hI0 : GetI l k G w [] W0 := ⟨z0, z1, z2, z3, ⟨0, z4, by decide, HG.out.symm⟩, by simp, by simp, hB0⟩
  clear hat hW0 z0 z1 z2 z3 z4 z5 hcut
  refine wpIn_range rfl (by omega) (gf := 221) (lb := #[.pointer (some ⟨w.heap.size + 1 + 1 + 1 + 1 + 1, 0, none⟩)]) rfl trivial (enters_of Tryz.func221 (by kernel_rfl) rfl)
    hseq (Below.refl _ _) (by intro k hk; omega) (fun _ => rfl)
    (GetI l k G w) (fun co _ W => co = .ret ∧ GetX gv E ge w W)
    (fun s X Y hs ht => hs.turn ht (by omega)) (fun _ _ X Y hs ht => ⟨hs.1, hs.2.turn ht (by omega)⟩)
    hI0 ?round ?done ?stop
  case round =>
    rintro lr pre x post W hL hlr ⟨r, hr⟩ hWs hI
    simp only [encG, List.zip_toArray, List.zip_cons_cons]
    gi_wp2
    refine ⟨Kb.refl _ _ _ _, fun W2 hrec => ?_⟩
    have hI2 : GetI l k G w pre W2 := hI.turn (hrec.turn (T := fun _ => false) hlr) (by omega)
    clear hI hrec hI0 hr hseq
    obtain ⟨p0, p1, p2, p3, ⟨m, p4, hm, hGm⟩, hj9, hall, hB⟩ := hI2
    obtain ⟨hx1, hx2, hx3⟩ := grpL_at l 0 pre x post hL
    have hall2 : x.2.toNat < 128 ∨ ∀ y ∈ pre ++ [x], 128 ≤ y.2.toNat := by
      rcases Nat.lt_or_ge x.2.toNat 128 with h | h
      · exact .inl h
      · refine .inr (fun y hy => ?_)
        rcases List.mem_append.1 hy with h2 | h2
        · exact hall y h2
        · rw [List.mem_singleton] at h2; rw [h2]; exact h
    obtain ⟨x1, c0⟩ := x
    simp only [Nat.zero_add] at hx1
    subst hx1
    have hpl : (pre ++ [(pre.length, c0)]).length = pre.length + 1 := by simp
    have HALL := Lib.hid hall2
    have HPL := Lib.hid hpl
    generalize pre ++ [(pre.length, c0)] = pre' at *
    simp only at hx2 hx3
    rw [hx2] at hGm
    clear hL hx2 hx3 hall hall2 hpl
    obtain ⟨j, hj⟩ : ∃ j, pre.length = j := ⟨_, rfl⟩
    rw [hj] at hm hGm hj9 HPL ⊢
    have hcb : c0.toNat < 256 := c0.toNat_lt
    have HGM := Lib.hid hGm
    obtain ⟨y, hy⟩ : ∃ y, c0.toNat = y := ⟨_, rfl⟩
    have HY := Lib.hid hy
    simp only [hy] at hcb ⊢
    clear hGm hj hy
    obtain ⟨v1, v1'⟩ := blk1 p1
    obtain ⟨v2, v2'⟩ := blk1 p2
    obtain ⟨v3, v3'⟩ := blk1 p3
    obtain ⟨v4, v4'⟩ := blk1 p4
    obtain ⟨v0, _⟩ := blk1 p0
    have kb3 : ∀ a b c : Value, Kb (fun k => k < w.heap.size) (w.heap.size + 1 + 1 + 1 + 1 + 1 + 1) (fun _ => false) W2 (((W2.setCell ⟨w.heap.size + 1, 0, none⟩ a).setCell ⟨w.heap.size + 1 + 1, 0, none⟩ b).setCell ⟨w.heap.size + 1 + 1 + 1, 0, none⟩ c) := fun a b c =>
      (((Kb.refl _ _ _ _).setLow (p := ⟨w.heap.size + 1, 0, none⟩) _ (by simp <;> omega) (by simp <;> omega)).setLow (p := ⟨w.heap.size + 1 + 1, 0, none⟩) _ (by simp <;> omega) (by simp <;> omega)).setLow (p := ⟨w.heap.size + 1 + 1 + 1, 0, none⟩) _ (by simp <;> omega) (by simp <;> omega)
    have x3 : ∀ (X : World) (a : Nat) (b c : Int), X.heap[w.heap.size + 1]? = some (.cells #[.int .u64 0] 148 (0, 0)) → X.heap[w.heap.size + 1 + 1]? = some (.cells #[.int .i64 0] 3 (0, 0)) → X.heap[w.heap.size + 1 + 1 + 1]? = some (.cells #[.int .i64 0] 35 (0, 0)) → Below w.heap.size w X →
        GetX a b c w (((X.setCell ⟨w.heap.size + 1, 0, none⟩ (.int .u64 a)).setCell ⟨w.heap.size + 1 + 1, 0, none⟩ (.int .i64 b)).setCell ⟨w.heap.size + 1 + 1 + 1, 0, none⟩ (.int .i64 c)) := fun X a b c h1 h2 h3 h =>
      ⟨set_far _ (set_far _ (blk1_put _ h1) (by simp <;> omega)) (by simp <;> omega), set_far _ (blk1_put _ (set_far _ h2 (by simp <;> omega))) (by simp <;> omega), blk1_put _ (set_far _ (set_far _ h3 (by simp <;> omega)) (by simp <;> omega)), ((h.setCell (p := ⟨w.heap.size + 1, 0, none⟩) (by simp <;> omega) _).setCell (p := ⟨w.heap.size + 1 + 1, 0, none⟩) (by simp <;> omega) _).setCell (p := ⟨w.heap.size + 1 + 1 + 1, 0, none⟩) (by simp <;> omega) _⟩
    have KB3 := Lib.hid kb3
    have X3 := Lib.hid (fun a b c => x3 W2 a b c p1 p2 p3 hB)
    have X3' := Lib.hid x3
    clear kb3 x3
    by_cases h1 : j = 9 ∧ 1 < y
    · obtain ⟨rfl, h1y⟩ := h1
      have hG6 : G = (0, 0, 6) := by rw [HGM.out, getG_cons, HY.out, if_pos ⟨rfl, h1y⟩]
      have e1 : (1 : Int) < (y : Int) := by omega
      have hx := X3.out 0 0 6
      have hgv : gv = 0 := by rw [← HV.out, hG6]
      have hge : ge = 6 := by rw [← HR.out, hG6]
      have hE : E = 0 := by rw [← HE.out, hG6]; rfl
      have HX := Lib.hid (show GetX gv E ge w _ from by rw [hgv, hge, hE]; exact hx)
      clear hx hgv hge hE hG6 HGM hm
      gi_wp2
      exact ⟨KB3.out _ _ _, rfl, HX.out⟩
    · have h2 : ¬ (j = 9 ∧ 1 < c0.toNat) := by rw [HY.out]; exact h1
      by_cases h0 : 0 < j ∧ y = 0
      · have hG5 : G = (0, 0, 5) := by rw [HGM.out, getG_cons, if_neg h2, HY.out, if_pos (by omega), if_pos h0]
        obtain ⟨hj0, rfl⟩ := h0
        have hx := X3.out 0 0 5
        have hgv : gv = 0 := by rw [← HV.out, hG5]
        have hge : ge = 5 := by rw [← HR.out, hG5]
        have hE : E = 0 := by rw [← HE.out, hG5]; rfl
        have HX := Lib.hid (show GetX gv E ge w _ from by rw [hgv, hge, hE]; exact hx)
        clear hx hgv hge hE hG5 HGM hm h1 h2
        gi_wp2
        all_goals exact ⟨KB3.out _ _ _, rfl, HX.out⟩
      · obtain ⟨U, hU⟩ : ∃ U : Nat, 2 ^ (7 * j) = U := ⟨_, rfl⟩
        have HU := Lib.hid hU
        have hm64 : m < 2 ^ 64 := Nat.lt_of_lt_of_le hm (Nat.pow_le_pow_right (by omega) (by omega))
        have hUb : U ≤ 9223372036854775808 := by
          rw [← hU]
          exact show 2 ^ (7 * j) ≤ 2 ^ 63 from Nat.pow_le_pow_right (by omega) (by omega)
        have hU8 : j ≤ 8 → U ≤ 72057594037927936 := fun h => by
          rw [← hU]
          exact show 2 ^ (7 * j) ≤ 2 ^ 56 from Nat.pow_le_pow_right (by omega) (by omega)
        have hyu : (y % 128) * U < 18446744073709551616 := by
          by_cases h9 : j = 9
          · have : (y % 128) * U ≤ 1 * U := Nat.mul_le_mul_right _ (by omega)
            omega
          · have : (y % 128) * U ≤ 127 * U := Nat.mul_le_mul_right _ (by omega)
            have := hU8 (by omega)
            omega
        have HOR : Hid (bits .or .u64 (m : Int) (((y % 128 * U : Nat)) : Int) = ((m + y % 128 * U : Nat) : Int)) := Lib.hid (by
          rw [← hU]
          exact or_step m (y % 128) (7 * j) hm hm64 (by rw [hU]; exact hyu))
        have HAND : Hid (bits .and .u8 (y : Int) 127 = ((y % 128 : Nat) : Int)) := Lib.hid (and7 y hcb)
        have HM := Lib.hid hm
        clear hU hm hm64
        by_cases hlo : y < 128
        · have hGl : G = (m + y % 128 * U, j + 1, 0) := by rw [HGM.out, getG_cons, if_neg h2, HY.out, if_pos hlo, if_neg h0, HU.out, show y % 128 = y by omega]
          have HGL := Lib.hid hGl
          clear hGl h2
          have HFIN : Hid (∀ X : World, X.heap[w.heap.size + 1]? = some (.cells #[.int .u64 0] 148 (0, 0)) → X.heap[w.heap.size + 1 + 1]? = some (.cells #[.int .i64 0] 3 (0, 0)) → X.heap[w.heap.size + 1 + 1 + 1]? = some (.cells #[.int .i64 0] 35 (0, 0)) → Below w.heap.size w X →
              GetX gv E ge w (((X.setCell ⟨w.heap.size + 1, 0, none⟩ (.int .u64 ((m + y % 128 * U : Nat) : Int))).setCell ⟨w.heap.size + 1 + 1, 0, none⟩ (.int .i64 ((k : Int) + j + 1))).setCell ⟨w.heap.size + 1 + 1 + 1, 0, none⟩ (.int .i64 0))) := Lib.hid (fun X a b c d => by
            have hgv : gv = m + y % 128 * U := by rw [← HV.out, HGL.out]
            have hge : ge = 0 := by rw [← HR.out, HGL.out]
            have hE : E = (k : Int) + j + 1 := by rw [← HE.out, HGL.out]; simp only [if_true]; push_cast; omega
            rw [hgv, hge, hE]
            exact X3'.out X _ _ _ a b c d)
          obtain ⟨j7, hj7⟩ : ∃ j7 : Nat, 7 * j = j7 := ⟨_, rfl⟩
          have e7 : IntKind.i64.wrap (7 * (j : Int)) = (j7 : Int) := by rw [← hj7, IntKind.wrap_i64]; omega
          have e7b : j7 ≤ 64 := by omega
          have HVV : Hid (bits .or .u64 (m : Int) (IntKind.u64.wrap (IntKind.u64.wrap (bits .and .u8 (y : Int) 127) * 2 ^ j7)) = ((m + y % 128 * U : Nat) : Int)) := Lib.hid (by
            rw [HAND.out, IntKind.wrap_u64, IntKind.wrap_u64, show ((y % 128 : Nat) : Int) % 18446744073709551616 = ((y % 128 : Nat) : Int) by omega, ← hj7, show (2 : Int) ^ (7 * j) = ((2 ^ (7 * j) : Nat) : Int) by simp, HU.out, ← Int.natCast_mul, show ((y % 128 * U : Nat) : Int) % 18446744073709551616 = ((y % 128 * U : Nat) : Int) by omega]
            exact HOR.out)
          obtain ⟨V, hV⟩ : ∃ V : Nat, m + y % 128 * U = V := ⟨_, rfl⟩
          rw [hV] at HVV HFIN
          clear hV
          have P1 := Lib.hid p1
          have P0 := Lib.hid p0
          have P4 := Lib.hid p4
          have P2 := Lib.hid p2
          have P3 := Lib.hid p3
          have HBB := Lib.hid hB
          have hjm : IntKind.i64.wrap ((k : Int) + j) = (k : Int) + j := by rw [IntKind.wrap_i64]; have := hlk; omega
          have hjm1 : IntKind.i64.wrap ((k : Int) + j + 1) = (k : Int) + j + 1 := by rw [IntKind.wrap_i64]; have := hlk; omega
          have hlo' : (y : Int) < 128 := by omega
          have HZ0 := Lib.hid hz0
          have KBF : Hid (∀ (X : World) (a b c : Value), Kb (fun k => k < w.heap.size) (w.heap.size + 1 + 1 + 1 + 1 + 1 + 1) (fun _ => false) X (((X.setCell ⟨w.heap.size + 1, 0, none⟩ a).setCell ⟨w.heap.size + 1 + 1, 0, none⟩ b).setCell ⟨w.heap.size + 1 + 1 + 1, 0, none⟩ c).drew) := Lib.hid (fun X a b c =>
            ((((Kb.refl _ _ _ _).setLow (p := ⟨w.heap.size + 1, 0, none⟩) _ (by simp <;> omega) (by simp <;> omega)).setLow (p := ⟨w.heap.size + 1 + 1, 0, none⟩) _ (by simp <;> omega) (by simp <;> omega)).setLow (p := ⟨w.heap.size + 1 + 1 + 1, 0, none⟩) _ (by simp <;> omega) (by simp <;> omega)).drew)
          have hjk : (k : Int) + (j : Int) ≤ 1000009 := by omega
          rcases (show (j = 9 ∧ y = 1) ∨ (j ≤ 8 ∧ 0 < y) ∨ (j = 0 ∧ y = 0) by omega) with ⟨h8, hy0⟩ | ⟨h8, hy0⟩ | ⟨h8, hy0⟩
          · subst h8 hy0
            obtain rfl : j7 = 63 := by omega
            have e10 : IntKind.i64.wrap ((k : Int) + 9) = (k : Int) + 9 := hjm
            have e11 : IntKind.i64.wrap ((k : Int) + 9 + 1) = (k : Int) + 9 + 1 := hjm1
            have e63 : IntKind.i64.wrap 63 = 63 := by decide
            replace HVV : Hid (bits .or .u64 (m : Int) (IntKind.u64.wrap (IntKind.u64.wrap (bits .and .u8 1 127) * 9223372036854775808)) = (V : Int)) := HVV
            clear h1 h0 hyu hU8 hUb p1 p2 p3 p4 p0 hB hj7
            gi_wp2
            refine wpInR_still_tail 8 (by kernel_rfl) (by kernel_rfl) (by rintro ⟨_, _, hx⟩; exact hx) (by kernel_rfl) ?_
            simp only [List.take_succ_cons, List.take_zero, List.drop_succ_cons, List.drop_zero]
            repeat still_step
            try refine wpStill_nil ?_
            rw [HVV.out]
            change wpList _ _ _ _ _ W2.drew
            go_wp2_with fail
            gi_wp2
            generalize hW3 : (W2.setCell ⟨w.heap.size + 1 + 1 + 1 + 1, 0, none⟩ (.int .u64 (V : Int))).drew = W3
            have q0 : W3.heap[w.heap.size]? = some (.cells #[.int .i64 k] 3 (0, 0)) := by rw [← hW3]; exact set_far _ P0.out (by simp <;> omega)
            have q1 : W3.heap[w.heap.size + 1]? = some (.cells #[.int .u64 0] 148 (0, 0)) := by rw [← hW3]; exact set_far _ P1.out (by simp <;> omega)
            have q2 : W3.heap[w.heap.size + 1 + 1]? = some (.cells #[.int .i64 0] 3 (0, 0)) := by rw [← hW3]; exact set_far _ P2.out (by simp <;> omega)
            have q3 : W3.heap[w.heap.size + 1 + 1 + 1]? = some (.cells #[.int .i64 0] 35 (0, 0)) := by rw [← hW3]; exact set_far _ P3.out (by simp <;> omega)
            have q4 : W3.heap[w.heap.size + 1 + 1 + 1 + 1]? = some (.cells #[.int .u64 V] 148 (0, 0)) := by rw [← hW3]; exact blk1_put _ P4.out
            have hKb : Kb (fun k => k < w.heap.size) (w.heap.size + 1 + 1 + 1 + 1 + 1 + 1) (fun _ => false) W2 W3 := by rw [← hW3]; exact ((Kb.refl _ _ _ _).setLow (p := ⟨w.heap.size + 1 + 1 + 1 + 1, 0, none⟩) _ (by simp <;> omega) (by simp <;> omega)).drew
            have hB3 : Below w.heap.size w W3 := by rw [← hW3]; exact (HBB.out.setCell (p := ⟨w.heap.size + 1 + 1 + 1 + 1, 0, none⟩) (by simp <;> omega) _).drew
            have KB := Lib.hid hKb
            have HB3 := Lib.hid hB3
            have Q1 := Lib.hid q1
            have Q2 := Lib.hid q2
            have Q3 := Lib.hid q3
            clear hW3 hKb hB3 v0 v1 v2 v3 v4 v1' v2' v3' v4'
            obtain ⟨s1, s1'⟩ := blk1 q1
            obtain ⟨s2, s2'⟩ := blk1 q2
            obtain ⟨s3, s3'⟩ := blk1 q3
            obtain ⟨s4, _⟩ := blk1 q4
            obtain ⟨s0, _⟩ := blk1 q0
            clear q0 q1 q2 q3 q4
            refine wpInR_k (S := fun X => X.cell? ⟨w.heap.size + 1 + 1 + 1 + 1, 0, none⟩ = some (.int .u64 V) ∧ X.cell? ⟨w.heap.size, 0, none⟩ = some (.int .i64 k)) (by kernel_rfl) (by kernel_rfl) (by rintro ⟨_, _, hx⟩; exact hx) ?_
            have g1 : ∀ (X : World) (b : Nat) (u : Value), X.cell? ⟨w.heap.size + 1 + 1 + 1 + 1, 0, none⟩ = some (.int .u64 V) ∧ X.cell? ⟨w.heap.size, 0, none⟩ = some (.int .i64 k) → b ≠ w.heap.size + 1 + 1 + 1 + 1 → b ≠ w.heap.size → (X.setCell ⟨b, 0, none⟩ u).cell? ⟨w.heap.size + 1 + 1 + 1 + 1, 0, none⟩ = some (.int .u64 V) ∧ (X.setCell ⟨b, 0, none⟩ u).cell? ⟨w.heap.size, 0, none⟩ = some (.int .i64 k) := fun X b u h h1 h2 => by
              constructor
              · rw [set_cell_other u h1.symm]; exact h.1
              · rw [set_cell_other u h2.symm]; exact h.2
            have hS : W3.drew.cell? ⟨w.heap.size + 1 + 1 + 1 + 1, 0, none⟩ = some (.int .u64 V) ∧ W3.drew.cell? ⟨w.heap.size, 0, none⟩ = some (.int .i64 k) := ⟨s4, s0⟩
            (iterate 5 (refine wpK_take (v := ?_) (by kernel_rfl) (fun _ _ _ h => h) (Or.inl ⟨by rfl, ?_⟩) hS ?_; rotate_left; (next => (rintro X ⟨r1, r2⟩; (try simp only [List.getElem?_toArray, List.getElem?_cons_zero, List.getElem?_cons_succ, Option.getD_some]); go_simp; rfl)); simp only [List.getElem?_toArray, List.getElem?_cons_zero, List.getElem?_cons_succ, Option.getD_some, Act.put, List.setIfInBounds_toArray, List.set_cons_zero, List.set_cons_succ]))
            (refine wpK_one (by kernel_rfl) (fun K1 hK1 => ?_); simp only [List.getElem?_toArray, List.getElem?_cons_zero, List.getElem?_cons_succ, Option.getD_some, Act.put, List.setIfInBounds_toArray, List.set_cons_zero, List.set_cons_succ]; rw [if_pos (by rfl)]; go_simp)
            have hS2 := g1 W3 (w.heap.size + 1) (.int .u64 V) hS (by omega) (by omega)
            refine hK1.out _ _ (fun _ => hS2) ?_
            (refine wpK_one (by kernel_rfl) (fun K1 hK1 => ?_); simp only [List.getElem?_toArray, List.getElem?_cons_zero, List.getElem?_cons_succ, Option.getD_some, Act.put, List.setIfInBounds_toArray, List.set_cons_zero, List.set_cons_succ]; rw [if_pos (by rfl)]; go_simp)
            have hS3 := g1 _ (w.heap.size + 1 + 1) (.int .i64 ((k : Int) + 9 + 1)) hS2 (by omega) (by omega)
            refine hK1.out _ _ (fun _ => hS3) ?_
            (refine wpK_one (by kernel_rfl) (fun K1 hK1 => ?_); simp only [List.getElem?_toArray, List.getElem?_cons_zero, List.getElem?_cons_succ, Option.getD_some, Act.put, List.setIfInBounds_toArray, List.set_cons_zero, List.set_cons_succ]; rw [if_pos (by rfl)]; go_simp)
            refine hK1.out _ _ (fun _ => g1 _ (w.heap.size + 1 + 1 + 1) (.int .i64 0) hS3 (by omega) (by omega)) ?_
            refine wpK_done rfl ?_
            gi_wp2
            exact ⟨by rw [HZ0.out]; exact KB.out.trans (KBF.out _ _ _ _), rfl, (HFIN.out _ Q1.out Q2.out Q3.out HB3.out).drew⟩
          · have e9 : ((j : Int) == 9) = false := by simp; omega
            have e0 : ((y : Int) == 0) = false := by simp; omega
            clear h1 h0 hyu hU8 hUb p1 p2 p3 p4 p0 hB hj7
            gi_wp2
            refine wpInR_still_tail 8 (by kernel_rfl) (by kernel_rfl) (by rintro ⟨_, _, hx⟩; exact hx) (by kernel_rfl) ?_
            simp only [List.take_succ_cons, List.take_zero, List.drop_succ_cons, List.drop_zero]
            repeat still_step
            try refine wpStill_nil ?_
            rw [HVV.out]
            change wpList _ _ _ _ _ W2.drew
            go_wp2_with fail
            gi_wp2
            generalize hW3 : (W2.setCell ⟨w.heap.size + 1 + 1 + 1 + 1, 0, none⟩ (.int .u64 (V : Int))).drew = W3
            have q0 : W3.heap[w.heap.size]? = some (.cells #[.int .i64 k] 3 (0, 0)) := by rw [← hW3]; exact set_far _ P0.out (by simp <;> omega)
            have q1 : W3.heap[w.heap.size + 1]? = some (.cells #[.int .u64 0] 148 (0, 0)) := by rw [← hW3]; exact set_far _ P1.out (by simp <;> omega)
            have q2 : W3.heap[w.heap.size + 1 + 1]? = some (.cells #[.int .i64 0] 3 (0, 0)) := by rw [← hW3]; exact set_far _ P2.out (by simp <;> omega)
            have q3 : W3.heap[w.heap.size + 1 + 1 + 1]? = some (.cells #[.int .i64 0] 35 (0, 0)) := by rw [← hW3]; exact set_far _ P3.out (by simp <;> omega)
            have q4 : W3.heap[w.heap.size + 1 + 1 + 1 + 1]? = some (.cells #[.int .u64 V] 148 (0, 0)) := by rw [← hW3]; exact blk1_put _ P4.out
            have hKb : Kb (fun k => k < w.heap.size) (w.heap.size + 1 + 1 + 1 + 1 + 1 + 1) (fun _ => false) W2 W3 := by rw [← hW3]; exact ((Kb.refl _ _ _ _).setLow (p := ⟨w.heap.size + 1 + 1 + 1 + 1, 0, none⟩) _ (by simp <;> omega) (by simp <;> omega)).drew
            have hB3 : Below w.heap.size w W3 := by rw [← hW3]; exact (HBB.out.setCell (p := ⟨w.heap.size + 1 + 1 + 1 + 1, 0, none⟩) (by simp <;> omega) _).drew
            have KB := Lib.hid hKb
            have HB3 := Lib.hid hB3
            have Q1 := Lib.hid q1
            have Q2 := Lib.hid q2
            have Q3 := Lib.hid q3
            clear hW3 hKb hB3 v0 v1 v2 v3 v4 v1' v2' v3' v4'
            obtain ⟨s1, s1'⟩ := blk1 q1
            obtain ⟨s2, s2'⟩ := blk1 q2
            obtain ⟨s3, s3'⟩ := blk1 q3
            obtain ⟨s4, _⟩ := blk1 q4
            obtain ⟨s0, _⟩ := blk1 q0
            clear q0 q1 q2 q3 q4
            refine wpInR_k (S := fun X => X.cell? ⟨w.heap.size + 1 + 1 + 1 + 1, 0, none⟩ = some (.int .u64 V) ∧ X.cell? ⟨w.heap.size, 0, none⟩ = some (.int .i64 k)) (by kernel_rfl) (by kernel_rfl) (by rintro ⟨_, _, hx⟩; exact hx) ?_
            have g1 : ∀ (X : World) (b : Nat) (u : Value), X.cell? ⟨w.heap.size + 1 + 1 + 1 + 1, 0, none⟩ = some (.int .u64 V) ∧ X.cell? ⟨w.heap.size, 0, none⟩ = some (.int .i64 k) → b ≠ w.heap.size + 1 + 1 + 1 + 1 → b ≠ w.heap.size → (X.setCell ⟨b, 0, none⟩ u).cell? ⟨w.heap.size + 1 + 1 + 1 + 1, 0, none⟩ = some (.int .u64 V) ∧ (X.setCell ⟨b, 0, none⟩ u).cell? ⟨w.heap.size, 0, none⟩ = some (.int .i64 k) := fun X b u h h1 h2 => by
              constructor
              · rw [set_cell_other u h1.symm]; exact h.1
              · rw [set_cell_other u h2.symm]; exact h.2
            have hS : W3.drew.cell? ⟨w.heap.size + 1 + 1 + 1 + 1, 0, none⟩ = some (.int .u64 V) ∧ W3.drew.cell? ⟨w.heap.size, 0, none⟩ = some (.int .i64 k) := ⟨s4, s0⟩
            (iterate 5 (refine wpK_take (v := ?_) (by kernel_rfl) (fun _ _ _ h => h) (Or.inl ⟨by rfl, ?_⟩) hS ?_; rotate_left; (next => (rintro X ⟨r1, r2⟩; (try simp only [List.getElem?_toArray, List.getElem?_cons_zero, List.getElem?_cons_succ, Option.getD_some]); go_simp; rfl)); simp only [List.getElem?_toArray, List.getElem?_cons_zero, List.getElem?_cons_succ, Option.getD_some, Act.put, List.setIfInBounds_toArray, List.set_cons_zero, List.set_cons_succ]))
            (refine wpK_one (by kernel_rfl) (fun K1 hK1 => ?_); simp only [List.getElem?_toArray, List.getElem?_cons_zero, List.getElem?_cons_succ, Option.getD_some, Act.put, List.setIfInBounds_toArray, List.set_cons_zero, List.set_cons_succ]; rw [if_pos (by rfl)]; go_simp)
            have hS2 := g1 W3 (w.heap.size + 1) (.int .u64 V) hS (by omega) (by omega)
            refine hK1.out _ _ (fun _ => hS2) ?_
            (refine wpK_one (by kernel_rfl) (fun K1 hK1 => ?_); simp only [List.getElem?_toArray, List.getElem?_cons_zero, List.getElem?_cons_succ, Option.getD_some, Act.put, List.setIfInBounds_toArray, List.set_cons_zero, List.set_cons_succ]; rw [if_pos (by rfl)]; go_simp)
            have hS3 := g1 _ (w.heap.size + 1 + 1) (.int .i64 ((k : Int) + j + 1)) hS2 (by omega) (by omega)
            refine hK1.out _ _ (fun _ => hS3) ?_
            (refine wpK_one (by kernel_rfl) (fun K1 hK1 => ?_); simp only [List.getElem?_toArray, List.getElem?_cons_zero, List.getElem?_cons_succ, Option.getD_some, Act.put, List.setIfInBounds_toArray, List.set_cons_zero, List.set_cons_succ]; rw [if_pos (by rfl)]; go_simp)
            refine hK1.out _ _ (fun _ => g1 _ (w.heap.size + 1 + 1 + 1) (.int .i64 0) hS3 (by omega) (by omega)) ?_
            refine wpK_done rfl ?_
            gi_wp2
            exact ⟨by rw [HZ0.out]; exact KB.out.trans (KBF.out _ _ _ _), rfl, (HFIN.out _ Q1.out Q2.out Q3.out HB3.out).drew⟩
          · subst h8 hy0
            obtain rfl : j7 = 0 := by omega
            have e10 : IntKind.i64.wrap (k : Int) = (k : Int) := by have := hjm; rwa [show (k : Int) + ((0 : Nat) : Int) = (k : Int) by omega] at this
            have e11 : IntKind.i64.wrap ((k : Int) + 1) = (k : Int) + 1 := by have := hjm1; rwa [show (k : Int) + ((0 : Nat) : Int) + 1 = (k : Int) + 1 by omega] at this
            have e63 : IntKind.i64.wrap 0 = 0 := by decide
            replace HVV : Hid (bits .or .u64 (m : Int) (IntKind.u64.wrap (IntKind.u64.wrap (bits .and .u8 0 127))) = (V : Int)) := Lib.hid (by have := HVV.out; rw [Int.pow_zero, Int.mul_one] at this; exact this)
            clear h1 h0 hyu hU8 hUb p1 p2 p3 p4 p0 hB hj7
            gi_wp2
            refine wpInR_still_tail 8 (by kernel_rfl) (by kernel_rfl) (by rintro ⟨_, _, hx⟩; exact hx) (by kernel_rfl) ?_
            simp only [List.take_succ_cons, List.take_zero, List.drop_succ_cons, List.drop_zero]
            repeat still_step
            try refine wpStill_nil ?_
            rw [HVV.out]
            change wpList _ _ _ _ _ W2.drew
            go_wp2_with fail
            gi_wp2
            generalize hW3 : (W2.setCell ⟨w.heap.size + 1 + 1 + 1 + 1, 0, none⟩ (.int .u64 (V : Int))).drew = W3
            have q0 : W3.heap[w.heap.size]? = some (.cells #[.int .i64 k] 3 (0, 0)) := by rw [← hW3]; exact set_far _ P0.out (by simp <;> omega)
            have q1 : W3.heap[w.heap.size + 1]? = some (.cells #[.int .u64 0] 148 (0, 0)) := by rw [← hW3]; exact set_far _ P1.out (by simp <;> omega)
            have q2 : W3.heap[w.heap.size + 1 + 1]? = some (.cells #[.int .i64 0] 3 (0, 0)) := by rw [← hW3]; exact set_far _ P2.out (by simp <;> omega)
            have q3 : W3.heap[w.heap.size + 1 + 1 + 1]? = some (.cells #[.int .i64 0] 35 (0, 0)) := by rw [← hW3]; exact set_far _ P3.out (by simp <;> omega)
            have q4 : W3.heap[w.heap.size + 1 + 1 + 1 + 1]? = some (.cells #[.int .u64 V] 148 (0, 0)) := by rw [← hW3]; exact blk1_put _ P4.out
            have hKb : Kb (fun k => k < w.heap.size) (w.heap.size + 1 + 1 + 1 + 1 + 1 + 1) (fun _ => false) W2 W3 := by rw [← hW3]; exact ((Kb.refl _ _ _ _).setLow (p := ⟨w.heap.size + 1 + 1 + 1 + 1, 0, none⟩) _ (by simp <;> omega) (by simp <;> omega)).drew
            have hB3 : Below w.heap.size w W3 := by rw [← hW3]; exact (HBB.out.setCell (p := ⟨w.heap.size + 1 + 1 + 1 + 1, 0, none⟩) (by simp <;> omega) _).drew
            have KB := Lib.hid hKb
            have HB3 := Lib.hid hB3
            have Q1 := Lib.hid q1
            have Q2 := Lib.hid q2
            have Q3 := Lib.hid q3
            clear hW3 hKb hB3 v0 v1 v2 v3 v4 v1' v2' v3' v4'
            obtain ⟨s1, s1'⟩ := blk1 q1
            obtain ⟨s2, s2'⟩ := blk1 q2
            obtain ⟨s3, s3'⟩ := blk1 q3
            obtain ⟨s4, _⟩ := blk1 q4
            obtain ⟨s0, _⟩ := blk1 q0
            clear q0 q1 q2 q3 q4
            refine wpInR_k (S := fun X => X.cell? ⟨w.heap.size + 1 + 1 + 1 + 1, 0, none⟩ = some (.int .u64 V) ∧ X.cell? ⟨w.heap.size, 0, none⟩ = some (.int .i64 k)) (by kernel_rfl) (by kernel_rfl) (by rintro ⟨_, _, hx⟩; exact hx) ?_
            have g1 : ∀ (X : World) (b : Nat) (u : Value), X.cell? ⟨w.heap.size + 1 + 1 + 1 + 1, 0, none⟩ = some (.int .u64 V) ∧ X.cell? ⟨w.heap.size, 0, none⟩ = some (.int .i64 k) → b ≠ w.heap.size + 1 + 1 + 1 + 1 → b ≠ w.heap.size → (X.setCell ⟨b, 0, none⟩ u).cell? ⟨w.heap.size + 1 + 1 + 1 + 1, 0, none⟩ = some (.int .u64 V) ∧ (X.setCell ⟨b, 0, none⟩ u).cell? ⟨w.heap.size, 0, none⟩ = some (.int .i64 k) := fun X b u h h1 h2 => by
              constructor
              · rw [set_cell_other u h1.symm]; exact h.1
              · rw [set_cell_other u h2.symm]; exact h.2
            have hS : W3.drew.cell? ⟨w.heap.size + 1 + 1 + 1 + 1, 0, none⟩ = some (.int .u64 V) ∧ W3.drew.cell? ⟨w.heap.size, 0, none⟩ = some (.int .i64 k) := ⟨s4, s0⟩
            (iterate 5 (refine wpK_take (v := ?_) (by kernel_rfl) (fun _ _ _ h => h) (Or.inl ⟨by rfl, ?_⟩) hS ?_; rotate_left; (next => (rintro X ⟨r1, r2⟩; (try simp only [List.getElem?_toArray, List.getElem?_cons_zero, List.getElem?_cons_succ, Option.getD_some]); go_simp; rfl)); simp only [List.getElem?_toArray, List.getElem?_cons_zero, List.getElem?_cons_succ, Option.getD_some, Act.put, List.setIfInBounds_toArray, List.set_cons_zero, List.set_cons_succ]))
            (refine wpK_one (by kernel_rfl) (fun K1 hK1 => ?_); simp only [List.getElem?_toArray, List.getElem?_cons_zero, List.getElem?_cons_succ, Option.getD_some, Act.put, List.setIfInBounds_toArray, List.set_cons_zero, List.set_cons_succ]; rw [if_pos (by rfl)]; go_simp)
            have hS2 := g1 W3 (w.heap.size + 1) (.int .u64 V) hS (by omega) (by omega)
            refine hK1.out _ _ (fun _ => hS2) ?_
            (refine wpK_one (by kernel_rfl) (fun K1 hK1 => ?_); simp only [List.getElem?_toArray, List.getElem?_cons_zero, List.getElem?_cons_succ, Option.getD_some, Act.put, List.setIfInBounds_toArray, List.set_cons_zero, List.set_cons_succ]; rw [if_pos (by rfl)]; go_simp)
            have hS3 := g1 _ (w.heap.size + 1 + 1) (.int .i64 ((k : Int) + 1)) hS2 (by omega) (by omega)
            refine hK1.out _ _ (fun _ => hS3) ?_
            (refine wpK_one (by kernel_rfl) (fun K1 hK1 => ?_); simp only [List.getElem?_toArray, List.getElem?_cons_zero, List.getElem?_cons_succ, Option.getD_some, Act.put, List.setIfInBounds_toArray, List.set_cons_zero, List.set_cons_succ]; rw [if_pos (by rfl)]; go_simp)
            refine hK1.out _ _ (fun _ => g1 _ (w.heap.size + 1 + 1 + 1) (.int .i64 0) hS3 (by omega) (by omega)) ?_
            refine wpK_done rfl ?_
            gi_wp2
            exact ⟨by rw [HZ0.out]; exact KB.out.trans (KBF.out _ _ _ _), rfl, (by have h := (HFIN.out _ Q1.out Q2.out Q3.out HB3.out).drew; rw [show (k : Int) + ((0 : Nat) : Int) + 1 = (k : Int) + 1 by omega] at h; exact h)⟩
        · have hj8 : j ≤ 8 := by omega
          have hGl : G = getG (j + 1) (m + y % 128 * U) (l.drop (j + 1)) := by rw [HGM.out, getG_cons, if_neg h2, HY.out, if_neg hlo, HU.out, show y % 128 = y - 128 by omega]
          have HGL := Lib.hid hGl
          have hmU : m < U := by
            have := HM.out
            rwa [HU.out] at this
          have HMU : Hid (m + y % 128 * U < 2 ^ (7 * (j + 1))) := Lib.hid (by
            rw [show 7 * (j + 1) = 7 + 7 * j by omega, Nat.pow_add, HU.out]
            have : (y % 128) * U ≤ 127 * U := Nat.mul_le_mul_right _ (by omega)
            omega)
          obtain ⟨j7, hj7⟩ : ∃ j7 : Nat, 7 * j = j7 := ⟨_, rfl⟩
          have e7 : IntKind.i64.wrap (7 * (j : Int)) = (j7 : Int) := by rw [← hj7, IntKind.wrap_i64]; omega
          have e7b : j7 ≤ 64 := by omega
          have HVV : Hid (bits .or .u64 (m : Int) (IntKind.u64.wrap (IntKind.u64.wrap (bits .and .u8 (y : Int) 127) * 2 ^ j7)) = ((m + y % 128 * U : Nat) : Int)) := Lib.hid (by
            rw [HAND.out, IntKind.wrap_u64, IntKind.wrap_u64, show ((y % 128 : Nat) : Int) % 18446744073709551616 = ((y % 128 : Nat) : Int) by omega, ← hj7, show (2 : Int) ^ (7 * j) = ((2 ^ (7 * j) : Nat) : Int) by simp, HU.out, ← Int.natCast_mul, show ((y % 128 * U : Nat) : Int) % 18446744073709551616 = ((y % 128 * U : Nat) : Int) by omega]
            exact HOR.out)
          obtain ⟨V, hV⟩ : ∃ V : Nat, m + y % 128 * U = V := ⟨_, rfl⟩
          rw [hV] at HVV HMU HGL
          have e9 : ((j : Int) == 9) = false := by simp; omega
          have e0 : ((y : Int) == 0) = false := by simp; omega
          have hlo' : ¬ (y : Int) < 128 := by omega
          have P0 := Lib.hid p0
          have P1 := Lib.hid p1
          have P2 := Lib.hid p2
          have P3 := Lib.hid p3
          have P4 := Lib.hid p4
          have HBB := Lib.hid hB
          have HZ0 := Lib.hid hz0
          clear h1 h2 h0 hyu hU8 hUb p1 p2 p3 p4 p0 hB hj7 hV hGl hmU
          gi_wp2
          refine wpInR_still_tail 8 (by kernel_rfl) (by kernel_rfl) (by rintro ⟨_, _, hx⟩; exact hx) (by kernel_rfl) ?_
          simp only [List.take_succ_cons, List.take_zero, List.drop_succ_cons, List.drop_zero]
          repeat still_step
          try refine wpStill_nil ?_
          rw [HVV.out]
          change wpList _ _ _ _ _ W2.drew
          go_wp2_with fail
          gi_wp2
          refine ⟨?_, ?_⟩
          · rw [HZ0.out]; exact ((Kb.refl _ _ _ _).setLow (p := ⟨w.heap.size + 1 + 1 + 1 + 1, 0, none⟩) _ (by simp <;> omega) (by simp <;> omega)).drew
          · refine ⟨set_far _ P0.out (by simp <;> omega), set_far _ P1.out (by simp <;> omega), set_far _ P2.out (by simp <;> omega), set_far _ P3.out (by simp <;> omega), ⟨V, blk1_put _ P4.out, by rw [HPL.out]; exact HMU.out, by rw [HPL.out]; exact HGL.out⟩, by rw [HPL.out]; omega, ?_, (HBB.out.setCell (p := ⟨w.heap.size + 1 + 1 + 1 + 1, 0, none⟩) (by simp <;> omega) _).drew⟩
            rcases HALL.out with h | h
            · exact absurd h (by simp only [HY.out]; omega)
            · exact h
  case done =>
    intro D W hD hI hK
    obtain ⟨p0, p1, p2, p3, ⟨m, p4, hm, hGm⟩, hj9, hall, hB⟩ := hI
    have hlen := grpL_all l 0 hall
    have hG4 : G = (0, 0, 4) := by rw [hGm, hlen, List.drop_length, getG_nil]
    have hgv : gv = 0 := by rw [← HV.out, hG4]
    have hge : ge = 4 := by rw [← HR.out, hG4]
    have hE : E = 0 := by rw [← HE.out, hG4]; rfl
    obtain ⟨v1, v1'⟩ := blk1 p1
    obtain ⟨v2, v2'⟩ := blk1 p2
    obtain ⟨v3, v3'⟩ := blk1 p3
    have P1 := Lib.hid p1
    have P2 := Lib.hid p2
    have P3 := Lib.hid p3
    have HBB := Lib.hid hB
    have HKK := Lib.hid hK
    clear hall hG4 hGm hlen hm p4
    subst hgv hge hE
    gi_wp2
    generalize hW5 : ((W.setCell ⟨w.heap.size + 1, 0, none⟩ (.int .u64 0)).setCell ⟨w.heap.size + 1 + 1, 0, none⟩ (.int .i64 0)).setCell ⟨w.heap.size + 1 + 1 + 1, 0, none⟩ (.int .i64 4) = W5
    have h1 : W5.heap[w.heap.size + 1]? = some (.cells #[.int .u64 0] 148 (0, 0)) := by rw [← hW5]; exact set_far _ (set_far _ (blk1_put _ P1.out) (by simp <;> omega)) (by simp <;> omega)
    have h2 : W5.heap[w.heap.size + 1 + 1]? = some (.cells #[.int .i64 0] 3 (0, 0)) := by rw [← hW5]; exact set_far _ (blk1_put _ (set_far _ P2.out (by simp <;> omega))) (by simp <;> omega)
    have h3 : W5.heap[w.heap.size + 1 + 1 + 1]? = some (.cells #[.int .i64 4] 35 (0, 0)) := by rw [← hW5]; exact blk1_put _ (set_far _ (set_far _ P3.out (by simp <;> omega)) (by simp <;> omega))
    have hKD : W5.heap[D]? = some (.deferred (some [])) := by rw [← hW5]; exact set_far _ (set_far _ (set_far _ HKK.out (by simp <;> omega)) (by simp <;> omega)) (by simp <;> omega)
    have h8 : Below w.heap.size w W5 := by rw [← hW5]; exact ((HBB.out.setCell (p := ⟨w.heap.size + 1, 0, none⟩) (by simp <;> omega) _).setCell (p := ⟨w.heap.size + 1 + 1, 0, none⟩) (by simp <;> omega) _).setCell (p := ⟨w.heap.size + 1 + 1 + 1, 0, none⟩) (by simp <;> omega) _
    clear hW5
    refine ⟨by simp, .inl ⟨_, _, rfl, run_takeDeferred (w := _) hKD, ?_⟩⟩
    have hT : Turn D (fun _ => false) W5 (W5.putObj D (.deferred none)) := Turn.putObj _ hKD (Nat.le_refl _) rfl
    have n1 := hT.block_low (by omega) h1
    have n2 := hT.block_low (by omega) h2
    have n3 := hT.block_low (by omega) h3
    have hbl := hT.below (by omega) h8.size h8
    generalize W5.putObj D (.deferred none) = W6 at *
    obtain ⟨m1, _⟩ := blk1 n1
    obtain ⟨m2, _⟩ := blk1 n2
    obtain ⟨m3, _⟩ := blk1 n3
    refine ⟨.tuple #[.int .u64 0, .int .i64 0, .int .i64 4], ?_, by simp, hbl⟩
    simp [results, Tryz.results140, go_sem, m1, m2, m3]
  case stop =>
    rintro D co pre x post W hD hL ⟨rfl, h1, h2, h3, h8⟩ hK
    gi_wp2
    refine ⟨by simp, .inl ⟨_, _, rfl, run_takeDeferred (w := _) hK, ?_⟩⟩
    have hT : Turn D (fun _ => false) W (W.putObj D (.deferred none)) := Turn.putObj _ hK (Nat.le_refl _) rfl
    have n1 := hT.block_low (by omega) h1
    have n2 := hT.block_low (by omega) h2
    have n3 := hT.block_low (by omega) h3
    have hbl := hT.below (by omega) h8.size h8
    generalize W.putObj D (.deferred none) = W6 at *
    obtain ⟨m1, _⟩ := blk1 n1
    obtain ⟨m2, _⟩ := blk1 n2
    obtain ⟨m3, _⟩ := blk1 n3
    refine ⟨.tuple #[.int .u64 gv, .int .i64 E, .int .i64 ge], ?_, rfl, hbl⟩
    simp [results, Tryz.results140, go_sem, m1, m2, m3]
end Go.Proofs.YtbnljlpefpllcaaGreatDoor
namespace Go.Proofs.YtbnljlpefpllcaaGreatDoor
open Go Go.RowKit
/-- What a closure's answer says. -/
def Ans (all : List UInt8) (F : Rs → Nat × Rs) (k v q : Nat) (er : Int) : Prop := F ⟨all.drop k, 0⟩ = (if er = 0 then (v, ⟨all.drop q, 0⟩) else (0, ⟨[], er⟩)) ∧ (er = 0 → q ≤ all.length)
theorem drop_get {all : List UInt8} {k : Nat} (hk : k ≤ all.length) (h : (getL (all.drop k)).2.2 = 0) : k + (getL (all.drop k)).2.1 ≤ all.length := by
  have := (getG_ok (all.drop k) 0 0 (by omega) (by omega) h).2.1
  rw [List.length_drop] at this
  unfold getL
  omega
set_option maxRecDepth 100000 in
set_option maxHeartbeats 4000000 in
theorem puint_fun (most bm : Nat) (all : List UInt8) (A : Option Addr) (c k g br : Nat) (w : World) (hg : w.heap[g]? = some (.cells #[.slice A all.length c, .int .i64 k, .int .i64 0] 153)) (hs : Slc 1 RB w A c all) (hk : k ≤ all.length) (hl : all.length ≤ 1000000) (h1 : w.cell? ⟨br, 0, none⟩ = some (.pointer (some ⟨g, 0, none⟩))) (h2 : w.cell? ⟨bm, 0, none⟩ = some (.int .u64 most)) :
    Calls Tryz.prog 144 #[.pointer (some ⟨br, 0, none⟩), .pointer (some ⟨bm, 0, none⟩)] w fun e' w' => ∃ (v q : Nat) (er : Int), e' = .returned (.tuple #[.int .u64 v, .int .i64 q, .int .i64 er]) ∧ Ans all (uintS most) k v q er ∧ Below w.heap.size w w' := by
  have x0 : w.cell? ⟨g, 0, none⟩ = some (.slice A all.length c) := by simp [World.cell?, hg]
  have x1 : w.cell? ⟨g, 1, none⟩ = some (.int .i64 k) := by simp [World.cell?, hg]
  have HG := Lib.hid (pget_any all A c k w.drew (hs.keep RB.keeps (Below.refl _ w).drew) hk hl)
  have HD := Lib.hid (fun h => drop_get hk h)
  have HU : Hid (uintS most ⟨all.drop k, 0⟩ = if (getL (all.drop k)).2.2 = 0 then (if most < (getL (all.drop k)).1 then (0, ⟨[], 15⟩) else ((getL (all.drop k)).1, ⟨all.drop (k + (getL (all.drop k)).2.1), 0⟩)) else (0, ⟨[], (getL (all.drop k)).2.2⟩)) := Lib.hid (by
    unfold uintS
    simp only [if_true, List.drop_drop])
  have hle := hs.le
  have hbg := hs.big
  clear hs hg
  generalize getL (all.drop k) = R at *
  obtain ⟨v, t, er⟩ := R
  simp only at HG HD HU
  obtain ⟨E, hE⟩ : ∃ E : Int, (if er = 0 then (k : Int) + t else 0) = E := ⟨_, rfl⟩
  rw [hE] at HG
  have HEE := Lib.hid hE
  clear hE
  go_enter Tryz.func144, Tryz.ntmps144
  go_wp2_with fail
  refine wp_region_k (S := fun X => X.cell? ⟨br, 0, none⟩ = some (.pointer (some ⟨g, 0, none⟩)) ∧ X.cell? ⟨g, 0, none⟩ = some (.slice A all.length c) ∧ X.cell? ⟨g, 1, none⟩ = some (.int .i64 k)) (by kernel_rfl) ?_
  have hS : w.drew.cell? ⟨br, 0, none⟩ = some (.pointer (some ⟨g, 0, none⟩)) ∧ w.drew.cell? ⟨g, 0, none⟩ = some (.slice A all.length c) ∧ w.drew.cell? ⟨g, 1, none⟩ = some (.int .i64 k) := ⟨h1, x0, x1⟩
  (iterate 10 (refine wpK_take (v := ?_) (by kernel_rfl) (fun _ _ _ h => h) (Or.inl ⟨by rfl, ?_⟩) hS ?_; rotate_left; (next => (rintro X ⟨s1, s2, s3⟩; (try simp only [List.getElem?_toArray, List.getElem?_cons_zero, List.getElem?_cons_succ, Option.getD_some]); go_simp; rfl)); simp only [List.getElem?_toArray, List.getElem?_cons_zero, List.getElem?_cons_succ, Option.getD_some, Act.put, List.setIfInBounds_toArray, List.set_cons_zero, List.set_cons_succ]))
  (refine wpK_one (by kernel_rfl) (fun K1 hK1 => ?_); simp only [List.getElem?_toArray, List.getElem?_cons_zero, List.getElem?_cons_succ, Option.getD_some, Act.put, List.setIfInBounds_toArray, List.set_cons_zero, List.set_cons_succ]; rw [if_pos (by rfl)]; go_simp)
  refine HG.out.mono ?_
  rintro e' w1 ⟨rfl, hb1⟩
  replace hS : w1.cell? ⟨br, 0, none⟩ = some (.pointer (some ⟨g, 0, none⟩)) ∧ w1.cell? ⟨g, 0, none⟩ = some (.slice A all.length c) ∧ w1.cell? ⟨g, 1, none⟩ = some (.int .i64 k) := ⟨cell_keep hb1 hS.1, cell_keep hb1 hS.2.1, cell_keep hb1 hS.2.2⟩
  refine hK1.out _ _ (fun _ => hS) ?_
  (iterate 7 (refine wpK_take (v := ?_) (by kernel_rfl) (fun _ _ _ h => h) (Or.inl ⟨by rfl, ?_⟩) hS ?_; rotate_left; (next => (rintro X _; (try simp only [List.getElem?_toArray, List.getElem?_cons_zero, List.getElem?_cons_succ, Option.getD_some]); go_simp; rfl)); simp only [List.getElem?_toArray, List.getElem?_cons_zero, List.getElem?_cons_succ, Option.getD_some, Act.put, List.setIfInBounds_toArray, List.set_cons_zero, List.set_cons_succ]))
  refine wpK_done rfl ?_
  have y2 := cell_keep hb1 h2
  have HB1 : Hid (Below w.heap.size w w1) := Lib.hid ((Below.refl _ w).drew.trans hb1)
  clear hb1 hS h1 h2 x0 x1
  by_cases he : er = 0
  · subst he
    have e1 : E = ((k + t : Nat) : Int) := by rw [← HEE.out]; simp
    subst e1
    by_cases hm : most < v
    · have hm' : (most : Int) < (v : Int) := by omega
      go_wp2_with fail
      refine bodyPost_ret (v := .tuple #[.int .u64 v, .int .i64 (k + t : Nat), .int .i64 15]) (by simp [results, Tryz.results144, go_sem] <;> rfl) rfl ?_
      refine ⟨v, k + t, 15, by simp, ⟨?_, fun h => by cases h⟩, HB1.out⟩
      rw [HU.out]; simp [hm]
    · have hm' : ¬ (most : Int) < (v : Int) := by omega
      go_wp2_with fail
      refine bodyPost_ret (v := .tuple #[.int .u64 v, .int .i64 (k + t : Nat), .int .i64 0]) (by simp [results, Tryz.results144, go_sem] <;> rfl) rfl ?_
      refine ⟨v, k + t, 0, by simp, ⟨?_, fun _ => HD.out (by simp)⟩, HB1.out⟩
      rw [HU.out]; simp [hm]
  · have e2 : (er == 0) = false := by simp [he]
    have e3 : (er != 0) = true := by simp [he]
    have e1 : E = ((0 : Nat) : Int) := by rw [← HEE.out, if_neg he]; rfl
    subst e1
    go_wp2_with fail
    refine bodyPost_ret (v := .tuple #[.int .u64 v, .int .i64 (0 : Nat), .int .i64 er]) (by simp [results, Tryz.results144, go_sem] <;> rfl) rfl ?_
    refine ⟨v, 0, er, by simp, ⟨?_, fun h => absurd h he⟩, HB1.out⟩
    rw [HU.out]; simp [he]
set_option maxRecDepth 100000 in
set_option maxHeartbeats 4000000 in
theorem pcount_fun (bm : Nat) (all : List UInt8) (A : Option Addr) (c k g br : Nat) (w : World) (hg : w.heap[g]? = some (.cells #[.slice A all.length c, .int .i64 k, .int .i64 0] 153)) (hs : Slc 1 RB w A c all) (hk : k ≤ all.length) (hl : all.length ≤ 1000000) (h1 : w.cell? ⟨br, 0, none⟩ = some (.pointer (some ⟨g, 0, none⟩))) (h2 : w.cell? ⟨bm, 0, none⟩ = some (.int .i64 65535)) :
    Calls Tryz.prog 139 #[.pointer (some ⟨br, 0, none⟩), .pointer (some ⟨bm, 0, none⟩)] w fun e' w' => ∃ (v q : Nat) (er : Int), e' = .returned (.tuple #[.int .i64 v, .int .i64 q, .int .i64 er]) ∧ Ans all (countS 65535) k v q er ∧ Below w.heap.size w w' := by
  have x0 : w.cell? ⟨g, 0, none⟩ = some (.slice A all.length c) := by simp [World.cell?, hg]
  have x1 : w.cell? ⟨g, 1, none⟩ = some (.int .i64 k) := by simp [World.cell?, hg]
  have HG := Lib.hid (pget_any all A c k w.drew (hs.keep RB.keeps (Below.refl _ w).drew) hk hl)
  have HD := Lib.hid (fun h => drop_get hk h)
  have HU : Hid (countS 65535 ⟨all.drop k, 0⟩ = if (getL (all.drop k)).2.2 = 0 then (if 65535 < (getL (all.drop k)).1 then (0, ⟨[], 15⟩) else if all.length - (k + (getL (all.drop k)).2.1) < (getL (all.drop k)).1 then (0, ⟨[], 4⟩) else ((getL (all.drop k)).1, ⟨all.drop (k + (getL (all.drop k)).2.1), 0⟩)) else (0, ⟨[], (getL (all.drop k)).2.2⟩)) := Lib.hid (by
    unfold countS
    simp only [if_true, List.drop_drop, List.length_drop])
  have hle := hs.le
  have hbg := hs.big
  clear hs hg
  generalize getL (all.drop k) = R at *
  obtain ⟨v, t, er⟩ := R
  simp only at HG HD HU
  obtain ⟨E, hE⟩ : ∃ E : Int, (if er = 0 then (k : Int) + t else 0) = E := ⟨_, rfl⟩
  rw [hE] at HG
  have HEE := Lib.hid hE
  clear hE
  go_enter Tryz.func139, Tryz.ntmps139
  go_wp2_with fail
  refine wp_region_k (S := fun X => X.cell? ⟨br, 0, none⟩ = some (.pointer (some ⟨g, 0, none⟩)) ∧ X.cell? ⟨g, 0, none⟩ = some (.slice A all.length c) ∧ X.cell? ⟨g, 1, none⟩ = some (.int .i64 k)) (by kernel_rfl) ?_
  have hS : w.drew.cell? ⟨br, 0, none⟩ = some (.pointer (some ⟨g, 0, none⟩)) ∧ w.drew.cell? ⟨g, 0, none⟩ = some (.slice A all.length c) ∧ w.drew.cell? ⟨g, 1, none⟩ = some (.int .i64 k) := ⟨h1, x0, x1⟩
  (iterate 10 (refine wpK_take (v := ?_) (by kernel_rfl) (fun _ _ _ h => h) (Or.inl ⟨by rfl, ?_⟩) hS ?_; rotate_left; (next => (rintro X ⟨s1, s2, s3⟩; (try simp only [List.getElem?_toArray, List.getElem?_cons_zero, List.getElem?_cons_succ, Option.getD_some]); go_simp; rfl)); simp only [List.getElem?_toArray, List.getElem?_cons_zero, List.getElem?_cons_succ, Option.getD_some, Act.put, List.setIfInBounds_toArray, List.set_cons_zero, List.set_cons_succ]))
  (refine wpK_one (by kernel_rfl) (fun K1 hK1 => ?_); simp only [List.getElem?_toArray, List.getElem?_cons_zero, List.getElem?_cons_succ, Option.getD_some, Act.put, List.setIfInBounds_toArray, List.set_cons_zero, List.set_cons_succ]; rw [if_pos (by rfl)]; go_simp)
  refine HG.out.mono ?_
  rintro e' w1 ⟨rfl, hb1⟩
  replace hS : w1.cell? ⟨br, 0, none⟩ = some (.pointer (some ⟨g, 0, none⟩)) ∧ w1.cell? ⟨g, 0, none⟩ = some (.slice A all.length c) ∧ w1.cell? ⟨g, 1, none⟩ = some (.int .i64 k) := ⟨cell_keep hb1 hS.1, cell_keep hb1 hS.2.1, cell_keep hb1 hS.2.2⟩
  refine hK1.out _ _ (fun _ => hS) ?_
  (iterate 7 (refine wpK_take (v := ?_) (by kernel_rfl) (fun _ _ _ h => h) (Or.inl ⟨by rfl, ?_⟩) hS ?_; rotate_left; (next => (rintro X _; (try simp only [List.getElem?_toArray, List.getElem?_cons_zero, List.getElem?_cons_succ, Option.getD_some]); go_simp; rfl)); simp only [List.getElem?_toArray, List.getElem?_cons_zero, List.getElem?_cons_succ, Option.getD_some, Act.put, List.setIfInBounds_toArray, List.set_cons_zero, List.set_cons_succ]))
  refine wpK_done rfl ?_
  have y2 := cell_keep hb1 h2
  have HB1 : Hid (Below w.heap.size w w1) := Lib.hid ((Below.refl _ w).drew.trans hb1)
  clear hb1 h1 h2 x0 x1
  have x0' := hS.2.1
  by_cases he : er = 0
  · subst he
    have e1 : E = ((k + t : Nat) : Int) := by rw [← HEE.out]; simp
    subst e1
    have hkt := HD.out (by simp)
    have hf : w1.cell? ⟨br, 0, none⟩ = some (.pointer (some ⟨g, 0, none⟩)) := hS.1
    by_cases hm : 65535 < v
    · have hm' : (65535 : Int) < (v : Int) := by omega
      clear hS
      go_wp2_with fail
      refine bodyPost_ret (v := .tuple #[.int .i64 (0 : Nat), .int .i64 (0 : Nat), .int .i64 15]) (by simp [results, Tryz.results139, go_sem] <;> rfl) rfl ?_
      refine ⟨0, 0, 15, by simp, ⟨?_, fun h => by cases h⟩, HB1.out⟩
      rw [HU.out]; simp [hm]
    · have hm' : ¬ (65535 : Int) < (v : Int) := by omega
      by_cases hn : all.length - (k + t) < v
      · have hn' : (all.length : Int) - ((k + t : Nat) : Int) < (v : Int) := by omega
        have hw1 : IntKind.i64.wrap ((all.length : Int) - ((k + t : Nat) : Int)) = (all.length : Int) - ((k + t : Nat) : Int) := by rw [IntKind.wrap_i64]; omega
        have hw2 : IntKind.u64.wrap ((all.length : Int) - ((k + t : Nat) : Int)) = (all.length : Int) - ((k + t : Nat) : Int) := by rw [IntKind.wrap_u64]; omega
        clear hS
        go_wp2_with fail
        refine bodyPost_ret (v := .tuple #[.int .i64 (0 : Nat), .int .i64 (0 : Nat), .int .i64 4]) (by simp [results, Tryz.results139, go_sem] <;> rfl) rfl ?_
        refine ⟨0, 0, 4, by simp, ⟨?_, fun h => by cases h⟩, HB1.out⟩
        rw [HU.out]; simp [hm, hn]
      · have hn' : ¬ (all.length : Int) - ((k + t : Nat) : Int) < (v : Int) := by omega
        have hw1 : IntKind.i64.wrap ((all.length : Int) - ((k + t : Nat) : Int)) = (all.length : Int) - ((k + t : Nat) : Int) := by rw [IntKind.wrap_i64]; omega
        have hw2 : IntKind.u64.wrap ((all.length : Int) - ((k + t : Nat) : Int)) = (all.length : Int) - ((k + t : Nat) : Int) := by rw [IntKind.wrap_u64]; omega
        have hw3 : IntKind.i64.wrap (v : Int) = (v : Int) := by rw [IntKind.wrap_i64]; omega
        clear hS
        go_wp2_with fail
        refine bodyPost_ret (v := .tuple #[.int .i64 v, .int .i64 (k + t : Nat), .int .i64 0]) (by simp [results, Tryz.results139, go_sem] <;> rfl) rfl ?_
        refine ⟨v, k + t, 0, by simp, ⟨?_, fun _ => hkt⟩, HB1.out⟩
        rw [HU.out]; simp [hm, hn]
  · have e2 : (er == 0) = false := by simp [he]
    have e3 : (er != 0) = true := by simp [he]
    clear hS
    go_wp2_with fail
    refine bodyPost_ret (v := .tuple #[.int .i64 (0 : Nat), .int .i64 (0 : Nat), .int .i64 er]) (by simp [results, Tryz.results139, go_sem] <;> rfl) rfl ?_
    refine ⟨0, 0, er, by simp, ⟨?_, fun h => absurd h he⟩, HB1.out⟩
    rw [HU.out]; simp [he]
set_option maxRecDepth 100000 in
set_option maxHeartbeats 4000000 in
theorem pbyte_fun (all : List UInt8) (A : Option Addr) (c k g br : Nat) (w : World) (hg : w.heap[g]? = some (.cells #[.slice A all.length c, .int .i64 k, .int .i64 0] 153)) (hs : Slc 1 RB w A c all) (hk : k ≤ all.length) (hl : all.length ≤ 1000000) (h1 : w.cell? ⟨br, 0, none⟩ = some (.pointer (some ⟨g, 0, none⟩))) :
    Calls Tryz.prog 142 #[.pointer (some ⟨br, 0, none⟩)] w fun e' w' => ∃ (v q : Nat) (er : Int), e' = .returned (.tuple #[.int .u8 v, .int .i64 q, .int .i64 er]) ∧ Ans all byteS k v q er ∧ Below w.heap.size w w' := by
  have x0 : w.cell? ⟨g, 0, none⟩ = some (.slice A all.length c) := by simp [World.cell?, hg]
  have x1 : w.cell? ⟨g, 1, none⟩ = some (.int .i64 k) := by simp [World.cell?, hg]
  have hle := hs.le
  have hbg := hs.big
  have HS := Lib.hid hs
  clear hs hg
  by_cases hlt : k < all.length
  · have hd : all.drop k = all[k] :: all.drop (k + 1) := List.drop_eq_getElem_cons hlt
    obtain ⟨b, o, rfl, hb', r0⟩ := HS.out.sl.at_ hlt
    have HU : Hid (byteS ⟨all.drop k, 0⟩ = (all[k].toNat, ⟨all.drop (k + 1), 0⟩)) := Lib.hid (by unfold byteS; simp only [if_true, hd])
    generalize all[k] = c0 at *
    have x2 : w.cell? ⟨b, o + k, none⟩ = some (.int .u8 c0.toNat) := by simpa [RB] using r0
    have e1 : ((k : Int) == (all.length : Int)) = false := by simp; omega
    have e2 : IntKind.i64.wrap ((k : Int) + 1) = (k : Int) + 1 := by rw [IntKind.wrap_i64]; omega
    have HLT := Lib.hid (show k + 1 ≤ all.length from hlt)
    clear hd r0 HS
    obtain ⟨n0, hn0⟩ : ∃ n0, all.length = n0 := ⟨_, rfl⟩
    rw [hn0] at x0 e1 hle hlt hl
    clear hn0
    go_enter Tryz.func142, Tryz.ntmps142
    go_wp2_with fail
    go_quiet (fail)
    go_wp2_with fail
    go_quiet (fail)
    go_wp2_with fail
    refine bodyPost_ret (v := .tuple #[.int .u8 c0.toNat, .int .i64 ((k : Int) + 1), .int .i64 0]) (by simp [results, Tryz.results142, go_sem] <;> rfl) rfl ?_
    refine ⟨c0.toNat, k + 1, 0, by simp, ⟨?_, fun _ => HLT.out⟩, below_drewN (below_drewN (Below.refl _ _) _) _⟩
    rw [HU.out]; simp
  · have hke : k = all.length := by omega
    have HU : Hid (byteS ⟨all.drop k, 0⟩ = (0, ⟨[], 4⟩)) := Lib.hid (by unfold byteS; simp [hke])
    have e1 : ((k : Int) == (all.length : Int)) = true := by simp; omega
    have HKE := Lib.hid hke
    clear HS hke
    go_enter Tryz.func142, Tryz.ntmps142
    go_wp2_with fail
    go_quiet (fail)
    go_wp2_with fail
    refine bodyPost_ret (v := .tuple #[.int .u8 (0 : Nat), .int .i64 (0 : Nat), .int .i64 4]) (by simp [results, Tryz.results142, go_sem] <;> rfl) rfl ?_
    refine ⟨0, 0, 4, by simp, ⟨?_, fun h => by cases h⟩, below_drewN (Below.refl _ _) _⟩
    rw [HU.out]; simp
end Go.Proofs.YtbnljlpefpllcaaGreatDoor
namespace Go.Proofs.YtbnljlpefpllcaaGreatDoor
open Go Go.RowKit
theorem trip_put1 {w : World} {k : Nat} {a b c : Value} {t : TypeId} (x : Value) (h : w.heap[k]? = some (.cells #[a, b, c] t)) : (w.setCell ⟨k, 1, none⟩ x).heap[k]? = some (.cells #[a, x, c] t) := by
  simp [World.setCell, Array.getElem?_modify, h]
theorem trip_put2 {w : World} {k : Nat} {a b c : Value} {t : TypeId} (x : Value) (h : w.heap[k]? = some (.cells #[a, b, c] t)) : (w.setCell ⟨k, 2, none⟩ x).heap[k]? = some (.cells #[a, b, x] t) := by
  simp [World.setCell, Array.getElem?_modify, h]
set_option maxRecDepth 100000 in
set_option maxHeartbeats 4000000 in
theorem pu_read (F : Rs → Nat × Rs) (hF : ∀ s, s.err ≠ 0 → F s = (0, s)) (lb : Array Value) (g : Nat) (s : Rs) (w : World) (hr : PRd w g s)
    (hf : ∀ (all : List UInt8) (A : Option Addr) (c k : Nat), w.heap[g]? = some (.cells #[.slice A all.length c, .int .i64 k, .int .i64 0] 153) → Slc 1 RB w A c all → k ≤ all.length → all.length ≤ 1000000 →
      Calls Tryz.prog 144 lb w fun e' w' => ∃ (v q : Nat) (er : Int), e' = .returned (.tuple #[.int .u64 v, .int .i64 q, .int .i64 er]) ∧ Ans all F k v q er ∧ Below w.heap.size w w') :
    Calls Tryz.prog 143 #[.pointer (some ⟨g, 0, none⟩), .func (.func 144) #[] lb] w fun e' w' => e' = .returned (.int .u64 (F s).1) ∧ PRd w' g (F s).2 ∧ But g w w' := by
  obtain ⟨l, er0⟩ := s
  have HR := Lib.hid hr
  have x2 := hr.err
  obtain ⟨all, A, c, k, hg, hs, hne, hk, hl, hrest⟩ := hr
  simp only at hg hrest x2
  have hlt : g < w.heap.size := (Array.getElem?_eq_some_iff.1 hg).1
  by_cases h0 : er0 = 0
  · subst h0
    have HF := Lib.hid (hf all A c k hg hs hk hl)
    have hl0 := hrest rfl
    subst hl0
    have HG := Lib.hid hg
    have HS := Lib.hid hs
    have HN := Lib.hid hne
    have HL := Lib.hid hlt
    clear hf hF hg hs hrest hne hlt
    go_enter Tryz.func143, Tryz.ntmps143
    go_wp2_with (go_at_call 144; refine HF.out.mono ?_; rintro e' w1 ⟨v, q, er, rfl, ha, hb1⟩; have HA := Lib.hid ha; have HB1 := Lib.hid hb1; have y2 := cell_keep hb1 x2; have hg1 := (hb1.block g HL.out).trans HG.out; have y1 : w1.cell? ⟨g, 1, none⟩ = some (.int .i64 k) := (by simp [World.cell?, hg1]); have f1 : w1.frozen? ⟨g, 1, none⟩ = false := (by simp [World.frozen?, hg1]); have f2 : w1.frozen? ⟨g, 2, none⟩ = false := (by simp [World.frozen?, hg1]); have HG1 := Lib.hid hg1; clear ha hb1 hg1)
    all_goals
      obtain ⟨a1, a2⟩ := HA.out
      by_cases he : er = 0
      · first
        | (exfalso
           clear HA HF HR HB1 a1 a2 HG1 y1 y2 f1 f2 HG HS HN HL
           subst he
           contradiction)
        | (subst he
           rw [if_pos rfl] at a1
           go_ret
           rw [a1]
           exact ⟨rfl, ⟨all, A, c, q, trip_put1 _ HG1.out, slc_set _ (HS.out.keep RB.keeps HB1.out) (fun a h _ => HN.out a h), HN.out, a2 rfl, hl, fun _ => rfl⟩, but_set (But.of_below HB1.out) _ _⟩)
      · rw [if_neg he] at a1
        first
        | (exfalso
           clear HA HF HR HB1 a1 a2 HG1 y1 y2 f1 f2 HG HS HN HL
           have hx : (er != 0) = true := bne_iff_ne.2 he
           simp_all
           done)
        | (go_ret
           rw [a1]
           exact ⟨rfl, ⟨all, A, c, k, trip_put2 _ HG1.out, slc_set _ (HS.out.keep RB.keeps HB1.out) (fun a h _ => HN.out a h), HN.out, hk, hl, fun h => absurd h he⟩, but_set (But.of_below HB1.out) _ _⟩)
  · have e2 : (er0 == 0) = false := by simp [h0]
    have e3 : (er0 != 0) = true := by simp [h0]
    have HFF : Hid (F ⟨l, er0⟩ = (0, ⟨l, er0⟩)) := Lib.hid (hF _ h0)
    clear hf hF hg hs hrest hne
    go_enter Tryz.func143, Tryz.ntmps143
    go_wp2_with fail
    go_ret
    rw [HFF.out]
    exact ⟨rfl, HR.out, But.refl _ _⟩
set_option maxRecDepth 100000 in
set_option maxHeartbeats 4000000 in
theorem pc_read (F : Rs → Nat × Rs) (hF : ∀ s, s.err ≠ 0 → F s = (0, s)) (lb : Array Value) (g : Nat) (s : Rs) (w : World) (hr : PRd w g s)
    (hf : ∀ (all : List UInt8) (A : Option Addr) (c k : Nat), w.heap[g]? = some (.cells #[.slice A all.length c, .int .i64 k, .int .i64 0] 153) → Slc 1 RB w A c all → k ≤ all.length → all.length ≤ 1000000 →
      Calls Tryz.prog 139 lb w fun e' w' => ∃ (v q : Nat) (er : Int), e' = .returned (.tuple #[.int .i64 v, .int .i64 q, .int .i64 er]) ∧ Ans all F k v q er ∧ Below w.heap.size w w') :
    Calls Tryz.prog 138 #[.pointer (some ⟨g, 0, none⟩), .func (.func 139) #[] lb] w fun e' w' => e' = .returned (.int .i64 (F s).1) ∧ PRd w' g (F s).2 ∧ But g w w' := by
  obtain ⟨l, er0⟩ := s
  have HR := Lib.hid hr
  have x2 := hr.err
  obtain ⟨all, A, c, k, hg, hs, hne, hk, hl, hrest⟩ := hr
  simp only at hg hrest x2
  have hlt : g < w.heap.size := (Array.getElem?_eq_some_iff.1 hg).1
  by_cases h0 : er0 = 0
  · subst h0
    have HF := Lib.hid (hf all A c k hg hs hk hl)
    have hl0 := hrest rfl
    subst hl0
    have HG := Lib.hid hg
    have HS := Lib.hid hs
    have HN := Lib.hid hne
    have HL := Lib.hid hlt
    clear hf hF hg hs hrest hne hlt
    go_enter Tryz.func138, Tryz.ntmps138
    go_wp2_with (go_at_call 139; refine HF.out.mono ?_; rintro e' w1 ⟨v, q, er, rfl, ha, hb1⟩; have HA := Lib.hid ha; have HB1 := Lib.hid hb1; have y2 := cell_keep hb1 x2; have hg1 := (hb1.block g HL.out).trans HG.out; have y1 : w1.cell? ⟨g, 1, none⟩ = some (.int .i64 k) := (by simp [World.cell?, hg1]); have f1 : w1.frozen? ⟨g, 1, none⟩ = false := (by simp [World.frozen?, hg1]); have f2 : w1.frozen? ⟨g, 2, none⟩ = false := (by simp [World.frozen?, hg1]); have HG1 := Lib.hid hg1; clear ha hb1 hg1)
    all_goals
      obtain ⟨a1, a2⟩ := HA.out
      by_cases he : er = 0
      · first
        | (exfalso
           clear HA HF HR HB1 a1 a2 HG1 y1 y2 f1 f2 HG HS HN HL
           subst he
           contradiction)
        | (subst he
           rw [if_pos rfl] at a1
           go_ret
           rw [a1]
           exact ⟨rfl, ⟨all, A, c, q, trip_put1 _ HG1.out, slc_set _ (HS.out.keep RB.keeps HB1.out) (fun a h _ => HN.out a h), HN.out, a2 rfl, hl, fun _ => rfl⟩, but_set (But.of_below HB1.out) _ _⟩)
      · rw [if_neg he] at a1
        first
        | (exfalso
           clear HA HF HR HB1 a1 a2 HG1 y1 y2 f1 f2 HG HS HN HL
           have hx : (er != 0) = true := bne_iff_ne.2 he
           simp_all
           done)
        | (go_ret
           rw [a1]
           exact ⟨rfl, ⟨all, A, c, k, trip_put2 _ HG1.out, slc_set _ (HS.out.keep RB.keeps HB1.out) (fun a h _ => HN.out a h), HN.out, hk, hl, fun h => absurd h he⟩, but_set (But.of_below HB1.out) _ _⟩)
  · have e2 : (er0 == 0) = false := by simp [h0]
    have e3 : (er0 != 0) = true := by simp [h0]
    have HFF : Hid (F ⟨l, er0⟩ = (0, ⟨l, er0⟩)) := Lib.hid (hF _ h0)
    clear hf hF hg hs hrest hne
    go_enter Tryz.func138, Tryz.ntmps138
    go_wp2_with fail
    go_ret
    rw [HFF.out]
    exact ⟨rfl, HR.out, But.refl _ _⟩
set_option maxRecDepth 100000 in
set_option maxHeartbeats 4000000 in
theorem pb_read (F : Rs → Nat × Rs) (hF : ∀ s, s.err ≠ 0 → F s = (0, s)) (lb : Array Value) (g : Nat) (s : Rs) (w : World) (hr : PRd w g s)
    (hf : ∀ (all : List UInt8) (A : Option Addr) (c k : Nat), w.heap[g]? = some (.cells #[.slice A all.length c, .int .i64 k, .int .i64 0] 153) → Slc 1 RB w A c all → k ≤ all.length → all.length ≤ 1000000 →
      Calls Tryz.prog 142 lb w fun e' w' => ∃ (v q : Nat) (er : Int), e' = .returned (.tuple #[.int .u8 v, .int .i64 q, .int .i64 er]) ∧ Ans all F k v q er ∧ Below w.heap.size w w') :
    Calls Tryz.prog 141 #[.pointer (some ⟨g, 0, none⟩), .func (.func 142) #[] lb] w fun e' w' => e' = .returned (.int .u8 (F s).1) ∧ PRd w' g (F s).2 ∧ But g w w' := by
  obtain ⟨l, er0⟩ := s
  have HR := Lib.hid hr
  have x2 := hr.err
  obtain ⟨all, A, c, k, hg, hs, hne, hk, hl, hrest⟩ := hr
  simp only at hg hrest x2
  have hlt : g < w.heap.size := (Array.getElem?_eq_some_iff.1 hg).1
  by_cases h0 : er0 = 0
  · subst h0
    have HF := Lib.hid (hf all A c k hg hs hk hl)
    have hl0 := hrest rfl
    subst hl0
    have HG := Lib.hid hg
    have HS := Lib.hid hs
    have HN := Lib.hid hne
    have HL := Lib.hid hlt
    clear hf hF hg hs hrest hne hlt
    go_enter Tryz.func141, Tryz.ntmps141
    go_wp2_with (go_at_call 142; refine HF.out.mono ?_; rintro e' w1 ⟨v, q, er, rfl, ha, hb1⟩; have HA := Lib.hid ha; have HB1 := Lib.hid hb1; have y2 := cell_keep hb1 x2; have hg1 := (hb1.block g HL.out).trans HG.out; have y1 : w1.cell? ⟨g, 1, none⟩ = some (.int .i64 k) := (by simp [World.cell?, hg1]); have f1 : w1.frozen? ⟨g, 1, none⟩ = false := (by simp [World.frozen?, hg1]); have f2 : w1.frozen? ⟨g, 2, none⟩ = false := (by simp [World.frozen?, hg1]); have HG1 := Lib.hid hg1; clear ha hb1 hg1)
    all_goals
      obtain ⟨a1, a2⟩ := HA.out
      by_cases he : er = 0
      · first
        | (exfalso
           clear HA HF HR HB1 a1 a2 HG1 y1 y2 f1 f2 HG HS HN HL
           subst he
           contradiction)
        | (subst he
           rw [if_pos rfl] at a1
           go_ret
           rw [a1]
           exact ⟨rfl, ⟨all, A, c, q, trip_put1 _ HG1.out, slc_set _ (HS.out.keep RB.keeps HB1.out) (fun a h _ => HN.out a h), HN.out, a2 rfl, hl, fun _ => rfl⟩, but_set (But.of_below HB1.out) _ _⟩)
      · rw [if_neg he] at a1
        first
        | (exfalso
           clear HA HF HR HB1 a1 a2 HG1 y1 y2 f1 f2 HG HS HN HL
           have hx : (er != 0) = true := bne_iff_ne.2 he
           simp_all
           done)
        | (go_ret
           rw [a1]
           exact ⟨rfl, ⟨all, A, c, k, trip_put2 _ HG1.out, slc_set _ (HS.out.keep RB.keeps HB1.out) (fun a h _ => HN.out a h), HN.out, hk, hl, fun h => absurd h he⟩, but_set (But.of_below HB1.out) _ _⟩)
  · have e2 : (er0 == 0) = false := by simp [h0]
    have e3 : (er0 != 0) = true := by simp [h0]
    have HFF : Hid (F ⟨l, er0⟩ = (0, ⟨l, er0⟩)) := Lib.hid (hF _ h0)
    clear hf hF hg hs hrest hne
    go_enter Tryz.func141, Tryz.ntmps141
    go_wp2_with fail
    go_ret
    rw [HFF.out]
    exact ⟨rfl, HR.out, But.refl _ _⟩
end Go.Proofs.YtbnljlpefpllcaaGreatDoor
