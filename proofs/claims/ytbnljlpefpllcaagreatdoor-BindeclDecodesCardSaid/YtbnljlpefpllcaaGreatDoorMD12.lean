/-
  Parts of the proof: V27 V11 V12 V14 V4 V5 V6 V7 V8 Pair.
-/
import Derived.Test.YtbnljlpefpllcaaGreatDoorMD5
import Derived.Test.YtbnljlpefpllcaaGreatDoorSg
import Derived.Test.YtbnljlpefpllcaaGreatDoorMD3
import Derived.Test.YtbnljlpefpllcaaGreatDoorMD6
import Derived.Deep.MidRow
namespace Go.Proofs.YtbnljlpefpllcaaGreatDoor
open Go Go.RowKit
/-- One step: two types are compared, their parts by S. -/
def subS (pairs : List (Int × Int)) (n : Int) (S : Int → Int → Bool) (a b : Ty) : Bool :=
  decide (a.kind = b.kind) && decide (a.mu = b.mu) && decide (a.flds.length = b.flds.length) && (a.flds.zip b.flds).all (fun p => S p.1 p.2) &&
    (decide (a.kind ≠ 3) || (outB pairs n a.reg b.reg && S a.elem b.elem && (!a.mu || S b.elem a.elem)))
theorem subF_succ (pairs : List (Int × Int)) (n : Int) (ts : List Ty) (f : Nat) (s t : Int) : subF pairs n ts (f + 1) s t = if s < 0 ∨ t < 0 then false else match ts[s.toNat]?, ts[t.toNat]? with
    | some a, some b => subS pairs n (subF pairs n ts f) a b
    | _, _ => false := rfl
theorem subS_congr {pairs : List (Int × Int)} {n : Int} {S S' : Int → Int → Bool} {a b : Ty} (h : ∀ x ∈ a.flds, ∀ y ∈ b.flds, S x y = S' x y) (h3 : a.kind = 3 → b.kind = 3 → S a.elem b.elem = S' a.elem b.elem ∧ S b.elem a.elem = S' b.elem a.elem) :
    subS pairs n S a b = subS pairs n S' a b := by
  unfold subS
  have e1 : (a.flds.zip b.flds).all (fun p => S p.1 p.2) = (a.flds.zip b.flds).all (fun p => S' p.1 p.2) := by
    rw [Bool.eq_iff_iff, List.all_eq_true, List.all_eq_true]
    constructor
    · intro g p hp
      have := List.of_mem_zip hp
      rw [← h p.1 this.1 p.2 this.2]; exact g p hp
    · intro g p hp
      have := List.of_mem_zip hp
      rw [h p.1 this.1 p.2 this.2]; exact g p hp
  rw [e1]
  by_cases hk : a.kind = b.kind
  · by_cases ha : a.kind = 3
    · obtain ⟨h4, h5⟩ := h3 ha (hk ▸ ha)
      rw [h4, h5]
    · simp [ha]
  · simp [hk]
theorem subF_stable {pairs : List (Int × Int)} {n : Int} {ts : List Ty} (hok : TyOk ts) : ∀ (f g : Nat) (s t : Int), s.toNat + t.toNat < f → s.toNat + t.toNat < g → subF pairs n ts f s t = subF pairs n ts g s t
  | 0, _, _, _, h, _ => absurd h (by omega)
  | _, 0, _, _, _, h => absurd h (by omega)
  | f + 1, g + 1, s, t, h, h2 => by
    rw [subF_succ, subF_succ]
    by_cases hi : s < 0 ∨ t < 0
    · rw [if_pos hi, if_pos hi]
    rw [if_neg hi, if_neg hi]
    by_cases hs : s.toNat < ts.length
    · by_cases ht : t.toNat < ts.length
      · rw [List.getElem?_eq_getElem hs, List.getElem?_eq_getElem ht]
        simp only
        refine subS_congr ?_ ?_
        · intro x hx y hy
          have h5 := (hok _ hs).2 x hx
          have h6 := (hok _ ht).2 y hy
          exact subF_stable hok f g x y (by omega) (by omega)
        · intro ha hb
          obtain ⟨a1, a2, -⟩ := (hok _ hs).1 ha
          obtain ⟨b1, b2, -⟩ := (hok _ ht).1 hb
          exact ⟨subF_stable hok f g _ _ (by omega) (by omega), subF_stable hok f g _ _ (by omega) (by omega)⟩
      · rw [List.getElem?_eq_none (by omega : ts.length ≤ t.toNat)]
        cases ts[s.toNat]? <;> rfl
    · rw [List.getElem?_eq_none (by omega : ts.length ≤ s.toNat)]
/-- What is asked of a pair of types of a body. -/
theorem subB_eq {b : Bdy} (hok : TyOk b.types) {s t : Nat} (hs : s < b.types.length) (ht : t < b.types.length) :
    subB b s t = subS b.outl b.regions.length (subB b) b.types[s] b.types[t] := by
  have e : subB b s t = subF b.outl b.regions.length b.types (s + t + 1) s t := rfl
  rw [e, subF_succ, if_neg (by omega)]
  simp only [Int.toNat_natCast]
  rw [List.getElem?_eq_getElem hs, List.getElem?_eq_getElem ht]
  simp only
  refine subS_congr ?_ ?_
  · intro x hx y hy
    have h5 := (hok _ hs).2 x hx
    have h6 := (hok _ ht).2 y hy
    exact subF_stable hok _ _ x y (by omega) (by omega)
  · intro ha hb
    obtain ⟨a1, a2, -⟩ := (hok _ hs).1 ha
    obtain ⟨b1, b2, -⟩ := (hok _ ht).1 hb
    exact ⟨subF_stable hok _ _ _ _ (by omega) (by omega), subF_stable hok _ _ _ _ (by omega) (by omega)⟩
theorem subB_out {b : Bdy} {s t : Int} (h : s < 0 ∨ t < 0 ∨ (b.types.length : Int) ≤ s ∨ (b.types.length : Int) ≤ t) : subB b s t = false := by
  have e : subB b s t = subF b.outl b.regions.length b.types (s.toNat + t.toNat + 1) s t := rfl
  rw [e, subF_succ]
  by_cases hi : s < 0 ∨ t < 0
  · rw [if_pos hi]
  rw [if_neg hi]
  by_cases hs : s.toNat < b.types.length
  · rw [List.getElem?_eq_none (by omega : b.types.length ≤ t.toNat)]
    cases b.types[s.toNat]? <;> rfl
  · rw [List.getElem?_eq_none (by omega : b.types.length ≤ s.toNat)]
/-! ## The state of Copyable's search -/
/-- A type is covered: a reference that is not mutable, or one that was seen. -/
def CovT (ts : List Ty) (sl : List Int) (i : Int) : Prop := ∃ (h : i.toNat < ts.length), 0 ≤ i ∧ ((ts[i.toNat].kind = 3 ∧ ts[i.toNat].mu = false) ∨ (ts[i.toNat].kind ≠ 3 ∧ i ∈ sl))
theorem CovT.mono {ts : List Ty} {sl sl' : List Int} {i : Int} (h : CovT ts sl i) (hs : ∀ x ∈ sl, x ∈ sl') : CovT ts sl' i := by
  obtain ⟨h1, h2, h3⟩ := h
  exact ⟨h1, h2, h3.imp id (fun h => ⟨h.1, hs _ h.2⟩)⟩
/-- A set of types that is closed: all that is covered may be copied. -/
theorem cov_copB {ts : List Ty} (hok : TyOk ts) {sl : List Int} (hc : ∀ x ∈ sl, ∀ (h : x.toNat < ts.length), 0 ≤ x → ts[x.toNat].kind ≠ 3 → ∀ f ∈ ts[x.toNat].flds, CovT ts sl f) : ∀ (m : Nat) (i : Int), i.toNat < m → CovT ts sl i → copB ts i = true
  | 0, _, h, _ => absurd h (by omega)
  | m + 1, i, hm, ⟨h1, h2, h3⟩ => by
    obtain ⟨k, rfl⟩ := Int.eq_ofNat_of_zero_le h2
    simp only [Int.toNat_natCast] at h1 h3 hm
    rw [copB_eq hok h1]
    rcases h3 with ⟨h3, h4⟩ | ⟨h3, h4⟩
    · rw [if_pos h3, h4]; rfl
    · rw [if_neg h3, List.all_eq_true]
      intro f hf
      have hfr := (hok k h1).2 f hf
      exact cov_copB hok hc m f (by omega) (hc _ h4 (by simpa using h1) h2 (by simpa using h3) f (by simpa using hf))
end Go.Proofs.YtbnljlpefpllcaaGreatDoor
namespace Go.Proofs.YtbnljlpefpllcaaGreatDoor
open Go Go.RowKit
/-- The lexical order of two pairs. -/
def cmp2 (p q : Int × Int) : Int := if p.1 < q.1 then -1 else if q.1 < p.1 then 1 else if p.2 < q.2 then -1 else if q.2 < p.2 then 1 else 0
theorem cmp_int (x y : Int) : Lib.compareInt x y = if x < y then -1 else if y < x then 1 else 0 := by
  unfold Lib.compareInt
  rfl
theorem cmp2_ge (p q : Int × Int) : (0 ≤ cmp2 q p) ↔ (p.1 < q.1 ∨ (p.1 = q.1 ∧ p.2 ≤ q.2)) := by
  unfold cmp2
  split
  · omega
  split
  · omega
  split
  · omega
  split <;> omega
set_option maxRecDepth 100000 in
set_option maxHeartbeats 4000000 in
theorem compare2_any (p q : Int × Int) (b1 o1 b2 o2 : Nat) (w : World) (h1 : w.cell? ⟨b1, o1, none⟩ = some (.int .i64 p.1)) (h2 : w.cell? ⟨b1, o1 + 1, none⟩ = some (.int .i64 p.2)) (h3 : w.cell? ⟨b2, o2, none⟩ = some (.int .i64 q.1)) (h4 : w.cell? ⟨b2, o2 + 1, none⟩ = some (.int .i64 q.2)) :
    Calls Tryz.prog 172 #[.slice (some ⟨b1, o1, none⟩) 2 2, .slice (some ⟨b2, o2, none⟩) 2 2] w fun e' w' => e' = .returned (.int .i64 (cmp2 p q)) ∧ w' = w := by
  obtain ⟨p1, p2⟩ := p
  obtain ⟨q1, q2⟩ := q
  simp only at *
  obtain ⟨R, hR⟩ : ∃ R, cmp2 (p1, p2) (q1, q2) = R := ⟨_, rfl⟩
  rw [hR]
  have HC1 := Lib.hid (Tryz.cmp_Compare_int p1 q1 w)
  have HC2 := Lib.hid (Tryz.cmp_Compare_int p2 q2 w)
  have H1 : Hid (Lib.compareInt p1 q1 ≠ 0 → R = Lib.compareInt p1 q1) := Lib.hid (fun h => by
    rw [← hR]
    rw [cmp_int] at h ⊢
    unfold cmp2
    split
    · rfl
    split
    · rfl
    · simp_all)
  have H2 : Hid (Lib.compareInt p1 q1 = 0 → R = Lib.compareInt p2 q2) := Lib.hid (fun h => by
    rw [← hR]
    rw [cmp_int] at h ⊢
    unfold cmp2
    split
    · simp_all
    split
    · simp_all
    · rfl)
  generalize Lib.compareInt p1 q1 = c1 at HC1 H1 H2
  generalize Lib.compareInt p2 q2 = c2 at HC2 H2
  clear hR
  go_enter Tryz.func172, Tryz.ntmps172
  go_wp2_with fail
  go_loop [11] (fun v => ∃ k : Nat, k ≤ 2 ∧ v = .int .i64 k ∧ Hid (0 < k → c1 = 0) ∧ Hid (k = 2 → R = 0)) (fun v => 2 - (intOf v).toNat)
  case atStart => exact ⟨0, by omega, rfl, Lib.hid (fun h => absurd h (by omega)), Lib.hid (fun h => absurd h (by omega))⟩
  case round =>
    obtain ⟨k, hk, rfl, hr, hr2⟩ := hrel
    rcases (show k = 0 ∨ k = 1 ∨ k = 2 by omega) with rfl | rfl | rfl
    · by_cases hc : c1 = 0
      · have e1 : (c1 != 0) = false := by simp [hc]
        have HC := Lib.hid hc
        clear hr hr2 hc
        go_wp2_with (go_at_call 205; refine HC1.out.mono ?_; rintro e' w1 ⟨rfl, hw⟩; obtain rfl := hw.symm)
        go_round
        case rel => exact ⟨1, by omega, by go_num, Lib.hid (fun _ => HC.out), Lib.hid (fun h => absurd h (by omega))⟩
        case measure => simp [intOf]
      · have e1 : (c1 != 0) = true := by simp [hc]
        have HF := Lib.hid (H1.out hc)
        clear hr hr2 hc
        go_wp2_with (go_at_call 205; refine HC1.out.mono ?_; rintro e' w1 ⟨rfl, hw⟩; obtain rfl := hw.symm)
        go_ret
        exact ⟨by rw [HF.out]; rfl, rfl⟩
    · have HF := Lib.hid (H2.out (hr.out (by omega)))
      by_cases hc : c2 = 0
      · have e1 : (c2 != 0) = false := by simp [hc]
        have HC : Hid (R = 0) := Lib.hid (by rw [HF.out, hc])
        clear hr2 hc
        go_wp2_with (go_at_call 205; refine HC2.out.mono ?_; rintro e' w1 ⟨rfl, hw⟩; obtain rfl := hw.symm)
        go_round
        case rel => exact ⟨2, by omega, by go_num, Lib.hid (fun _ => hr.out (by omega)), Lib.hid (fun _ => HC.out)⟩
        case measure => simp [intOf]
      · have e1 : (c2 != 0) = true := by simp [hc]
        clear hr hr2 hc
        go_wp2_with (go_at_call 205; refine HC2.out.mono ?_; rintro e' w1 ⟨rfl, hw⟩; obtain rfl := hw.symm)
        go_ret
        exact ⟨by rw [HF.out]; rfl, rfl⟩
    · have HF := Lib.hid (hr2.out rfl)
      clear hr hr2
      go_wp2_with fail
      go_ret
      exact ⟨by rw [HF.out]; rfl, rfl⟩
end Go.Proofs.YtbnljlpefpllcaaGreatDoor
namespace Go.Proofs.YtbnljlpefpllcaaGreatDoor
open Go Go.RowKit
theorem pairE_range {n : Int} {q : Option (Int × Int)} {p : Int × Int} (h : p.1 < 0 ∨ p.2 < 0 ∨ n ≤ p.1 ∨ n ≤ p.2) : pairE n q p = 3 := by unfold pairE; rw [if_pos h]
theorem pairE_same {n : Int} {q : Option (Int × Int)} {p : Int × Int} (h : ¬ (p.1 < 0 ∨ p.2 < 0 ∨ n ≤ p.1 ∨ n ≤ p.2)) (h2 : p.1 = p.2) : pairE n q p = 2 := by unfold pairE; rw [if_neg h, if_pos h2]
theorem pairE_none {n : Int} {p : Int × Int} (h : ¬ (p.1 < 0 ∨ p.2 < 0 ∨ n ≤ p.1 ∨ n ≤ p.2)) (h2 : ¬ p.1 = p.2) : pairE n none p = 0 := by unfold pairE; rw [if_neg h, if_neg h2]
theorem pairE_some {n : Int} {q p : Int × Int} (h : ¬ (p.1 < 0 ∨ p.2 < 0 ∨ n ≤ p.1 ∨ n ≤ p.2)) (h2 : ¬ p.1 = p.2) : pairE n (some q) p = if 0 ≤ cmp2 q p then 21 else 0 := by
  unfold pairE
  rw [if_neg h, if_neg h2]
  simp only [cmp2_ge]
theorem two_at (w : World) (x y : Value) (t : TypeId) : (w.alloc (.cells #[x, y] t)).cell? ⟨w.heap.size, 0, none⟩ = some x ∧ (w.alloc (.cells #[x, y] t)).cell? ⟨w.heap.size, 1, none⟩ = some y := by
  constructor <;> (rw [World.cell?_alloc_at _ _ _ _ (by simp)]; rfl)
theorem pairsE_cons (n : Int) (q : Option (Int × Int)) (p : Int × Int) (r : List (Int × Int)) : pairsE n q (p :: r) = if pairE n q p = 0 then pairsE n (some p) r else pairE n q p := rfl
def prevP (l : List (Int × Int)) (k : Nat) : Option (Int × Int) := if k = 0 then none else l[k - 1]?
set_option maxRecDepth 100000 in
set_option maxHeartbeats 8000000 in
theorem pairsC_any (l : List (Int × Int)) (n : Int) (A : Option Addr) (c : Nat) (w : World) (hs : Slc 2 RPr w A c l) :
    Calls Tryz.prog 120 #[.slice A l.length c, .int .i64 n] w fun e' w' => e' = .returned (.int .i64 (pairsC n l)) ∧ Below w.heap.size w w' := by
  have hle := hs.le
  have hbig := hs.big
  unfold pairsC
  by_cases h0 : 65535 < l.length
  · rw [if_pos h0]
    clear hs
    go_enter Tryz.func120, Tryz.ntmps120
    go_wp2_with fail
    go_ret
    exact ⟨rfl, Below.refl _ _⟩
  rw [if_neg h0]
  obtain ⟨R, hR⟩ : ∃ R, pairsE n none l = R := ⟨_, rfl⟩
  rw [hR]
  have HR := Lib.hid hR
  have HS := Lib.hid hs
  clear hR hs
  go_enter Tryz.func120, Tryz.ntmps120
  go_wp2_with fail
  go_loopw [12] (fun v wr => ∃ k : Nat, k ≤ l.length ∧ v = .int .i64 k ∧ Hid (Below w.heap.size w wr) ∧ Hid (R = pairsE n (prevP l k) (l.drop k))) (fun v _ => l.length - (intOf v).toNat)
  case atStart => exact ⟨0, by omega, rfl, Lib.hid (Below.refl _ _), Lib.hid HR.out.symm⟩
  case round =>
    obtain ⟨k, hk, rfl, hB, hr⟩ := hrel
    by_cases hlt : k < l.length
    · have hd := drop_cons hlt
      have hsl := (HS.out.keep RPr.keeps hB.out).sl
      obtain ⟨b, o, rfl, hb, hx⟩ := hsl.at_ hlt
      have HP : Hid (prevP l (k + 1) = some l[k]) := Lib.hid (by unfold prevP; rw [if_neg (by omega)]; simp [hlt])
      have HQ : Hid (∀ j, k = j + 1 → ∃ q, prevP l k = some q ∧ RPr wr wr.heap.size b (o + j * 2) q) := Lib.hid (fun j hj => by
        obtain ⟨b', o', hbo, _, hz⟩ := hsl.at_ (show j < l.length by omega)
        obtain ⟨rfl, rfl⟩ : b = b' ∧ o = o' := by simpa using hbo
        exact ⟨l[j], by unfold prevP; rw [if_neg (by omega), show k - 1 = j by omega]; exact List.getElem?_eq_getElem (by omega), hz⟩)
      obtain ⟨p, hp⟩ : ∃ p, l[k] = p := ⟨_, rfl⟩
      rw [hp] at hd hx HP
      obtain ⟨x0, x1⟩ := hx
      have HN : Hid (R = if pairE n (prevP l k) p = 0 then pairsE n (some p) (l.drop (k + 1)) else pairE n (prevP l k) p) := Lib.hid (by rw [hr.out, hd, pairsE_cons])
      have hsz := hB.out.size
      obtain ⟨p1, p2⟩ := p
      simp only at x0 x1
      clear hd hr hsl hp
      by_cases hrg : p1 < 0 ∨ p2 < 0 ∨ n ≤ p1 ∨ n ≤ p2
      · have HF : Hid (R = 3) := Lib.hid (by rw [HN.out, pairE_range hrg]; rfl)
        clear HN
        go_wp2_with fail
        all_goals first
          | (go_ret; exact ⟨by rw [HF.out]; rfl, hB.out.alloc (by omega) _⟩)
          | (exfalso; omega)
      have e1 : ¬ min p1 p2 < 0 := by omega
      have e2 : ¬ n ≤ max p1 p2 := by omega
      by_cases hsm : p1 = p2
      · have HF : Hid (R = 2) := Lib.hid (by rw [HN.out, pairE_same hrg hsm]; rfl)
        have e3 : (p1 == p2) = true := by simp [hsm]
        clear HN hrg
        go_wp2_with fail
        all_goals first
          | (go_ret; exact ⟨by rw [HF.out]; rfl, hB.out.alloc (by omega) _⟩)
          | (exfalso; omega)
      have e3 : (p1 == p2) = false := by simp [hsm]
      obtain ⟨W, hW⟩ : ∃ W, W = wr.alloc (.cells #[.int .i64 p1, .int .i64 p2] 79) := ⟨_, rfl⟩
      have hBW : Below w.heap.size w W := by rw [hW]; exact hB.out.alloc (by omega) _
      have HBW := Lib.hid hBW
      rcases (show k = 0 ∨ ∃ j, k = j + 1 from by cases k; exact .inl rfl; exact .inr ⟨_, rfl⟩) with rfl | ⟨j, rfl⟩
      · have HF : Hid (R = pairsE n (prevP l 1) (l.drop 1)) := Lib.hid (by rw [HN.out, show prevP l 0 = none from rfl, pairE_none hrg hsm, if_pos rfl, HP.out])
        clear HN hrg hsm hBW
        simp only [Nat.zero_mul, Nat.add_zero] at x0 x1
        go_wp2_with fail
        have hS : True := trivial
        refine wp_region_k (S := fun _ => True) (by kernel_rfl) ?_
        (iterate 3 (refine wpK_take (v := ?_) (by kernel_rfl) (fun _ _ _ h => h) (Or.inl ⟨by rfl, ?_⟩) hS ?_; rotate_left; (next => (rintro X _; (try simp only [List.getElem?_toArray, List.getElem?_cons_zero, List.getElem?_cons_succ, Option.getD_some]); go_simp; rfl)); simp only [List.getElem?_toArray, List.getElem?_cons_zero, List.getElem?_cons_succ, Option.getD_some, Act.put, List.setIfInBounds_toArray, List.set_cons_zero, List.set_cons_succ]))
        (iterate 8 (refine wpK_take (v := undef) (by kernel_rfl) (fun _ _ _ h => h) (Or.inr ⟨by rfl, rfl⟩) hS ?_; simp only [List.getElem?_toArray, List.getElem?_cons_zero, List.getElem?_cons_succ, Option.getD_some, Act.put, List.setIfInBounds_toArray, List.set_cons_zero, List.set_cons_succ]))
        (iterate 2 (refine wpK_take (v := ?_) (by kernel_rfl) (fun _ _ _ h => h) (Or.inl ⟨by rfl, ?_⟩) hS ?_; rotate_left; (next => (rintro X _; (try simp only [List.getElem?_toArray, List.getElem?_cons_zero, List.getElem?_cons_succ, Option.getD_some]); go_simp; rfl)); simp only [List.getElem?_toArray, List.getElem?_cons_zero, List.getElem?_cons_succ, Option.getD_some, Act.put, List.setIfInBounds_toArray, List.set_cons_zero, List.set_cons_succ]))
        refine wpK_done rfl ?_
        go_wp2_with fail
        go_roundw
        case rel => exact ⟨1, by omega, by go_num, Lib.hid (by rw [← hW]; exact HBW.out.drew), HF⟩
        case measure => simp [intOf]; omega
      · obtain ⟨q, hq, q0, q1⟩ := HQ.out j rfl
        have HF : Hid (R = if 0 ≤ cmp2 q (p1, p2) then 21 else pairsE n (prevP l (j + 1 + 1)) (l.drop (j + 1 + 1))) := Lib.hid (by
          rw [HN.out, hq, pairE_some hrg hsm, HP.out]
          split <;> simp)
        obtain ⟨n0, n1⟩ := two_at wr (.int .i64 p1) (.int .i64 p2) 79
        have hk0 : Below wr.heap.size wr (wr.alloc (.cells #[.int .i64 p1, .int .i64 p2] 79)) := (Below.refl _ _).alloc (Nat.le_refl _) _
        have HC := Lib.hid (compare2_any q (p1, p2) b (o + j * 2) wr.heap.size 0 (wr.alloc (.cells #[.int .i64 p1, .int .i64 p2] 79)).drew ((hk0.cell (p := ⟨b, o + j * 2, none⟩) hb).trans q0) ((hk0.cell (p := ⟨b, o + j * 2 + 1, none⟩) hb).trans q1) n0 n1)
        generalize cmp2 q (p1, p2) = cm at HF HC
        clear HN hrg hsm hBW hq q0 q1 n0 n1 hk0
        have hwk : IntKind.i64.wrap (j : Int) = (j : Int) := by rw [IntKind.wrap_i64]; omega
        have hj1 : (j : Int) < (l.length : Int) := by omega
        go_wp2_with fail
        have hS : True := trivial
        refine wp_region_k (S := fun _ => True) (by kernel_rfl) ?_
        (iterate 9 (refine wpK_take (v := ?_) (by kernel_rfl) (fun _ _ _ h => h) (Or.inl ⟨by rfl, ?_⟩) hS ?_; rotate_left; (next => (rintro X _; (try simp only [List.getElem?_toArray, List.getElem?_cons_zero, List.getElem?_cons_succ, Option.getD_some]); go_simp; rfl)); simp only [List.getElem?_toArray, List.getElem?_cons_zero, List.getElem?_cons_succ, Option.getD_some, Act.put, List.setIfInBounds_toArray, List.set_cons_zero, List.set_cons_succ]))
        (refine wpK_one (by kernel_rfl) (fun K1 hK1 => ?_); simp only [List.getElem?_toArray, List.getElem?_cons_zero, List.getElem?_cons_succ, Option.getD_some, Act.put, List.setIfInBounds_toArray, List.set_cons_zero, List.set_cons_succ]; rw [if_pos (by rfl)]; go_simp)
        refine HC.out.mono ?_
        rintro e' w3 ⟨rfl, hw⟩
        obtain rfl := hw.symm
        refine hK1.out _ _ (fun _ => trivial) ?_
        (iterate 3 (refine wpK_take (v := ?_) (by kernel_rfl) (fun _ _ _ h => h) (Or.inl ⟨by rfl, ?_⟩) hS ?_; rotate_left; (next => (rintro X _; (try simp only [List.getElem?_toArray, List.getElem?_cons_zero, List.getElem?_cons_succ, Option.getD_some]); go_simp; rfl)); simp only [List.getElem?_toArray, List.getElem?_cons_zero, List.getElem?_cons_succ, Option.getD_some, Act.put, List.setIfInBounds_toArray, List.set_cons_zero, List.set_cons_succ]))
        refine wpK_done rfl ?_
        by_cases hcm : 0 ≤ cm
        · have HF' : Hid (R = 21) := Lib.hid (by rw [HF.out, if_pos hcm])
          clear HF
          go_wp2_with fail
          go_ret
          exact ⟨by rw [HF'.out]; rfl, by rw [← hW]; exact HBW.out.drew⟩
        · have HF' : Hid (R = pairsE n (prevP l (j + 1 + 1)) (l.drop (j + 1 + 1))) := Lib.hid (by rw [HF.out, if_neg hcm])
          clear HF
          go_wp2_with fail
          go_roundw
          case rel => exact ⟨j + 1 + 1, by omega, by go_num, Lib.hid (by rw [← hW]; exact HBW.out.drew), HF'⟩
          case measure => simp [intOf]; omega
    · have HN : Hid (R = 0) := Lib.hid (by rw [hr.out, List.drop_eq_nil_of_le (by omega)]; rfl)
      clear hr
      go_wp2_with fail
      go_ret
      exact ⟨by rw [HN.out]; rfl, hB.out⟩
end Go.Proofs.YtbnljlpefpllcaaGreatDoor
namespace Go.Proofs.YtbnljlpefpllcaaGreatDoor
open Go Go.RowKit Go.Maps
def nilS : Value := .slice none 0 0
def mapF (g : Int → Value) : Lit → Value
  | .int .i64 n => g n
  | _ => nilS
theorem mapF_old {g g' : Int → Value} {x : Int} (h : ∀ y, y ≠ x → g' y = g y) : ∀ k, k ≠ Lit.int .i64 x → mapF g' k = mapF g k := by
  intro k hk
  cases k <;> try rfl
  rename_i q n
  cases q <;> try rfl
  exact h n (fun e => hk (by rw [e]))
theorem law3 : Keyed Tryz.prog 3 := int_keyed Tryz.underlying3
theorem key3 {a : Int} (h0 : 0 ≤ a) (h1 : a ≤ 9223372036854775807) : keyOf Tryz.prog 3 (.int .i64 a) = some (.int .i64 a) := keyOf_int_mk Tryz.underlying3 (WalkArith.wf_i64 (by omega))
/-- Two maps from numbers to rows; no two of the rows lie in one block. -/
structure GI (w : World) (base rel : Nat) (M : Bool → Nat) (c : Nat) (n : Int) (L : Bool → Int → List Int) (F : Bool → Int → Value) : Prop where
  head : w.heap[rel]? = some (.cells #[.int .i64 n, .map (some (M false)), .map (some (M true))] 244)
  maps : ∀ s, OwnV Tryz.prog 3 w (M s) c (mapF (F s)) nilS
  rows : ∀ s x, w.ownsRow base 3 1 (F s x) (L s x).length ((L s x).map (Value.int .i64))
  apart : ∀ s x s' x' g, (F s x).ownBlock = some g → (F s' x').ownBlock = some g → s = s' ∧ x = x'
  lrel : rel < base
  lmap : ∀ s, M s < base
  ne1 : ∀ s, M s ≠ rel
  ne2 : M false ≠ M true
  low : base ≤ w.heap.size
theorem OwnV.mono {P : Program} {k : TypeId} {w : World} {b n n' : Nat} {f : Lit → Value} {z : Value} (h : OwnV P k w b n f z) (hn : n ≤ n') : OwnV P k w b n' f z := by
  obtain ⟨D, h1, h2⟩ := h
  exact ⟨D, h1.mono hn, h2⟩
theorem GI.keep {w w' : World} {base rel c : Nat} {M : Bool → Nat} {n : Int} {L : Bool → Int → List Int} {F : Bool → Int → Value} (h : GI w base rel M c n L F) (hb : Below w.heap.size w w') : GI w' base rel M c n L F :=
  ⟨(hb.block _ (Array.getElem?_eq_some_iff.1 h.head).1).trans h.head, fun s => (h.maps s).block (hb.block _ (h.maps s).lt), fun s x => own_below (h.rows s x) hb, h.apart, h.lrel, h.lmap, h.ne1, h.ne2, Nat.le_trans h.low hb.size⟩
def updL (L : Bool → Int → List Int) (s : Bool) (x : Int) (l : List Int) : Bool → Int → List Int := fun s' x' => if s' = s ∧ x' = x then l else L s' x'
def updF (F : Bool → Int → Value) (s : Bool) (x : Int) (v : Value) : Bool → Int → Value := fun s' x' => if s' = s ∧ x' = x then v else F s' x'
theorem ownB_ne {w w' : World} {base : Nat} {v v' : Value} {g : Nat} (h : v'.ownBlock = v.ownBlock ∨ v'.ownBlock = some w.heap.size) (hg : v'.ownBlock = some g) (hlt : g < w.heap.size) : v.ownBlock = some g := by
  rcases h with h | h
  · rw [← h]; exact hg
  · rw [h] at hg
    injection hg with hg
    omega
/-- What an append to a row and the store of it leave. -/
theorem GI.step {w w2 w3 : World} {base rel c : Nat} {M : Bool → Nat} {n : Int} {L : Bool → Int → List Int} {F : Bool → Int → Value} (h : GI w base rel M c n L F) (s : Bool) (x : Int) (y : Int) (v' : Value)
    (hown : w2.ownsRow base 3 1 v' ((L s x).length + 1) ((L s x).map (Value.int .i64) ++ [.int .i64 y])) (hgrow : w.grownBy w2 (F s x).ownBlock) (hloc : v'.ownBlock = (F s x).ownBlock ∨ v'.ownBlock = some w.heap.size)
    (hmap : OwnV Tryz.prog 3 w3 (M s) (c + 1) (mapF (updF F s x v' s)) nilS) (hgrow2 : w2.grownBy w3 (some (M s))) :
    GI w3 base rel M (c + 1) n (updL L s x (L s x ++ [y])) (updF F s x v') := by
  have hne : ∀ k, k < base → some k ≠ (F s x).ownBlock := fun k hk e => by
    have := ((h.rows s x).lt k e.symm).1
    omega
  have hk3 : ∀ k, k < w.heap.size → k < base → k ≠ M s → w3.heap[k]? = w.heap[k]? := fun k hk hkb hkm =>
    (hgrow2.block k (Nat.lt_of_lt_of_le hk hgrow.size) (by simpa using hkm)).trans (hgrow.block k hk (hne k hkb))
  have hlow := h.low
  refine ⟨?_, ?_, ?_, ?_, h.lrel, h.lmap, h.ne1, h.ne2, Nat.le_trans hlow (Nat.le_trans hgrow.size hgrow2.size)⟩
  · rw [hk3 rel (by have := h.lrel; omega) h.lrel (fun e => h.ne1 s e.symm)]
    exact h.head
  · intro s'
    by_cases hs : s' = s
    · subst hs
      exact hmap
    · have hms : M s' ≠ M s := by
        have := h.ne2
        cases s <;> cases s' <;> simp_all [eq_comm]
      have : mapF (updF F s x v' s') = mapF (F s') := by
        congr 1
        funext x'
        unfold updF
        rw [if_neg (fun e => hs e.1)]
      rw [this]
      exact ((h.maps s').mono (Nat.le_succ c)).block (hk3 _ (h.maps s').lt (h.lmap s') hms)
  · intro s' x'
    unfold updL updF
    by_cases he : s' = s ∧ x' = x
    · rw [if_pos he, if_pos he, List.length_append, List.length_singleton, List.map_append]
      refine own_block hown (fun k hk hk2 _ => ?_)
      exact hgrow2.block k hk2 (by have := h.lmap s; simp; omega)
    · rw [if_neg he, if_neg he]
      refine own_block (h.rows s' x') (fun k hk hk2 hkr => ?_)
      refine (hgrow2.block k (Nat.lt_of_lt_of_le hk2 hgrow.size) (by have := h.lmap s; simp; omega)).trans (hgrow.block k hk2 (fun e => ?_))
      exact he (h.apart s' x' s x k hkr.symm e.symm)
  · intro s1 x1 s2 x2 g h1 h2
    unfold updF at h1 h2
    have key : ∀ s' x', ¬ (s' = s ∧ x' = x) → v'.ownBlock = some g → (F s' x').ownBlock = some g → False := fun s' x' hn hv hf => by
      have hlt := ((h.rows s' x').lt g hf).2
      exact hn (h.apart s' x' s x g hf (ownB_ne (w' := w) (base := base) hloc hv hlt))
    by_cases e1 : s1 = s ∧ x1 = x <;> by_cases e2 : s2 = s ∧ x2 = x
    · exact ⟨e1.1.trans e2.1.symm, e1.2.trans e2.2.symm⟩
    · rw [if_pos e1] at h1
      rw [if_neg e2] at h2
      exact (key s2 x2 e2 h1 h2).elim
    · rw [if_neg e1] at h1
      rw [if_pos e2] at h2
      exact (key s1 x1 e1 h2 h1).elim
    · rw [if_neg e1] at h1
      rw [if_neg e2] at h2
      exact h.apart s1 x1 s2 x2 g h1 h2
/-- What is asked of the relation afterwards: at every number a row of numbers. -/
def Rel3 (w : World) (r : Nat) (n : Int) (L : Bool → Int → List Int) : Prop := ∃ M : Bool → Nat, w.heap[r]? = some (.cells #[.int .i64 n, .map (some (M false)), .map (some (M true))] 244) ∧
  (∀ s x, 0 ≤ x → x ≤ 9223372036854775807 → ∃ A c, (∀ W : World, Below w.heap.size w W → (Instr.lookup 242 (.map (some (M s))) (.int .i64 x) false).run Tryz.prog W = .ok (.slice A (L s x).length c) W) ∧ Slc 1 RInt w A c (L s x))
theorem Rel3.keep {w w' : World} {r : Nat} {n : Int} {L : Bool → Int → List Int} (h : Rel3 w r n L) (hb : Below w.heap.size w w') : Rel3 w' r n L := by
  obtain ⟨M, h1, h2⟩ := h
  refine ⟨M, (hb.block _ (Array.getElem?_eq_some_iff.1 h1).1).trans h1, fun s x h0 h9 => ?_⟩
  obtain ⟨A, c, h3, h4⟩ := h2 s x h0 h9
  exact ⟨A, c, fun W hW => h3 W (hb.trans (hW.mono hb.size)), h4.keep RInt.keeps hb⟩
theorem zeroSl : ∀ w, (zeroValue 51).run Tryz.prog w = .ok nilS w := Tryz.zeroValue51
theorem GI.rel3 {w : World} {base rel c : Nat} {M : Bool → Nat} {n : Int} {L : Bool → Int → List Int} {F : Bool → Int → Value} (h : GI w base rel M c n L F) : Rel3 w rel n L := by
  refine ⟨M, h.head, fun s x h0 h9 => ?_⟩
  obtain ⟨A, c', hv, hs⟩ := slc_of_ints (h.rows s x)
  refine ⟨A, c', fun W hW => ?_, hs⟩
  have := (((h.maps s).block (hW.block _ (h.maps s).lt)).look law3 Tryz.underlying242 (zeroSl W) (key3 h0 h9))
  rw [this]
  show Result.ok (F s x) W = _
  rw [hv]
end Go.Proofs.YtbnljlpefpllcaaGreatDoor
namespace Go.Proofs.YtbnljlpefpllcaaGreatDoor
open Go Go.RowKit
set_option maxRecDepth 100000 in
set_option maxHeartbeats 4000000 in
theorem first_any (l : List Int) (A : Option Addr) (c : Nat) (w : World) (hs : Slc 1 RInt w A c l) :
    Calls Tryz.prog 118 #[.slice A l.length c] w fun e' w' => e' = .returned (.int .i64 (firstE l)) ∧ w' = w := by
  have hle := hs.le
  have hbig := hs.big
  obtain ⟨R, hR⟩ : ∃ R, firstE l = R := ⟨_, rfl⟩
  rw [hR]
  have HR := Lib.hid hR
  have HS := Lib.hid hs
  clear hR hs
  go_enter Tryz.func118, Tryz.ntmps118
  go_wp2_with fail
  go_loop [7] (fun v => ∃ k : Nat, k ≤ l.length ∧ v = .int .i64 k ∧ Hid (R = firstE (l.drop k))) (fun v => l.length - (intOf v).toNat)
  case atStart => exact ⟨0, by omega, rfl, Lib.hid HR.out.symm⟩
  case round =>
    obtain ⟨k, hk, rfl, hr⟩ := hrel
    by_cases hlt : k < l.length
    · have hd := drop_cons hlt
      obtain ⟨b, o, rfl, hb, hx⟩ := HS.out.sl.at_ hlt
      obtain ⟨y, hy⟩ : ∃ y, l[k] = y := ⟨_, rfl⟩
      rw [hy] at hd hx
      have x0 : w.cell? ⟨b, o + k, none⟩ = some (.int .i64 y) := by simpa [RInt] using hx
      clear hx
      by_cases h0 : y = 0
      · have HN : Hid (R = firstE (l.drop (k + 1))) := Lib.hid (by rw [hr.out, hd, firstE, if_pos h0])
        clear hd hr hy
        go_wp2_with fail
        go_round
        case rel => exact ⟨k + 1, by omega, by go_num, HN⟩
        case measure => simp [intOf]; omega
      · have HN : Hid (R = y) := Lib.hid (by rw [hr.out, hd, firstE, if_neg h0])
        have e1 : (y == 0) = false := by simp [h0]
        clear hd hr hy h0
        go_wp2_with fail
        go_ret
        exact ⟨by rw [HN.out]; rfl, rfl⟩
    · have HN : Hid (R = 0) := Lib.hid (by rw [hr.out, List.drop_eq_nil_of_le (by omega)]; rfl)
      clear hr
      go_wp2_with fail
      go_ret
      exact ⟨by rw [HN.out]; rfl, rfl⟩
/-- What depth answers. -/
def depQ : Option Int → Int × Bool
  | none => (0, false)
  | some k => (k, true)
def depP (ds l : List Int) : Int × Bool := depQ (depF ds 0 l)
set_option maxRecDepth 100000 in
set_option maxHeartbeats 4000000 in
theorem depth_any (ds l : List Int) (g : Nat) (A B : Option Addr) (c d : Nat) (w : World) (hg : w.cell? ⟨g, 1, none⟩ = some (.slice B ds.length d)) (hd : Slc 1 RInt w B d ds) (hs : Slc 1 RInt w A c l) :
    Calls Tryz.prog 206 #[.pointer (some ⟨g, 0, none⟩), .slice A l.length c] w fun e' w' => e' = .returned (.tuple #[.int .i64 (depP ds l).1, .bool (depP ds l).2]) ∧ w' = w := by
  have hle := hs.le
  have hbig := hs.big
  have dle := hd.le
  have dbig := hd.big
  obtain ⟨R, hR⟩ : ∃ R, depF ds 0 l = R := ⟨_, rfl⟩
  unfold depP
  rw [hR]
  have HR := Lib.hid hR
  have HS := Lib.hid hs
  have HD := Lib.hid hd
  clear hR hs hd
  obtain ⟨q, hq⟩ : ∃ q : Int × Bool, depQ R = q := ⟨_, rfl⟩
  rw [hq]
  have HQ := Lib.hid hq
  clear hq
  go_enter Tryz.func206, Tryz.ntmps206
  go_wp2_with fail
  go_loop [6, 11] (fun a v => ∃ (k : Nat) (m : Int), k ≤ l.length ∧ a = .int .i64 m ∧ v = .int .i64 k ∧ Hid (R = depF ds m (l.drop k))) (fun _ v => l.length - (intOf v).toNat)
  case atStart => exact ⟨0, 0, by omega, rfl, rfl, Lib.hid HR.out.symm⟩
  case round =>
    obtain ⟨k, m, hk, rfl, rfl, hr⟩ := hrel
    by_cases hlt : k < l.length
    · have hdr := drop_cons hlt
      obtain ⟨b, o, rfl, hb, hx⟩ := HS.out.sl.at_ hlt
      obtain ⟨y, hy⟩ : ∃ y, l[k] = y := ⟨_, rfl⟩
      rw [hy] at hdr hx
      have x0 : w.cell? ⟨b, o + k, none⟩ = some (.int .i64 y) := by simpa [RInt] using hx
      clear hx hy
      by_cases h1 : y < 0
      · have HN : Hid (q = (0, false)) := Lib.hid (by rw [← HQ.out, hr.out, hdr, depF, if_pos h1]; rfl)
        clear hdr hr
        go_wp2_with fail
        go_ret2
        exact ⟨by rw [HN.out]; rfl, rfl⟩
      · obtain ⟨n, rfl⟩ := Int.eq_ofNat_of_zero_le (show 0 ≤ y by omega)
        by_cases h2 : n < ds.length
        · obtain ⟨b2, o2, rfl, hb2, hz⟩ := HD.out.sl.at_ h2
          have HN : Hid (R = depF ds (max m ds[n]) (l.drop (k + 1))) := Lib.hid (by rw [hr.out, hdr, depF, if_neg h1, Int.toNat_natCast, List.getElem?_eq_getElem h2])
          obtain ⟨z, hzz⟩ : ∃ z, ds[n] = z := ⟨_, rfl⟩
          rw [hzz] at hz HN
          have x1 : w.cell? ⟨b2, o2 + n, none⟩ = some (.int .i64 z) := by simpa [RInt] using hz
          clear hdr hr hz hzz
          go_wp2_with fail
          go_round
          case rel => exact ⟨k + 1, max m z, by omega, by go_num, by go_num, HN⟩
          case measure => simp [intOf]; omega
        · have HN : Hid (q = (0, false)) := Lib.hid (by rw [← HQ.out, hr.out, hdr, depF, if_neg h1, Int.toNat_natCast, List.getElem?_eq_none (by omega)]; rfl)
          clear hdr hr
          go_wp2_with fail
          go_ret2
          exact ⟨by rw [HN.out]; rfl, rfl⟩
    · have HN : Hid (q = (m, true)) := Lib.hid (by rw [← HQ.out, hr.out, List.drop_eq_nil_of_le (by omega)]; rfl)
      clear hr
      go_wp2_with fail
      go_ret2
      exact ⟨by rw [HN.out]; rfl, rfl⟩
theorem ty_eq (s t : Ty) : decide (s = t) = (decide (s.kind = t.kind) && decide (s.mu = t.mu) && decide (s.reg = t.reg) && decide (s.elem = t.elem) && decide (s.flds = t.flds)) := by
  cases s; cases t
  simp [Bool.and_assoc]
set_option maxRecDepth 100000 in
set_option maxHeartbeats 4000000 in
theorem teq_any (s t : Ty) (A B : Option Addr) (c d : Nat) (w : World) (hs : Slc 1 RInt w A c s.flds) (ht : Slc 1 RInt w B d t.flds) :
    Calls Tryz.prog 209 #[tyAgg s A c, tyAgg t B d] w fun e' w' => e' = .returned (.bool (decide (s = t))) ∧ Below w.heap.size w w' := by
  obtain ⟨r, hr⟩ : ∃ r, decide (s.flds = t.flds) = r := ⟨_, rfl⟩
  have HE := Lib.hid (fun W hb => eqInt_any A B c d s.flds t.flds W (hs.keep RInt.keeps hb) (ht.keep RInt.keeps hb))
  rw [ty_eq, hr]
  rw [hr] at HE
  clear hs ht hr
  unfold tyAgg
  obtain ⟨q, hq⟩ : ∃ q, (decide (s.kind = t.kind) && decide (s.mu = t.mu) && decide (s.reg = t.reg) && decide (s.elem = t.elem) && r) = q := ⟨_, rfl⟩
  rw [hq]
  have HQ := Lib.hid hq
  clear hq
  go_enter Tryz.func209, Tryz.ntmps209
  go_wp2_with (go_at_call 228; refine (HE.out _ (bel2 _ _ _)).mono ?_; rintro e' w1 ⟨rfl, n, rfl⟩)
  all_goals
    go_ret
    refine ⟨?_, by (repeat (first | exact Below.refl _ _ | assumption | refine Below.alloc ?_ (by first | omega | (simp; done) | (simp; omega)) _ | refine below_drewN ?_ _ | refine Below.drew ?_ | refine Below.setCell ?_ (by first | omega | (simp; done) | (simp; omega)) _))⟩
    rw [← HQ.out]
    simp_all
end Go.Proofs.YtbnljlpefpllcaaGreatDoor
namespace Go.Proofs.YtbnljlpefpllcaaGreatDoor
open Go Go.RowKit
set_option maxRecDepth 100000 in
set_option maxHeartbeats 4000000 in
theorem find1_any (x t : Ty) (A : Option Addr) (c h : Nat) (w : World) (hx : Slc 1 RInt w A c x.flds) (hh : h < w.heap.size) (ht : RTy w w.heap.size h 0 t) :
    Calls Tryz.prog 208 #[tyAgg x A c, .pointer (some ⟨h, 0, none⟩)] w fun e' w' => e' = .returned (.bool (decide (x = t))) ∧ Below w.heap.size w w' := by
  obtain ⟨r1, r2, r3, r4, A2, c2, r5, r6, r7, r8⟩ := ht
  have HE := Lib.hid (fun W hb => teq_any x t A A2 c c2 W (hx.keep RInt.keeps hb) ((⟨r8, r6, r7⟩ : Slc 1 RInt w A2 c2 t.flds).keep RInt.keeps hb))
  generalize decide (x = t) = q at HE ⊢
  unfold tyAgg at HE ⊢
  have hls := lt_steps hh
  clear hx r8
  go_enter Tryz.func208, Tryz.ntmps208
  go_wp2_with (go_at_call 209; refine (HE.out _ ((Below.refl _ _).alloc (Nat.le_refl _) _)).mono ?_; rintro e' w1 ⟨rfl, hb1⟩)
  go_ret
  exact ⟨rfl, ((Below.refl _ _).alloc (Nat.le_refl _) _).trans (hb1.mono (by simp))⟩
def eqT (t x : Ty) : Bool := decide (x = t)
set_option maxRecDepth 100000 in
set_option maxHeartbeats 4000000 in
theorem findI_any (ts : List Ty) (t : Ty) (A : Option Addr) (c h : Nat) (w : World) (hs : Slc 5 RTy w A c ts) (hh : h < w.heap.size) (ht : RTy w w.heap.size h 0 t) :
    Calls Tryz.prog 207 #[.slice A ts.length c, .func (.func 208) #[] #[.pointer (some ⟨h, 0, none⟩)]] w fun e' w' => e' = .returned (.int .i64 (idxF (eqT t) 0 ts)) ∧ Below w.heap.size w w' := by
  have hle := hs.le
  have hbig := hs.big
  obtain ⟨R, hR⟩ : ∃ R, idxF (eqT t) 0 ts = R := ⟨_, rfl⟩
  rw [hR]
  have HR := Lib.hid hR
  have HS := Lib.hid hs
  have HT := Lib.hid ht
  clear hR hs ht
  go_enter Tryz.func207, Tryz.ntmps207
  go_wp2_with fail
  go_loopw [8] (fun v wr => ∃ k : Nat, k ≤ ts.length ∧ v = .int .i64 k ∧ Hid (Below w.heap.size w wr) ∧ Hid (R = idxF (eqT t) k (ts.drop k))) (fun v _ => ts.length - (intOf v).toNat)
  case atStart => exact ⟨0, by omega, rfl, Lib.hid (Below.refl _ _), Lib.hid HR.out.symm⟩
  case round =>
    obtain ⟨k, hk, rfl, hB, hr⟩ := hrel
    by_cases hlt : k < ts.length
    · have hd := drop_cons hlt
      obtain ⟨b, o, rfl, hb, hx⟩ := (HS.out.keep RTy.keeps hB.out).sl.at_ hlt
      obtain ⟨x, hxx⟩ : ∃ x, ts[k] = x := ⟨_, rfl⟩
      rw [hxx] at hd hx
      obtain ⟨r1, r2, r3, r4, A2, c2, r5, r6, r7, r8⟩ := hx
      have HC := Lib.hid (find1_any x t A2 c2 h wr ⟨r8, r6, r7⟩ (Nat.lt_of_lt_of_le hh hB.out.size) (RTy.keeps w wr _ _ h 0 t hB.out.size hh hB.out HT.out))
      change Hid (Calls Tryz.prog 208 _ _ fun e' w' => e' = .returned (.bool (eqT t x)) ∧ _) at HC
      have hsz := hB.out.size
      have HN : Hid (R = if eqT t x = true then (k : Int) else idxF (eqT t) (k + 1) (ts.drop (k + 1))) := Lib.hid (by rw [hr.out, hd]; rfl)
      generalize eqT t x = q at HC HN
      clear hd hr hxx r8
      unfold tyAgg at HC
      cases q
      · have HF : Hid (R = idxF (eqT t) (k + 1) (ts.drop (k + 1))) := HN
        clear HN
        go_wp2_with (go_at_call 208; refine HC.out.mono ?_; rintro e' w1 ⟨rfl, hb1⟩)
        go_roundw
        case rel => exact ⟨k + 1, by omega, by go_num, Lib.hid (hB.out.trans (hb1.mono hsz)), HF⟩
        case measure => simp [intOf]; omega
      · have HF : Hid (R = k) := HN
        clear HN
        go_wp2_with (go_at_call 208; refine HC.out.mono ?_; rintro e' w1 ⟨rfl, hb1⟩)
        go_ret
        exact ⟨by rw [HF.out]; rfl, hB.out.trans (hb1.mono hsz)⟩
    · have HN : Hid (R = -1) := Lib.hid (by rw [hr.out, List.drop_eq_nil_of_le (by omega)]; rfl)
      clear hr
      go_wp2_with fail
      go_ret
      exact ⟨by rw [HN.out]; rfl, hB.out⟩
theorem any_eqT (t : Ty) (ts : List Ty) : ts.any (eqT t) = decide (t ∈ ts) := by
  rw [Bool.eq_iff_iff]
  simp only [List.any_eq_true, eqT, decide_eq_true_eq]
  exact ⟨fun ⟨x, h, e⟩ => e ▸ h, fun h => ⟨t, h, rfl⟩⟩
/-- A number and whether it is there. -/
def findP (b : Bool) (e' : Ending) : Prop := ∃ i : Int, e' = .returned (.tuple #[.int .i64 i, .bool b])
set_option maxRecDepth 100000 in
set_option maxHeartbeats 4000000 in
theorem find_prog (ts : List Ty) (t : Ty) (A B : Option Addr) (c d : Nat) (w : World) (hs : Slc 5 RTy w A c ts) (ht : Slc 1 RInt w B d t.flds) :
    Calls Tryz.prog 174 #[.slice A ts.length c, tyAgg t B d] w fun e' w' => findP (decide (t ∈ ts)) e' ∧ Below w.heap.size w w' := by
  have hb0 : Below w.heap.size w (w.alloc (.cells #[.int .i64 t.kind, .bool t.mu, .int .i64 t.reg, .int .i64 t.elem, .slice B t.flds.length d] 83)) := (Below.refl _ _).alloc (Nat.le_refl _) _
  have HI := Lib.hid (findI_any ts t A c w.heap.size _ (hs.keep RTy.keeps hb0) (by simp) (show RTy _ _ w.heap.size 0 t from by
    have h : ∀ i v, #[Value.int .i64 t.kind, .bool t.mu, .int .i64 t.reg, .int .i64 t.elem, .slice B t.flds.length d][i]? = some v → (w.alloc (.cells #[.int .i64 t.kind, .bool t.mu, .int .i64 t.reg, .int .i64 t.elem, .slice B t.flds.length d] 83)).cell? ⟨w.heap.size, i, none⟩ = some v := fun i v hi => by
      rw [World.cell?_alloc_at _ _ _ _ (by simp)]
      exact hi
    exact ⟨h 0 _ rfl, h 1 _ rfl, h 2 _ rfl, h 3 _ rfl, B, d, h 4 _ rfl, ht.le, ht.big, (ht.sl.keep RInt.keeps hb0.size hb0)⟩))
  have hx := idxF_any (eqT t) ts 0
  rw [any_eqT] at hx
  rw [← hx]
  clear hs ht hx
  generalize idxF (eqT t) 0 ts = i at HI ⊢
  unfold tyAgg
  have HB := Lib.hid hb0
  clear hb0
  go_enter Tryz.func174, Tryz.ntmps174
  go_wp2_with (go_at_call 207; refine HI.out.mono ?_; rintro e' w1 ⟨rfl, hb1⟩)
  all_goals
    go_ret2
    exact ⟨⟨_, rfl⟩, HB.out.trans (hb1.mono HB.out.size)⟩
end Go.Proofs.YtbnljlpefpllcaaGreatDoor
namespace Go.Proofs.YtbnljlpefpllcaaGreatDoor
open Go Go.RowKit
/-- All that was there is as it was, but for block g and the block row. -/
structure Stp2 (row : Option Nat) (g : Nat) (w w' : World) : Prop where
  os : w'.os = w.os
  tape : w'.tape = w.tape
  output : w'.output = w.output
  size : w.heap.size ≤ w'.heap.size
  block : ∀ k, k < w.heap.size → k ≠ g → some k ≠ row → w'.heap[k]? = w.heap[k]?
theorem Stp2.of_below {row : Option Nat} {g : Nat} {w w' : World} (h : Below w.heap.size w w') : Stp2 row g w w' := ⟨h.os, h.tape, h.output, h.size, fun k hk _ _ => h.block k hk⟩
theorem Stp2.below {row : Option Nat} {g B : Nat} {a b : World} (h : Stp2 row g a b) (hg : B ≤ g) (hr : ∀ k, row = some k → B ≤ k) (hB : B ≤ a.heap.size) : Below B a b :=
  ⟨h.os, h.tape, h.output, h.size, fun k hk => h.block k (by omega) (by omega) (fun e => by have := hr k e.symm; omega)⟩
theorem Stp2.set {row : Option Nat} {g : Nat} {a b : World} (h : Stp2 row g a b) (o : Nat) (v : Value) : Stp2 row g a (b.setCell ⟨g, o, none⟩ v) :=
  ⟨h.os, h.tape, h.output, by simpa [World.setCell] using h.size, fun k hk hg hr => (Below.heap_setCell b ⟨g, o, none⟩ v k hg).trans (h.block k hk hg hr)⟩
theorem Stp2.grown {g : Nat} {a b c : World} {row : Option Nat} (h : Below a.heap.size a b) (hg : b.grownBy c row) : Stp2 row g a c :=
  ⟨hg.os.trans h.os, hg.tape.trans h.tape, hg.output.trans h.output, Nat.le_trans h.size hg.size, fun k hk _ hr => (hg.block k (Nat.lt_of_lt_of_le hk h.size) hr).trans (h.block k hk)⟩
theorem pair_put1 {w : World} {k : Nat} {a b : Value} {t : TypeId} (x : Value) (h : w.heap[k]? = some (.cells #[a, b] t)) : (w.setCell ⟨k, 1, none⟩ x).heap[k]? = some (.cells #[a, x] t) := by
  simp [World.setCell, Array.getElem?_modify, h]
theorem pair_get {w : World} {k : Nat} {a b : Value} {t : TypeId} (h : w.heap[k]? = some (.cells #[a, b] t)) : w.cell? ⟨k, 0, none⟩ = some a ∧ w.cell? ⟨k, 1, none⟩ = some b ∧ w.frozen? ⟨k, 0, none⟩ = false ∧ w.frozen? ⟨k, 1, none⟩ = false := by
  simp [World.cell?, World.frozen?, h]
/-- Checks the next type, but for its being there before. -/
def addE (d : List Int) (n : Int) (t : Ty) : Int × Int :=
  if t.kind < 0 ∨ 4 < t.kind then (14, 0)
  else if (t.kind ≠ 3 ∧ (t.mu = true ∨ t.reg ≠ 0 ∨ t.elem ≠ 0)) ∨ (t.kind ≠ 4 ∧ 0 < t.flds.length) then (2, 0)
  else if t.kind = 3 ∧ (t.reg < 0 ∨ n ≤ t.reg) then (3, 0)
  else match depF d 0 (if t.kind = 3 then [t.elem] else t.flds) with
    | none => (3, 0)
    | some k =>
      if t.kind = 4 ∧ (t.flds.length = 0 ∨ 65535 < t.flds.length) then (15, 0)
      else if 32 ≤ k then (19, 0)
      else (0, k + 1)
theorem tyE_add (prev : List Ty) (d : List Int) (n : Int) (t : Ty) : tyE prev d n t = if (addE d n t).1 = 0 ∧ t ∈ prev then (21, 0) else addE d n t := by
  unfold tyE addE
  generalize depF d 0 (if t.kind = 3 then [t.elem] else t.flds) = o
  split
  · simp
  split
  · simp
  split
  · simp
  cases o with
  | none => simp
  | some k =>
    simp only
    split
    · simp
    split
    · simp
    split
    · rw [if_pos (by simpa)]
    · rw [if_neg (by simpa)]
def addP (base g : Nat) (row : Option Nat) (n : Int) (ds : List Int) (r : Int × Int) (w : World) (e' : Ending) (w' : World) : Prop :=
  e' = .returned (.int .i64 r.1) ∧ Stp2 row g w w' ∧ (r.1 = 0 → ∃ v', w'.heap[g]? = some (.cells #[.int .i64 n, v'] 239) ∧ w'.ownsRow base 3 1 v' (ds ++ [r.2]).length ((ds ++ [r.2]).map (Value.int .i64)))
theorem addP_bad {base g : Nat} {row : Option Nat} {n : Int} {ds : List Int} {q : Int} {w : World} {w' : World} (h : Stp2 row g w w') (hq : q ≠ 0) : addP base g row n ds (q, 0) w (.returned (.int .i64 q)) w' := ⟨rfl, h, fun h => absurd h hq⟩
set_option maxRecDepth 100000 in
set_option maxHeartbeats 4000000 in
theorem add_kind (ds : List Int) (n : Int) (t : Ty) (g base : Nat) (v : Value) (A : Option Addr) (c : Nat) (w : World) (hg : w.heap[g]? = some (.cells #[.int .i64 n, v] 239)) (hown : w.ownsRow base 3 1 v ds.length (ds.map (Value.int .i64))) (hgb : g < base) (hb : base ≤ w.heap.size) (hl : ds.length ≤ 65535) (ht : Slc 1 RInt w A c t.flds) (hbad : t.kind < 0 ∨ 4 < t.kind) :
    Calls Tryz.prog 173 #[.pointer (some ⟨g, 0, none⟩), tyAgg t A c] w fun e' w' => addP base g v.ownBlock n ds (addE ds n t) w e' w' := by
  have HF : Hid (addE ds n t = (14, 0)) := Lib.hid (by unfold addE; rw [if_pos hbad])
  have e0 : (t.kind == 0) = false := by simp; omega
  have e1 : (t.kind == 1) = false := by simp; omega
  have e2 : (t.kind == 2) = false := by simp; omega
  have e3 : (t.kind == 3) = false := by simp; omega
  have e4 : (t.kind == 4) = false := by simp; omega
  have HB := Lib.hid hb
  rw [HF.out]
  clear hg hown ht hbad
  unfold tyAgg
  go_enter Tryz.func173, Tryz.ntmps173
  go_wp2_with fail
  go_ret
  exact addP_bad (Stp2.of_below ((Below.refl _ _).alloc (Nat.le_refl _) _)) (by omega)
set_option maxRecDepth 100000 in
set_option maxHeartbeats 8000000 in
theorem add_flds (ds : List Int) (n : Int) (t : Ty) (g base : Nat) (v : Value) (A : Option Addr) (c : Nat) (w : World) (hg : w.heap[g]? = some (.cells #[.int .i64 n, v] 239)) (hown : w.ownsRow base 3 1 v ds.length (ds.map (Value.int .i64))) (hgb : g < base) (hb : base ≤ w.heap.size) (hl : ds.length ≤ 65535) (ht : Slc 1 RInt w A c t.flds) (hk0 : 0 ≤ t.kind) (hk4 : t.kind ≤ 4) (hbad : (t.kind ≠ 3 ∧ (t.mu = true ∨ t.reg ≠ 0 ∨ t.elem ≠ 0)) ∨ (t.kind ≠ 4 ∧ 0 < t.flds.length)) :
    Calls Tryz.prog 173 #[.pointer (some ⟨g, 0, none⟩), tyAgg t A c] w fun e' w' => addP base g v.ownBlock n ds (addE ds n t) w e' w' := by
  have HF : Hid (addE ds n t = (2, 0)) := Lib.hid (by unfold addE; rw [if_neg (by omega), if_pos hbad])
  have HB := Lib.hid hb
  rw [HF.out]
  clear hown ht hg
  unfold tyAgg
  obtain ⟨k, mu, rg, el, fl⟩ := t
  simp only at *
  rcases (show k = 0 ∨ k = 1 ∨ k = 2 ∨ k = 3 ∨ k = 4 by omega) with rfl | rfl | rfl | rfl | rfl
  all_goals
    go_enter Tryz.func173, Tryz.ntmps173
    go_wp2_with fail
    all_goals first
      | (go_ret; exact addP_bad (Stp2.of_below ((Below.refl _ _).alloc (Nat.le_refl _) _)) (by omega))
      | (exfalso; clear HF HB; grind)
theorem depP_of {ds l : List Int} {o : Option Int} (h : depF ds 0 l = o) : depP ds l = depQ o := by unfold depP; rw [h]
/-- The values of a type whose kind and fields agree. -/
structure Shape (n : Int) (t : Ty) : Prop where
  k0 : 0 ≤ t.kind
  k4 : t.kind ≤ 4
  plain : t.kind ≠ 3 → t.mu = false ∧ t.reg = 0 ∧ t.elem = 0
  flat : t.kind ≠ 4 → t.flds = []
  reg : t.kind = 3 → 0 ≤ t.reg ∧ t.reg < n
set_option maxRecDepth 100000 in
set_option maxHeartbeats 4000000 in
theorem add_reg (ds : List Int) (n : Int) (t : Ty) (g base : Nat) (v : Value) (A : Option Addr) (c : Nat) (w : World) (hg : w.heap[g]? = some (.cells #[.int .i64 n, v] 239)) (hown : w.ownsRow base 3 1 v ds.length (ds.map (Value.int .i64))) (hgb : g < base) (hb : base ≤ w.heap.size) (hl : ds.length ≤ 65535) (ht : Slc 1 RInt w A c t.flds) (hk : t.kind = 3) (hf : t.flds = []) (hbad : t.reg < 0 ∨ n ≤ t.reg) :
    Calls Tryz.prog 173 #[.pointer (some ⟨g, 0, none⟩), tyAgg t A c] w fun e' w' => addP base g v.ownBlock n ds (addE ds n t) w e' w' := by
  have HF : Hid (addE ds n t = (3, 0)) := Lib.hid (by unfold addE; rw [if_neg (by omega), if_neg (by simp [hk, hf]), if_pos ⟨hk, hbad⟩])
  have HB := Lib.hid hb
  obtain ⟨x0, x1, f0, f1⟩ := pair_get hg
  rw [HF.out]
  clear hown ht hg
  unfold tyAgg
  obtain ⟨k, mu, rg, el, fl⟩ := t
  simp only at *
  subst hk hf
  simp only [List.length_nil]
  have HBD : Hid (∀ m, Below w.heap.size w ((w.alloc (.cells #[.int .i64 3, .bool mu, .int .i64 rg, .int .i64 el, .slice A 0 c] 83)).drewN m)) := Lib.hid (fun m => below_drewN ((Below.refl _ _).alloc (Nat.le_refl _) _) _)
  by_cases hr : rg < 0
  · have e1 : decide (rg < 0) = true := by simp [hr]
    go_enter Tryz.func173, Tryz.ntmps173
    go_wp2_with fail
    go_quiet (fail)
    go_wp2_with fail
    go_ret
    exact addP_bad (Stp2.of_below (HBD.out _)) (by omega)
  · have e1 : decide (rg < 0) = false := by simp; omega
    have e2 : n ≤ rg := by omega
    have hge : g < w.heap.size := by omega
    go_enter Tryz.func173, Tryz.ntmps173
    go_wp2_with fail
    go_quiet (fail)
    go_wp2_with fail
    go_ret
    exact addP_bad (Stp2.of_below (HBD.out _)) (by omega)
end Go.Proofs.YtbnljlpefpllcaaGreatDoor
namespace Go.Proofs.YtbnljlpefpllcaaGreatDoor
open Go Go.RowKit
theorem slc_one (W : World) (x : Int) (T : TypeId) : Slc 1 RInt (W.alloc (.cells #[.int .i64 x] T)) (some ⟨W.heap.size, 0, none⟩) 1 [x] := by
  refine ⟨fun _ => ⟨_, _, rfl, by simp, fun i y hi => ?_⟩, by simp, by omega⟩
  cases i with
  | zero =>
    simp at hi
    subst hi
    show (W.alloc _).cell? ⟨W.heap.size, 0, none⟩ = _
    rw [World.cell?_alloc_at _ _ _ _ (by simp)]
    rfl
  | succ i => simp at hi
theorem slc_one_at (W : World) (x : Int) (T : TypeId) (k : Nat) (hk : k = W.heap.size) : Slc 1 RInt (W.alloc (.cells #[.int .i64 x] T)) (some ⟨k, 0, none⟩) 1 [x] := by
  subst hk
  exact slc_one W x T
theorem size_drewN (w : World) (n : Nat) : (w.drewN n).heap.size = w.heap.size := rfl
theorem cell_new_at (W : World) (x : Value) (t : TypeId) (k : Nat) (hk : k = W.heap.size) : ∀ j u, [x][j]? = some u → (W.alloc (.cells #[x] t)).cell? ((⟨k, 0, none⟩ : Addr).add j) = some u := by
  subst hk
  exact cell_one_new W x t
theorem own_slice {w : World} {base size m : Nat} {e : TypeId} {v : Value} {xs : List Value} (h : w.ownsRow base e size v m xs) : ∃ A c, v = .slice A m c ∧ m ≤ c ∧ c ≤ 9223372036854775807 := by
  rcases h.2 with ⟨rfl, hn⟩ | ⟨g, cap, cur, rfl, hb, hh, hnc, hm, _, _⟩
  · subst hn
    exact ⟨none, 0, rfl, by omega, by omega⟩
  · exact ⟨_, cap, rfl, by simpa using hnc, by simp only [maxLen] at hm; omega⟩
theorem slc_nil {α : Type} {k : Nat} {R : Rd α} {W : World} {A : Option Addr} {c : Nat} (h : c ≤ 9223372036854775807) : Slc k R W A c ([] : List α) := ⟨Sl.nil, by simp, h⟩
theorem grown_at {w W w2 : World} {g base size m : Nat} {e : TypeId} {v : Value} {xs : List Value} {o : Obj} (hgrow : W.grownBy w2 v.ownBlock) (hB : Below w.heap.size w W) (hg : w.heap[g]? = some o) (hown : w.ownsRow base e size v m xs) (hgb : g < base) : w2.heap[g]? = some o := by
  have hlt := (Array.getElem?_eq_some_iff.1 hg).1
  exact ((hgrow.block g (Nat.lt_of_lt_of_le hlt hB.size) (own_ne_low hown hgb)).trans (hB.block g hlt)).trans hg
/-- What the good way leaves. -/
theorem addP_good {w W w2 : World} {g base : Nat} {n k : Int} {ds : List Int} {v v' : Value} (hB : Below w.heap.size w W) (hgrow : W.grownBy w2 v.ownBlock) (hown : w.ownsRow base 3 1 v ds.length (ds.map (Value.int .i64)))
    (hown' : w2.ownsRow base 3 1 v' (ds.length + 1) (ds.map (Value.int .i64) ++ [.int .i64 k])) (hg : w.heap[g]? = some (.cells #[.int .i64 n, v] 239)) (hgb : g < base) (hb : base ≤ w.heap.size) :
    addP base g v.ownBlock n ds (0, k) w (.returned (.int .i64 0)) (w2.setCell ⟨g, 1, none⟩ v') := by
  have hg2 := grown_at hgrow hB hg hown hgb
  refine ⟨rfl, (Stp2.grown hB hgrow).set _ _, fun _ => ⟨v', pair_put1 _ hg2, ?_⟩⟩
  rw [List.length_append, List.length_singleton, List.map_append]
  exact own_block hown' (fun k hk _ _ => Below.heap_setCell w2 ⟨g, 1, none⟩ v' k (by simp; omega))
set_option maxRecDepth 100000 in
set_option maxHeartbeats 8000000 in
theorem add_flat (ds : List Int) (n : Int) (t : Ty) (g base : Nat) (v : Value) (A : Option Addr) (c : Nat) (w : World) (hg : w.heap[g]? = some (.cells #[.int .i64 n, v] 239)) (hown : w.ownsRow base 3 1 v ds.length (ds.map (Value.int .i64))) (hgb : g < base) (hb : base ≤ w.heap.size) (hl : ds.length ≤ 65535) (ht : Slc 1 RInt w A c t.flds) (hs : Shape n t) (hk : t.kind ≤ 2) :
    Calls Tryz.prog 173 #[.pointer (some ⟨g, 0, none⟩), tyAgg t A c] w fun e' w' => addP base g v.ownBlock n ds (addE ds n t) w e' w' := by
  obtain ⟨hk0, hk4, hpl, hfl, hrg⟩ := hs
  have hf := hfl (by omega)
  obtain ⟨hmu, hreg, hel⟩ := hpl (by omega)
  have hdep : depF ds 0 t.flds = some 0 := by rw [hf]; rfl
  have HF : Hid (addE ds n t = (0, 1)) := Lib.hid (by
    unfold addE
    rw [if_neg (by omega), if_neg (by simp [hmu, hreg, hel, hf]), if_neg (by omega), if_neg (by omega), hdep]
    simp only
    rw [if_neg (by omega), if_neg (by omega)]; rfl)
  rw [HF.out]
  obtain ⟨x0, x1, f0, f1⟩ := pair_get hg
  obtain ⟨i0, hi, hz0, hz1, hz2⟩ := info_parts infoInt
  obtain ⟨B, d, rfl, hsl⟩ := slc_of_ints hown
  have HOWN := Lib.hid hown
  have HG := Lib.hid hg
  have HB := Lib.hid hb
  have hgw : g < w.heap.size := by omega
  have hgl := lt_steps hgw
  have hcb := ht.big
  have hlen := hsl.le
  have hdb := hsl.big
  clear hown hg ht hb
  unfold tyAgg
  obtain ⟨k, mu, rg, el, fl⟩ := t
  simp only at *
  subst hmu hreg hel hf
  have HBW : Below w.heap.size w (w.alloc (.cells #[.int .i64 k, .bool false, .int .i64 0, .int .i64 0, .slice A 0 c] 83)) := (Below.refl _ _).alloc (Nat.le_refl _) _
  have HSL : Slc 1 RInt (w.alloc (.cells #[.int .i64 k, .bool false, .int .i64 0, .int .i64 0, .slice A 0 c] 83)) A c ([] : List Int) := slc_nil hcb
  have HBA : Hid (Below w.heap.size w ((w.alloc (.cells #[.int .i64 k, .bool false, .int .i64 0, .int .i64 0, .slice A 0 c] 83)).alloc (.cells #[.int .i64 1] 3))) := Lib.hid (HBW.alloc (by simp) _)
  simp only [List.length_nil]
  rcases (show k = 0 ∨ k = 1 ∨ k = 2 by omega) with rfl | rfl | rfl
  all_goals
    go_enter Tryz.func173, Tryz.ntmps173
    go_wp2_with (first
      | (go_at_call 206; refine (depth_any ds _ g _ _ _ _ _ (cell_keep HBW x1) (hsl.keep RInt.keeps HBW) HSL).mono ?_; rintro e' w' ⟨rfl, hw⟩; obtain rfl := hw.symm; rw [depP_of hdep]; simp only [depQ])
      | (at_builtin; refine wpList_append_own _ rfl _ _ 51 rfl base 3 i0 (.int .i64 0) 1 8 Tryz.underlying51 hi hz0 hz1 hz2 rfl (by decide) _ _ _ rfl (own_below HOWN.out HBA.out) ⟨_, 0, none⟩ 1 1 [.int .i64 1] rfl rfl (cell_new_at _ _ _ _ (by simp)) (ints_oneCell .i64 [1]) (by unfold maxLen; omega) (by omega) (Nat.le_trans HB.out HBA.out.size) ?_; intro v' w2 hown' hgrow _; obtain ⟨B', d', rfl, _⟩ := own_slice hown'; obtain ⟨y0, y1, f2, f3⟩ := pair_get (grown_at hgrow HBA.out HG.out HOWN.out hgb); have HFIN := Lib.hid (addP_good HBA.out hgrow HOWN.out hown' HG.out hgb HB.out)))
    go_ret
    exact HFIN.out
end Go.Proofs.YtbnljlpefpllcaaGreatDoor
namespace Go.Proofs.YtbnljlpefpllcaaGreatDoor
open Go Go.RowKit
set_option maxRecDepth 100000 in
set_option maxHeartbeats 8000000 in
theorem add3_none (ds : List Int) (n : Int) (t : Ty) (g base : Nat) (v : Value) (A : Option Addr) (c : Nat) (w : World) (hg : w.heap[g]? = some (.cells #[.int .i64 n, v] 239)) (hown : w.ownsRow base 3 1 v ds.length (ds.map (Value.int .i64))) (hgb : g < base) (hb : base ≤ w.heap.size) (hl : ds.length ≤ 65535) (ht : Slc 1 RInt w A c t.flds) (hk : t.kind = 3) (hf : t.flds = []) (hrg : 0 ≤ t.reg ∧ t.reg < n) (hdep : depF ds 0 [t.elem] = none) :
    Calls Tryz.prog 173 #[.pointer (some ⟨g, 0, none⟩), tyAgg t A c] w fun e' w' => addP base g v.ownBlock n ds (addE ds n t) w e' w' := by
  have HF : Hid (addE ds n t = (3, 0)) := Lib.hid (by
    unfold addE
    rw [if_neg (by omega), if_neg (by simp [hk, hf]), if_neg (by omega), if_pos hk, hdep]
    )
  rw [HF.out]
  obtain ⟨x0, x1, f0, f1⟩ := pair_get hg
  obtain ⟨i0, hi, hz0, hz1, hz2⟩ := info_parts infoInt
  obtain ⟨B, d, rfl, hsl⟩ := slc_of_ints hown
  have HOWN := Lib.hid hown
  have HG := Lib.hid hg
  have HB := Lib.hid hb
  have hgw : g < w.heap.size := by omega
  have hgl := lt_steps hgw
  have hcb := ht.big
  have hcl := ht.le
  have HT := Lib.hid ht
  have hlen := hsl.le
  have hdb := hsl.big
  clear hown hg ht hb
  unfold tyAgg
  obtain ⟨k, mu, rg, el, fl⟩ := t
  simp only at *
  subst hk hf
  simp only [List.length_nil]
  obtain ⟨hr1, hr2⟩ := hrg
  have e1 : decide (rg < 0) = false := by simp; omega
  have e2 : ¬ n ≤ rg := by omega
  have HBQ : Hid (∀ m, Below w.heap.size w ((w.alloc (.cells #[.int .i64 3, .bool mu, .int .i64 rg, .int .i64 el, .slice A 0 c] 83)).drewN m)) := Lib.hid (fun m => below_drewN ((Below.refl _ _).alloc (Nat.le_refl _) _) _)
  have HBD : Hid (∀ m, Below w.heap.size w (((w.alloc (.cells #[.int .i64 3, .bool mu, .int .i64 rg, .int .i64 el, .slice A 0 c] 83)).drewN m).alloc (.cells #[.int .i64 el] 3))) := Lib.hid (fun m => ((HBQ.out m).alloc (by simp [size_drewN]) _))
  go_enter Tryz.func173, Tryz.ntmps173
  go_wp2_with fail
  go_quiet (fail)
  go_wp2_with (first
    | (go_at_call 206; refine (depth_any ds [el] g _ _ _ _ _ (cell_keep ((HBQ.out _).alloc (by simp [size_drewN]) _) x1) (hsl.keep RInt.keeps ((HBQ.out _).alloc (by simp [size_drewN]) _)) (slc_one_at _ _ _ _ (by rw [size_drewN]; simp))).mono ?_; rintro e' w' ⟨rfl, hw⟩; obtain rfl := hw.symm; rw [depP_of hdep]; simp only [depQ]))
  all_goals first
    | (go_ret; exact addP_bad (Stp2.of_below (HBD.out _)) (by omega))
    | (exfalso; omega)
set_option maxRecDepth 100000 in
set_option maxHeartbeats 8000000 in
theorem add3_deep (ds : List Int) (n : Int) (t : Ty) (g base : Nat) (v : Value) (A : Option Addr) (c : Nat) (w : World) (hg : w.heap[g]? = some (.cells #[.int .i64 n, v] 239)) (hown : w.ownsRow base 3 1 v ds.length (ds.map (Value.int .i64))) (hgb : g < base) (hb : base ≤ w.heap.size) (hl : ds.length ≤ 65535) (ht : Slc 1 RInt w A c t.flds) (hk : t.kind = 3) (hf : t.flds = []) (hrg : 0 ≤ t.reg ∧ t.reg < n) (kd : Int) (hdep : depF ds 0 [t.elem] = some kd) (hkd : 32 ≤ kd) :
    Calls Tryz.prog 173 #[.pointer (some ⟨g, 0, none⟩), tyAgg t A c] w fun e' w' => addP base g v.ownBlock n ds (addE ds n t) w e' w' := by
  have HF : Hid (addE ds n t = (19, 0)) := Lib.hid (by
    unfold addE
    rw [if_neg (by omega), if_neg (by simp [hk, hf]), if_neg (by omega), if_pos hk, hdep]
    simp only
    rw [if_neg (by omega), if_pos hkd])
  rw [HF.out]
  obtain ⟨x0, x1, f0, f1⟩ := pair_get hg
  obtain ⟨i0, hi, hz0, hz1, hz2⟩ := info_parts infoInt
  obtain ⟨B, d, rfl, hsl⟩ := slc_of_ints hown
  have HOWN := Lib.hid hown
  have HG := Lib.hid hg
  have HB := Lib.hid hb
  have hgw : g < w.heap.size := by omega
  have hgl := lt_steps hgw
  have hcb := ht.big
  have hcl := ht.le
  have HT := Lib.hid ht
  have hlen := hsl.le
  have hdb := hsl.big
  clear hown hg ht hb
  unfold tyAgg
  obtain ⟨k, mu, rg, el, fl⟩ := t
  simp only at *
  subst hk hf
  simp only [List.length_nil]
  obtain ⟨hr1, hr2⟩ := hrg
  have e1 : decide (rg < 0) = false := by simp; omega
  have e2 : ¬ n ≤ rg := by omega
  have HBQ : Hid (∀ m, Below w.heap.size w ((w.alloc (.cells #[.int .i64 3, .bool mu, .int .i64 rg, .int .i64 el, .slice A 0 c] 83)).drewN m)) := Lib.hid (fun m => below_drewN ((Below.refl _ _).alloc (Nat.le_refl _) _) _)
  have HBD : Hid (∀ m, Below w.heap.size w (((w.alloc (.cells #[.int .i64 3, .bool mu, .int .i64 rg, .int .i64 el, .slice A 0 c] 83)).drewN m).alloc (.cells #[.int .i64 el] 3))) := Lib.hid (fun m => ((HBQ.out m).alloc (by simp [size_drewN]) _))
  go_enter Tryz.func173, Tryz.ntmps173
  go_wp2_with fail
  go_quiet (fail)
  go_wp2_with (first
    | (go_at_call 206; refine (depth_any ds [el] g _ _ _ _ _ (cell_keep ((HBQ.out _).alloc (by simp [size_drewN]) _) x1) (hsl.keep RInt.keeps ((HBQ.out _).alloc (by simp [size_drewN]) _)) (slc_one_at _ _ _ _ (by rw [size_drewN]; simp))).mono ?_; rintro e' w' ⟨rfl, hw⟩; obtain rfl := hw.symm; rw [depP_of hdep]; simp only [depQ]))
  all_goals first
    | (go_ret; exact addP_bad (Stp2.of_below (HBD.out _)) (by omega))
    | (exfalso; omega)
set_option maxRecDepth 100000 in
set_option maxHeartbeats 8000000 in
theorem add3_good (ds : List Int) (n : Int) (t : Ty) (g base : Nat) (v : Value) (A : Option Addr) (c : Nat) (w : World) (hg : w.heap[g]? = some (.cells #[.int .i64 n, v] 239)) (hown : w.ownsRow base 3 1 v ds.length (ds.map (Value.int .i64))) (hgb : g < base) (hb : base ≤ w.heap.size) (hl : ds.length ≤ 65535) (ht : Slc 1 RInt w A c t.flds) (hk : t.kind = 3) (hf : t.flds = []) (hrg : 0 ≤ t.reg ∧ t.reg < n) (kd : Int) (hdep : depF ds 0 [t.elem] = some kd) (hkd0 : 0 ≤ kd) (hkd : ¬ 32 ≤ kd) :
    Calls Tryz.prog 173 #[.pointer (some ⟨g, 0, none⟩), tyAgg t A c] w fun e' w' => addP base g v.ownBlock n ds (addE ds n t) w e' w' := by
  have HF : Hid (addE ds n t = (0, kd + 1)) := Lib.hid (by
    unfold addE
    rw [if_neg (by omega), if_neg (by simp [hk, hf]), if_neg (by omega), if_pos hk, hdep]
    simp only
    rw [if_neg (by omega), if_neg hkd])
  rw [HF.out]
  obtain ⟨x0, x1, f0, f1⟩ := pair_get hg
  obtain ⟨i0, hi, hz0, hz1, hz2⟩ := info_parts infoInt
  obtain ⟨B, d, rfl, hsl⟩ := slc_of_ints hown
  have HOWN := Lib.hid hown
  have HG := Lib.hid hg
  have HB := Lib.hid hb
  have hgw : g < w.heap.size := by omega
  have hgl := lt_steps hgw
  have hcb := ht.big
  have hcl := ht.le
  have HT := Lib.hid ht
  have hlen := hsl.le
  have hdb := hsl.big
  clear hown hg ht hb
  unfold tyAgg
  obtain ⟨k, mu, rg, el, fl⟩ := t
  simp only at *
  subst hk hf
  simp only [List.length_nil]
  obtain ⟨hr1, hr2⟩ := hrg
  have e1 : decide (rg < 0) = false := by simp; omega
  have e2 : ¬ n ≤ rg := by omega
  have HBQ : Hid (∀ m, Below w.heap.size w ((w.alloc (.cells #[.int .i64 3, .bool mu, .int .i64 rg, .int .i64 el, .slice A 0 c] 83)).drewN m)) := Lib.hid (fun m => below_drewN ((Below.refl _ _).alloc (Nat.le_refl _) _) _)
  have e3 : ¬ 32 ≤ kd := by omega
  have HBAm : Hid (∀ m, Below w.heap.size w ((((w.alloc (.cells #[.int .i64 3, .bool mu, .int .i64 rg, .int .i64 el, .slice A 0 c] 83)).drewN m).alloc (.cells #[.int .i64 el] 3)).alloc (.cells #[.int .i64 (kd + 1)] 3))) := Lib.hid (fun m => ((HBQ.out m).alloc (by simp [size_drewN]) _).alloc (by simp [size_drewN]; omega) _)
  go_enter Tryz.func173, Tryz.ntmps173
  go_wp2_with fail
  go_quiet (fail)
  go_wp2_with (first
    | (go_at_call 206; refine (depth_any ds [el] g _ _ _ _ _ (cell_keep ((HBQ.out _).alloc (by simp [size_drewN]) _) x1) (hsl.keep RInt.keeps ((HBQ.out _).alloc (by simp [size_drewN]) _)) (slc_one_at _ _ _ _ (by rw [size_drewN]; simp))).mono ?_; rintro e' w' ⟨rfl, hw⟩; obtain rfl := hw.symm; rw [depP_of hdep]; simp only [depQ])
    | (at_builtin; refine wpList_append_own _ rfl _ _ 51 rfl base 3 i0 (.int .i64 0) 1 8 Tryz.underlying51 hi hz0 hz1 hz2 rfl (by decide) _ _ _ rfl (own_below HOWN.out (HBAm.out _)) ⟨_, 0, none⟩ 1 1 [.int .i64 (kd + 1)] rfl rfl (cell_new_at _ _ _ _ (by simp [size_drewN])) (ints_oneCell .i64 [kd + 1]) (by unfold maxLen; omega) (by omega) (Nat.le_trans HB.out (HBAm.out _).size) ?_; intro v' w2 hown' hgrow _; obtain ⟨B', d', rfl, _⟩ := own_slice hown'; obtain ⟨y0, y1, f2, f3⟩ := pair_get (grown_at hgrow (HBAm.out _) HG.out HOWN.out hgb); have HFIN := Lib.hid (addP_good (HBAm.out _) hgrow HOWN.out hown' HG.out hgb HB.out)))
  all_goals first
    | (exfalso; omega)
    | (go_ret; exact HFIN.out)
end Go.Proofs.YtbnljlpefpllcaaGreatDoor
namespace Go.Proofs.YtbnljlpefpllcaaGreatDoor
open Go Go.RowKit
section
variable {P : Program} {ops : Array Oper} {Q : Exit → Act → World → Prop} {S : World → Prop}
def pairO (ops : Array Oper) (ord ord' : List Nat) (k : Nat) : Bool :=
  decide (k + 1 < ops.size) && decide (ord.getD k 0 < ops.size) && decide (ord.getD (k + 1) 0 < ops.size) && decide (ord'.getD k 0 = ord.getD (k + 1) 0) && decide (ord'.getD (k + 1) 0 = ord.getD k 0) &&
    decide (Region.ready .any ops (lstO ops.size ord k) = [ord.getD k 0, ord.getD (k + 1) 0]) && decide (Region.ready .any ops (lstO ops.size ord (k + 1)) = [ord.getD (k + 1) 0]) && decide (Region.ready .any ops (lstO ops.size ord' (k + 1)) = [ord.getD k 0]) &&
    decide ((lstO ops.size ord k).setIfInBounds (ord.getD k 0) true = lstO ops.size ord (k + 1)) && decide ((lstO ops.size ord k).setIfInBounds (ord.getD (k + 1) 0) true = lstO ops.size ord' (k + 1)) &&
    decide ((lstO ops.size ord (k + 1)).setIfInBounds (ord.getD (k + 1) 0) true = lstO ops.size ord (k + 2)) && decide ((lstO ops.size ord' (k + 1)).setIfInBounds (ord.getD k 0) true = lstO ops.size ord (k + 2))
theorem wpO_allocs {t : Nat} {ord : List Nat} {k : Nat} {a : Act} {w : World} (ord' : List Nat) (z : Obj) (hok : pairO ops ord ord' k = true)
    (hi : ∀ (a : Act) (w : World) (K : Act → World → Prop), K (a.put ((ops[ord.getD k 0]?).getD default).dst (.pointer (some ⟨w.heap.size, 0, none⟩))) (w.alloc z) → if Region.wanted ((ops[ord.getD k 0]?).getD default) (yielded ops a.tmps) = true then Oper.wp P ((ops[ord.getD k 0]?).getD default) a w K Q else K (a.put ((ops[ord.getD k 0]?).getD default).dst undef) w)
    (hj : ∀ (a : Act) (w : World) (K : Act → World → Prop), K (a.put ((ops[ord.getD (k + 1) 0]?).getD default).dst (.pointer (some ⟨w.heap.size, 0, none⟩))) (w.alloc z) → if Region.wanted ((ops[ord.getD (k + 1) 0]?).getD default) (yielded ops a.tmps) = true then Oper.wp P ((ops[ord.getD (k + 1) 0]?).getD default) a w K Q else K (a.put ((ops[ord.getD (k + 1) 0]?).getD default).dst undef) w)
    (hcomm : ∀ x y, (a.put ((ops[ord.getD (k + 1) 0]?).getD default).dst x).put ((ops[ord.getD k 0]?).getD default).dst y = (a.put ((ops[ord.getD k 0]?).getD default).dst y).put ((ops[ord.getD (k + 1) 0]?).getD default).dst x)
    (hS1 : S (w.alloc z)) (hS2 : S ((w.alloc z).alloc z))
    (h : ∀ ga gb : Nat, (ga = w.heap.size ∧ gb = w.heap.size + 1) ∨ (ga = w.heap.size + 1 ∧ gb = w.heap.size) → wpO P ops Q S t ord (k + 2) ((a.put ((ops[ord.getD k 0]?).getD default).dst (.pointer (some ⟨ga, 0, none⟩))).put ((ops[ord.getD (k + 1) 0]?).getD default).dst (.pointer (some ⟨gb, 0, none⟩))) ((w.alloc z).alloc z)) :
    wpO P ops Q S t ord k a w := by
  simp only [pairO, Bool.and_eq_true, decide_eq_true_eq] at hok
  obtain ⟨⟨⟨⟨⟨⟨⟨⟨⟨⟨⟨h0, h1⟩, h2⟩, -⟩, -⟩, r0⟩, r1⟩, r2⟩, l1⟩, l2⟩, l3⟩, l4⟩ := hok
  have hoi : ops[ord.getD k 0]? = some ((ops[ord.getD k 0]?).getD default) := by rw [Array.getElem?_eq_getElem h1]; rfl
  have hoj : ops[ord.getD (k + 1) 0]? = some ((ops[ord.getD (k + 1) 0]?).getD default) := by rw [Array.getElem?_eq_getElem h2]; rfl
  unfold wpO at h ⊢
  rw [show ops.size - k = (ops.size - (k + 2)) + 1 + 1 by omega]
  refine ⟨fun h => (by rw [r0] at h; cases h), fun i hmem => ?_⟩
  rw [r0, List.mem_cons, List.mem_singleton] at hmem
  rcases hmem with rfl | rfl
  · refine wpOp_step hoi (fun K' hK => hi _ _ K' (hK _ _ ⟨fun _ => hS1, ?_⟩))
    rw [l1]
    refine wpAnyM_one r1 hoj (fun K2 hK2 => hj _ _ K2 (hK2 _ _ (fun _ => hS2) ?_))
    rw [l3]
    have := h w.heap.size (w.heap.size + 1) (Or.inl ⟨rfl, rfl⟩)
    rwa [World.size_alloc]
  · refine wpOp_step hoj (fun K' hK => hj _ _ K' (hK _ _ ⟨fun _ => hS1, ?_⟩))
    rw [l2]
    refine wpAnyM_one r2 hoi (fun K2 hK2 => hi _ _ K2 (hK2 _ _ (fun _ => hS2) ?_))
    rw [l4, hcomm]
    have := h (w.heap.size + 1) w.heap.size (Or.inr ⟨rfl, rfl⟩)
    rwa [World.size_alloc]
end
theorem below_setCells {B b : Nat} {w0 : World} (hb : B ≤ b) : ∀ (vs : List Value) (o : Nat) (w : World), Below B w0 w → Below B w0 (w.setCells b o vs)
  | [], _, _, h => h
  | _ :: vs, o, _, h => below_setCells hb vs (o + 1) _ (h.setCell (by simp; omega) _)
theorem there_new (w : World) (cs : Array Value) (t : TypeId) (k n : Nat) (hk : k = w.heap.size) (hn : n ≤ cs.size) : (w.alloc (.cells cs t)).there k 0 n := fun j hj => by
  subst hk
  constructor
  · rw [World.cell?_alloc_at _ _ _ _ (by simp)]
    simp
    omega
  · have : (w.alloc (.cells cs t)).heap[w.heap.size]? = some (.cells cs t) := Array.getElem?_push_size
    unfold World.frozen?
    simp only [this]
    simp
end Go.Proofs.YtbnljlpefpllcaaGreatDoor
