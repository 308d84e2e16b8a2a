/-
  Walks of the library's generic functions at the types of places: slices.Equal, slices.IndexFunc, slices.ContainsFunc.
-/
import Derived.Test.YtmfdppgfbgjmcaaW1
namespace Go.Proofs.Ytmfdppgfbgjmcaa
open Go.RowKit

theorem neqPj (x y : Pj) (w : World) : Sem.run Try.prog (binOp .neq 46 (.agg #[.int .i64 x.kind, .int .i64 x.field]) (.agg #[.int .i64 y.kind, .int .i64 y.field])) w = .ok (.bool (!decide (x = y))) w := by
  have u3 := Try.underlying3
  have a3 := Try.isAgg3
  have z3 := Try.sizeOf3
  have hS : Try.prog.underlying 46 = some (.struct (Try.prog.fieldsOf 46)) := by kernel_rfl
  have hp : Try.prog.stoodInHeld 46 = false := by kernel_rfl
  rw [run_neq_struct, show (10000 : Nat) = 9999 + 1 from rfl, run_equalIn_agg w 9999 46 _ _ hS hp]
  simp only [Program.fieldsOf, Try.underlying46]
  go_simp
  obtain ⟨k1, f1⟩ := x
  obtain ⟨k2, f2⟩ := y
  by_cases h1 : k1 = k2 <;> by_cases h2 : f1 = f2 <;> simp [h1, h2]

theorem take_succ_eq {α : Type} {xs ys : List α} {k : Nat} (h : xs.take k = ys.take k) (h1 : k < xs.length) (h2 : k < ys.length) (he : xs[k] = ys[k]) : xs.take (k + 1) = ys.take (k + 1) := by
  rw [List.take_succ_eq_append_getElem h1, List.take_succ_eq_append_getElem h2, h, he]
theorem ne_of_at {α : Type} {xs ys : List α} {k : Nat} (h1 : k < xs.length) (h2 : k < ys.length) (he : ¬ xs[k] = ys[k]) : ¬ xs = ys := by
  rintro rfl; exact he rfl
theorem eq_of_take {α : Type} {xs ys : List α} {k : Nat} (h : xs.take k = ys.take k) (h1 : xs.length ≤ k) (hl : xs.length = ys.length) : xs = ys := by
  rw [List.take_of_length_le h1, List.take_of_length_le (by omega)] at h; exact h
theorem below_of_drewN {w wr : World} (h : ∃ q, wr = w.drewN q) : Below w.heap.size w wr := by
  obtain ⟨q, rfl⟩ := h
  exact below_drewN (Below.refl _ _) q
theorem drewN_more {w wr : World} (h : ∃ q, wr = w.drewN q) (n : Nat) : ∃ q, wr.drewN n = w.drewN q := by
  obtain ⟨q, rfl⟩ := h
  exact ⟨q + n, World.drewN_drewN ..⟩
theorem ret_b {a b : Bool} (h : a = b) : Ending.returned (.bool a) = .returned (.bool b) := by rw [h]

/-- The first place at which p holds, counted from k; -1 if there is none. -/
def idxF {α : Type} (p : α → Bool) : Nat → List α → Int
  | _, [] => -1
  | k, x :: r => if p x = true then k else idxF p (k + 1) r
theorem idxF_any {α : Type} (p : α → Bool) : ∀ (xs : List α) (k : Nat), decide (0 ≤ idxF p k xs) = xs.any p
  | [], k => by simp [idxF]
  | x :: r, k => by
    rw [idxF, List.any_cons]
    by_cases h : p x = true
    · simp [h]
    · rw [if_neg h, idxF_any p r (k + 1)]; simp [h]

/-- Is the projection a dereference? -/
def isD (x : Pj) : Bool := x.kind == 0
/-- Is the type no mutable reference? -/
def notMu (t : Ty) : Bool := !t.mu

set_option maxHeartbeats 400000 in
theorem der_any (x : Pj) (w : World) (B b o : Nat) (_h : RPj w B b o x) :
    Calls Try.prog 35 #[.agg #[.int .i64 x.kind, .int .i64 x.field]] w fun e w' => e = .returned (.bool (isD x)) ∧ Below w.heap.size w w' := by
  go_enter Try.func35, Try.ntmps35
  go_wp2
  go_ret
  exact ⟨rfl, (Below.refl _ _).alloc (Nat.le_refl _) _⟩
theorem der_fit {P : Prop} (h : P) : P := h

/-- A type by value: its cells. -/
def tyAgg (t : Ty) (A : Option Addr) (c : Nat) : Value := .agg #[.int .i64 t.kind, .bool t.mu, .int .i64 t.reg, .int .i64 t.elem, .slice A t.flds.length c]

set_option maxHeartbeats 400000 in
theorem mut_any0 (t : Ty) (A : Option Addr) (c : Nat) (w : World) :
    Calls Try.prog 31 #[.agg #[.int .i64 t.kind, .bool t.mu, .int .i64 t.reg, .int .i64 t.elem, .slice A t.flds.length c]] w fun e w' => e = .returned (.bool (notMu t)) ∧ Below w.heap.size w w' := by
  go_enter Try.func31, Try.ntmps31
  go_wp2
  go_ret
  exact ⟨rfl, (Below.refl _ _).alloc (Nat.le_refl _) _⟩
theorem mut_any (t : Ty) (w : World) (B b o : Nat) (_h : RTy w B b o t) : ∀ (A : Option Addr) (c : Nat),
    Calls Try.prog 31 #[.agg #[.int .i64 t.kind, .bool t.mu, .int .i64 t.reg, .int .i64 t.elem, .slice A t.flds.length c]] w fun e w' => e = .returned (.bool (notMu t)) ∧ Below w.heap.size w w' := fun A c => mut_any0 t A c w
theorem mut_fit {P : Option Addr → Nat → Prop} {A : Option Addr} {c : Nat} (h : ∀ A c, P A c) : P A c := h A c

set_option maxHeartbeats 1000000 in
theorem eqPj_any (A B : Option Addr) (c d : Nat) (xs ys : List Pj) (w : World) (hx : Slc 2 RPj w A c xs) (hy : Slc 2 RPj w B d ys) :
    Calls Try.prog 33 #[.slice A xs.length c, .slice B ys.length d] w fun e w' => e = .returned (.bool (decide (xs = ys))) ∧ ∃ q, w' = w.drewN q := by
  obtain ⟨hs, hle, hbig⟩ := hx
  obtain ⟨hs2, hle2, hbig2⟩ := hy
  by_cases hl : xs.length = ys.length
  · have t0 : ((xs.length : Int) != (ys.length : Int)) = false := by simp [hl]
    have HL := Lib.hid hl
    clear hl
    go_enter Try.func33, Try.ntmps33
    go_wp2
    go_loopw [13] (fun v wr => ∃ k : Nat, k ≤ xs.length ∧ v = .int .i64 k ∧ (∃ q, wr = w.drewN q) ∧ Hid (xs.take k = ys.take k)) (fun v _ => xs.length - (intOf v).toNat)
    case atStart => exact ⟨0, by omega, rfl, ⟨0, rfl⟩, Lib.hid (by simp)⟩
    case round =>
      obtain ⟨k, hk, rfl, hq, he⟩ := hrel
      have hB : Below w.heap.size w wr := below_of_drewN hq
      have hQ := Lib.hid hq
      clear hq
      by_cases hlt : k < xs.length
      · have hlt2 : k < ys.length := by have := HL.out; omega
        obtain ⟨b, off, rfl, hb, hr⟩ := hs.at_ hlt
        obtain ⟨b2, off2, rfl, hb2, hr2⟩ := hs2.at_ hlt2
        obtain ⟨g1, g2⟩ := RPj.keeps _ _ _ w.heap.size _ _ _ (Nat.le_refl _) hb hB hr
        obtain ⟨h1, h2⟩ := RPj.keeps _ _ _ w.heap.size _ _ _ (Nat.le_refl _) hb2 hB hr2
        have hne := neqPj xs[k] ys[k]
        have hyes := Lib.hid (fun h => take_succ_eq he.out hlt hlt2 h)
        have hno := Lib.hid (ne_of_at hlt hlt2)
        clear he hr hr2
        generalize xs[k] = x at *
        generalize ys[k] = y at *
        clear hs hs2
        by_cases hxy : x = y
        · have hf : (!decide (x = y)) = false := by simp [hxy]
          rw [hf] at hne
          have hyes' := Lib.hid (hyes.out hxy)
          clear hyes hno hf hxy
          go_wp2
          go_quiet (fail)
          go_wp2
          go_roundw
          case rel => exact ⟨k + 1, by omega, by go_num, drewN_more hQ.out _, hyes'⟩
          case measure => simp [intOf]; omega
        · have hf : (!decide (x = y)) = true := by simp [hxy]
          rw [hf] at hne
          have hno' := Lib.hid (hno.out hxy)
          clear hyes hno hf hxy
          go_wp2
          go_quiet (fail)
          go_wp2
          go_ret
          exact ⟨ret_b (by simp [hno'.out]), drewN_more hQ.out _⟩
      · have hfin := Lib.hid (eq_of_take he.out (by omega) HL.out)
        clear he hs hs2
        go_wp2
        go_ret
        exact ⟨ret_b (by simp [hfin.out]), hQ.out⟩
  · have t0 : ((xs.length : Int) != (ys.length : Int)) = true := by simp; omega
    have hfin : Hid (¬ xs = ys) := Lib.hid (fun h => hl (by rw [h]))
    go_enter Try.func33, Try.ntmps33
    go_wp2
    go_ret
    exact ⟨ret_b (by simp [hfin.out]), 0, rfl⟩

set_option maxHeartbeats 1000000 in
theorem eqInt_any (A B : Option Addr) (c d : Nat) (xs ys : List Int) (w : World) (hx : Slc 1 RInt w A c xs) (hy : Slc 1 RInt w B d ys) :
    Calls Try.prog 17 #[.slice A xs.length c, .slice B ys.length d] w fun e w' => e = .returned (.bool (decide (xs = ys))) ∧ ∃ q, w' = w.drewN q := by
  obtain ⟨hs, hle, hbig⟩ := hx
  obtain ⟨hs2, hle2, hbig2⟩ := hy
  by_cases hl : xs.length = ys.length
  · have t0 : ((xs.length : Int) != (ys.length : Int)) = false := by simp [hl]
    have HL := Lib.hid hl
    clear hl
    go_enter Try.func17, Try.ntmps17
    go_wp2
    go_loopw [13] (fun v wr => ∃ k : Nat, k ≤ xs.length ∧ v = .int .i64 k ∧ (∃ q, wr = w.drewN q) ∧ Hid (xs.take k = ys.take k)) (fun v _ => xs.length - (intOf v).toNat)
    case atStart => exact ⟨0, by omega, rfl, ⟨0, rfl⟩, Lib.hid (by simp)⟩
    case round =>
      obtain ⟨k, hk, rfl, hq, he⟩ := hrel
      have hB : Below w.heap.size w wr := below_of_drewN hq
      have hQ := Lib.hid hq
      clear hq
      by_cases hlt : k < xs.length
      · have hlt2 : k < ys.length := by have := HL.out; omega
        obtain ⟨b, off, rfl, hb, hr⟩ := hs.at_ hlt
        obtain ⟨b2, off2, rfl, hb2, hr2⟩ := hs2.at_ hlt2
        obtain g1 := RInt.keeps _ _ _ w.heap.size _ _ _ (Nat.le_refl _) hb hB hr
        obtain h1 := RInt.keeps _ _ _ w.heap.size _ _ _ (Nat.le_refl _) hb2 hB hr2
        unfold RInt at g1 h1
        rw [Nat.mul_one] at g1 h1
        have hyes := Lib.hid (fun h => take_succ_eq he.out hlt hlt2 h)
        have hno := Lib.hid (ne_of_at hlt hlt2)
        clear he hr hr2
        generalize xs[k] = x at *
        generalize ys[k] = y at *
        clear hs hs2
        by_cases hxy : x = y
        · have hne : (x != y) = false := by simp [hxy]
          have hyes' := Lib.hid (hyes.out hxy)
          clear hyes hno hxy
          go_wp2
          go_quiet (fail)
          go_wp2
          go_roundw
          case rel => exact ⟨k + 1, by omega, by go_num, drewN_more hQ.out _, hyes'⟩
          case measure => simp [intOf]; omega
        · have hne : (x != y) = true := by simp [hxy]
          have hno' := Lib.hid (hno.out hxy)
          clear hyes hno hxy
          go_wp2
          go_quiet (fail)
          go_wp2
          go_ret
          exact ⟨ret_b (by simp [hno'.out]), drewN_more hQ.out _⟩
      · have hfin := Lib.hid (eq_of_take he.out (by omega) HL.out)
        clear he hs hs2
        go_wp2
        go_ret
        exact ⟨ret_b (by simp [hfin.out]), hQ.out⟩
  · have t0 : ((xs.length : Int) != (ys.length : Int)) = true := by simp; omega
    have hfin : Hid (¬ xs = ys) := Lib.hid (fun h => hl (by rw [h]))
    go_enter Try.func17, Try.ntmps17
    go_wp2
    go_ret
    exact ⟨ret_b (by simp [hfin.out]), 0, rfl⟩

set_option maxHeartbeats 1000000 in
theorem der_index (A : Option Addr) (c : Nat) (xs : List Pj) (w : World) (hx : Slc 2 RPj w A c xs) :
    Calls Try.prog 41 #[.slice A xs.length c, .func (.func 35) #[] #[]] w fun e w' => e = .returned (.int .i64 (idxF isD 0 xs)) ∧ Below w.heap.size w w' := by
  obtain ⟨hs, hle, hbig⟩ := hx
  have hz : Hid (idxF isD 0 xs = idxF isD 0 (xs.drop 0)) := Lib.hid (by simp)
  go_enter Try.func41, Try.ntmps41
  go_wp2
  go_loopw [8] (fun v wr => ∃ k : Nat, k ≤ xs.length ∧ v = .int .i64 k ∧ Below w.heap.size w wr ∧ Hid (idxF isD 0 xs = idxF isD k (xs.drop k))) (fun v _ => xs.length - (intOf v).toNat)
  case atStart => exact ⟨0, by omega, rfl, Below.refl _ _, hz⟩
  case round =>
    clear hz
    obtain ⟨k, hk, rfl, hB, he⟩ := hrel
    by_cases hlt : k < xs.length
    · obtain ⟨b, off, rfl, hb, hr⟩ := hs.at_ hlt
      have hd := Lib.hid (drop_cons hlt)
      have hsz := hB.size
      have hr' := RPj.keeps _ _ _ w.heap.size _ _ _ (Nat.le_refl _) hb hB hr
      generalize xs[k] = x at hr hr' hd
      clear hr hs
      by_cases hp : isD x = true
      · have hfin : Hid (idxF isD 0 xs = k) := Lib.hid (by rw [he.out, hd.out, idxF, if_pos hp])
        have hC := der_any x wr w.heap.size b (off + k * 2) hr'
        rw [hp] at hC
        obtain ⟨g1, g2⟩ := hr'
        have HC := Lib.hid hC
        clear he hd hp hC
        go_wp2_with (go_at_call 35; refine (der_fit HC.out).mono ?_; rintro e w' ⟨rfl, hb1⟩)
        go_ret
        exact ⟨ret_i hfin.out.symm, hB.trans (hb1.mono hsz)⟩
      · have he' : Hid (idxF isD 0 xs = idxF isD (k + 1) (xs.drop (k + 1))) := Lib.hid (by rw [he.out, hd.out, idxF, if_neg hp])
        simp only [Bool.not_eq_true] at hp
        have hC := der_any x wr w.heap.size b (off + k * 2) hr'
        rw [hp] at hC
        obtain ⟨g1, g2⟩ := hr'
        have HC := Lib.hid hC
        clear he hd hp hC
        go_wp2_with (go_at_call 35; refine (der_fit HC.out).mono ?_; rintro e w' ⟨rfl, hb1⟩)
        go_roundw
        case rel => exact ⟨k + 1, by omega, by go_num, hB.trans (hb1.mono hsz), he'⟩
        case measure => simp [intOf]; omega
    · have hd : xs.drop k = [] := List.drop_eq_nil_of_le (by omega)
      have hfin : Hid (idxF isD 0 xs = -1) := Lib.hid (by rw [he.out, hd, idxF])
      clear he hd hs
      go_wp2
      go_ret
      exact ⟨ret_i hfin.out.symm, hB⟩

set_option maxHeartbeats 1000000 in
theorem der_contains (A : Option Addr) (c : Nat) (xs : List Pj) (w : World) (hx : Slc 2 RPj w A c xs) :
    Calls Try.prog 34 #[.slice A xs.length c, .func (.func 35) #[] #[]] w fun e w' => e = .returned (.bool (xs.any isD)) ∧ Below w.heap.size w w' := by
  have hC := Lib.hid (der_index A c xs w hx)
  have hfin := Lib.hid (idxF_any isD xs 0)
  clear hx
  go_enter Try.func34, Try.ntmps34
  go_wp2_with (go_at_call 41; refine hC.out.mono ?_; rintro e w' ⟨rfl, hb1⟩)
  go_ret
  exact ⟨ret_b (by rw [← hfin.out]), hb1⟩

set_option maxHeartbeats 1000000 in
theorem mut_index (A : Option Addr) (c : Nat) (xs : List Ty) (w : World) (hx : Slc 5 RTy w A c xs) :
    Calls Try.prog 40 #[.slice A xs.length c, .func (.func 31) #[] #[]] w fun e w' => e = .returned (.int .i64 (idxF notMu 0 xs)) ∧ Below w.heap.size w w' := by
  obtain ⟨hs, hle, hbig⟩ := hx
  have hz : Hid (idxF notMu 0 xs = idxF notMu 0 (xs.drop 0)) := Lib.hid (by simp)
  go_enter Try.func40, Try.ntmps40
  go_wp2
  go_loopw [8] (fun v wr => ∃ k : Nat, k ≤ xs.length ∧ v = .int .i64 k ∧ Below w.heap.size w wr ∧ Hid (idxF notMu 0 xs = idxF notMu k (xs.drop k))) (fun v _ => xs.length - (intOf v).toNat)
  case atStart => exact ⟨0, by omega, rfl, Below.refl _ _, hz⟩
  case round =>
    clear hz
    obtain ⟨k, hk, rfl, hB, he⟩ := hrel
    by_cases hlt : k < xs.length
    · obtain ⟨b, off, rfl, hb, hr⟩ := hs.at_ hlt
      have hd := Lib.hid (drop_cons hlt)
      have hsz := hB.size
      have hr' := RTy.keeps _ _ _ w.heap.size _ _ _ (Nat.le_refl _) hb hB hr
      generalize xs[k] = x at hr hr' hd
      clear hr hs
      by_cases hp : notMu x = true
      · have hfin : Hid (idxF notMu 0 xs = k) := Lib.hid (by rw [he.out, hd.out, idxF, if_pos hp])
        have hC := mut_any x wr w.heap.size b (off + k * 5) hr'
        rw [hp] at hC
        obtain ⟨g1, g2, g3, g4, gA, gc, g5, gl, gm, gs⟩ := hr'
        have HC := Lib.hid hC
        clear he hd hp hC
        go_wp2_with (go_at_call 31; refine (mut_fit HC.out).mono ?_; rintro e w' ⟨rfl, hb1⟩)
        go_ret
        exact ⟨ret_i hfin.out.symm, hB.trans (hb1.mono hsz)⟩
      · have he' : Hid (idxF notMu 0 xs = idxF notMu (k + 1) (xs.drop (k + 1))) := Lib.hid (by rw [he.out, hd.out, idxF, if_neg hp])
        simp only [Bool.not_eq_true] at hp
        have hC := mut_any x wr w.heap.size b (off + k * 5) hr'
        rw [hp] at hC
        obtain ⟨g1, g2, g3, g4, gA, gc, g5, gl, gm, gs⟩ := hr'
        have HC := Lib.hid hC
        clear he hd hp hC
        go_wp2_with (go_at_call 31; refine (mut_fit HC.out).mono ?_; rintro e w' ⟨rfl, hb1⟩)
        go_roundw
        case rel => exact ⟨k + 1, by omega, by go_num, hB.trans (hb1.mono hsz), he'⟩
        case measure => simp [intOf]; omega
    · have hd : xs.drop k = [] := List.drop_eq_nil_of_le (by omega)
      have hfin : Hid (idxF notMu 0 xs = -1) := Lib.hid (by rw [he.out, hd, idxF])
      clear he hd hs
      go_wp2
      go_ret
      exact ⟨ret_i hfin.out.symm, hB⟩

set_option maxHeartbeats 1000000 in
theorem mut_contains (A : Option Addr) (c : Nat) (xs : List Ty) (w : World) (hx : Slc 5 RTy w A c xs) :
    Calls Try.prog 30 #[.slice A xs.length c, .func (.func 31) #[] #[]] w fun e w' => e = .returned (.bool (xs.any notMu)) ∧ Below w.heap.size w w' := by
  have hC := Lib.hid (mut_index A c xs w hx)
  have hfin := Lib.hid (idxF_any notMu xs 0)
  clear hx
  go_enter Try.func30, Try.ntmps30
  go_wp2_with (go_at_call 40; refine hC.out.mono ?_; rintro e w' ⟨rfl, hb1⟩)
  go_ret
  exact ⟨ret_b (by rw [← hfin.out]), hb1⟩

end Go.Proofs.Ytmfdppgfbgjmcaa
