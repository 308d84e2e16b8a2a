/-
  Walks: Equal, Find and Large of the types.
-/
import Derived.Test.YtmfdppgfbgjmcaaW16
namespace Go.Proofs.Ytmfdppgfbgjmcaa
open Go.RowKit Go.Shelf

set_option maxHeartbeats 4000000 in
theorem req6_any (s t : Ty) (A B : Option Addr) (c d : Nat) (w : World) (hs : Slc 1 RInt w A c s.flds) (ht : Slc 1 RInt w B d t.flds) :
    Calls Try.prog 43 #[.agg #[.int .i64 s.kind, .bool s.mu, .int .i64 s.reg, .int .i64 s.elem, .slice A s.flds.length c], .agg #[.int .i64 t.kind, .bool t.mu, .int .i64 t.reg, .int .i64 t.elem, .slice B t.flds.length d]] w fun e' w' => (∃ b, e' = .returned (.bool b)) ∧ Below w.heap.size w w' := by
  obtain ⟨hss, hsl, hsb⟩ := hs
  obtain ⟨hts, htl, htb⟩ := ht
  obtain ⟨sk, sm, sr, se, sf⟩ := s
  obtain ⟨tk, tm, tr, te, tf⟩ := t
  simp only [] at *
  go_enter Try.func43, Try.ntmps43
  go_wp2
  all_goals first
    | (go_ret; exact ⟨⟨_, rfl⟩, by (repeat (first | exact Below.refl _ _ | assumption | refine Below.alloc ?_ (by first | omega | (simp; done) | (simp; omega)) _ | refine below_drewN ?_ _ | refine Below.drew ?_ | refine Below.setCell ?_ (by first | omega | (simp; done) | (simp; omega)) _))⟩)
    | skip
  have hlen : sf.length = tf.length := by first | omega | grind | (trace_state; sorry)
  go_loopw [5] (fun v wr => ∃ k : Nat, k ≤ sf.length ∧ v = .int .i64 k ∧ wr.cell? ⟨w.heap.size, 4, none⟩ = some (.slice A sf.length c) ∧ wr.cell? ⟨w.heap.size + 1, 4, none⟩ = some (.slice B tf.length d) ∧ Below w.heap.size w wr) (fun v _ => sf.length - (intOf v).toNat)
  case atStart => exact ⟨0, by omega, rfl, by go_simp, by go_simp, by (repeat (first | exact Below.refl _ _ | assumption | refine Below.alloc ?_ (by first | omega | (simp; done) | (simp; omega)) _ | refine below_drewN ?_ _ | refine Below.drew ?_ | refine Below.setCell ?_ (by first | omega | (simp; done) | (simp; omega)) _))⟩
  case round =>
    obtain ⟨k, hk, rfl, z1, z2, hB⟩ := hrel
    by_cases hlt : k < sf.length
    · obtain ⟨b1, o1, rfl, hb1, r1⟩ := hss.at_ hlt
      obtain ⟨b2, o2, rfl, hb2, r2⟩ := hts.at_ (show k < tf.length by omega)
      unfold RInt at r1 r2
      rw [Nat.mul_one] at r1 r2
      replace r1 := (hB.cell (p := ⟨b1, o1 + k, none⟩) hb1).trans r1
      replace r2 := (hB.cell (p := ⟨b2, o2 + k, none⟩) hb2).trans r2
      generalize sf[k] = x at *
      generalize tf[k] = y at *
      have hlt2 : k < tf.length := by omega
      go_wp2
      go_quiet (fail)
      go_wp2
      all_goals first
        | (go_ret
           exact ⟨⟨_, rfl⟩, by (repeat (first | exact Below.refl _ _ | assumption | refine Below.alloc ?_ (by first | omega | (simp; done) | (simp; omega)) _ | refine below_drewN ?_ _ | refine Below.drew ?_ | refine Below.setCell ?_ (by first | omega | (simp; done) | (simp; omega)) _))⟩)
        | (go_roundw
           case rel => exact ⟨k + 1, by omega, by go_num, z1, z2, by (repeat (first | exact Below.refl _ _ | assumption | refine Below.alloc ?_ (by first | omega | (simp; done) | (simp; omega)) _ | refine below_drewN ?_ _ | refine Below.drew ?_ | refine Below.setCell ?_ (by first | omega | (simp; done) | (simp; omega)) _))⟩
           case measure => simp [intOf]; omega)
    · go_wp2
      all_goals first
        | (go_ret
           exact ⟨⟨_, rfl⟩, by (repeat (first | exact Below.refl _ _ | assumption | refine Below.alloc ?_ (by first | omega | (simp; done) | (simp; omega)) _ | refine below_drewN ?_ _ | refine Below.drew ?_ | refine Below.setCell ?_ (by first | omega | (simp; done) | (simp; omega)) _))⟩)
        | (exfalso; omega)

set_option maxHeartbeats 4000000 in
theorem find_any (ts : List Ty) (t : Ty) (A B : Option Addr) (c d : Nat) (w : World) (hs : Slc 5 RTy w A c ts) (ht : Slc 1 RInt w B d t.flds) :
    Calls Try.prog 42 #[.slice A ts.length c, .agg #[.int .i64 t.kind, .bool t.mu, .int .i64 t.reg, .int .i64 t.elem, .slice B t.flds.length d]] w fun e' w' => (∃ q, e' = .returned (.int .i64 q)) ∧ Below w.heap.size w w' := by
  have hle := hs.le
  have hbig := hs.big
  go_enter Try.func42, Try.ntmps42
  go_wp2
  go_loopw [5] (fun v wr => ∃ k : Nat, k ≤ ts.length ∧ v = .int .i64 k ∧ wr.cell? ⟨w.heap.size, 0, none⟩ = some (.int .i64 t.kind) ∧ wr.cell? ⟨w.heap.size, 1, none⟩ = some (.bool t.mu) ∧ wr.cell? ⟨w.heap.size, 2, none⟩ = some (.int .i64 t.reg) ∧ wr.cell? ⟨w.heap.size, 3, none⟩ = some (.int .i64 t.elem) ∧ wr.cell? ⟨w.heap.size, 4, none⟩ = some (.slice B t.flds.length d) ∧ Below w.heap.size w wr) (fun v _ => ts.length - (intOf v).toNat)
  case atStart => exact ⟨0, by omega, rfl, by go_simp, by go_simp, by go_simp, by go_simp, by go_simp, by (repeat (first | exact Below.refl _ _ | assumption | refine Below.alloc ?_ (by first | omega | (simp; done) | (simp; omega)) _ | refine below_drewN ?_ _ | refine Below.drew ?_ | refine Below.setCell ?_ (by first | omega | (simp; done) | (simp; omega)) _))⟩
  case round =>
    obtain ⟨k, hk, rfl, z0, z1, z2, z3, z4, hB⟩ := hrel
    by_cases hlt : k < ts.length
    · obtain ⟨b1, o1, rfl, hb1, r1⟩ := hs.sl.at_ hlt
      obtain ⟨r1, r2, r3, r4, A2, c2, r5, r6, r7, r8⟩ := RTy.keeps _ _ _ w.heap.size _ _ _ (Nat.le_refl _) hb1 hB r1
      have hE := Lib.hid (req6_any ts[k] t A2 B c2 d wr.drew ⟨(r8.keep RInt.keeps hB.size ((Below.refl _ _).drew) : Sl 1 RInt wr.drew wr.drew.heap.size A2 ts[k].flds), r6, r7⟩ ((ht.keep RInt.keeps hB).keep RInt.keeps ((Below.refl _ _).drew)))
      generalize ts[k] = x at *
      clear r8 hs ht
      go_wp2
      go_still_tail 5, (by kernel_rfl)
      change wpList _ _ _ _ _ wr.drew
      go_wp2_with (go_at_call 43; refine hE.out.mono ?_; rintro e' w2 ⟨⟨q, rfl⟩, hb2⟩)
      all_goals have hB2 : Below w.heap.size w w2 := hB.drew.trans (hb2.mono hB.drew.size)
      all_goals replace z0 := cell_keep hb2 (show wr.drew.cell? _ = _ from z0)
      all_goals replace z1 := cell_keep hb2 (show wr.drew.cell? _ = _ from z1)
      all_goals replace z2 := cell_keep hb2 (show wr.drew.cell? _ = _ from z2)
      all_goals replace z3 := cell_keep hb2 (show wr.drew.cell? _ = _ from z3)
      all_goals replace z4 := cell_keep hb2 (show wr.drew.cell? _ = _ from z4)
      all_goals first
        | (go_ret
           exact ⟨⟨_, rfl⟩, hB2⟩)
        | (go_roundw
           case rel => exact ⟨k + 1, by omega, by go_num, z0, z1, z2, z3, z4, hB2⟩
           case measure => simp [intOf]; omega)
    · go_wp2
      go_ret
      exact ⟨⟨_, rfl⟩, hB⟩

set_option maxHeartbeats 4000000 in
theorem large_any (ts : List Ty) (A : Option Addr) (c : Nat) (w : World) (hs : Slc 5 RTy w A c ts) :
    Calls Try.prog 26 #[.slice A ts.length c] w fun e' w' => (∃ q, e' = .returned (.int .i64 q) ∧ (q ≤ 0 → ts.length ≤ 200)) ∧ Below w.heap.size w w' := by
  have hle := hs.le
  have hbig := hs.big
  go_enter Try.func26, Try.ntmps26
  go_wp2
  go_loopw [3, 8] (fun n v wr => ∃ k m : Nat, k ≤ ts.length ∧ k ≤ m ∧ m ≤ 200 ∧ n = .int .i64 m ∧ v = .int .i64 k ∧ Below w.heap.size w wr) (fun _ v _ => ts.length - (intOf v).toNat)
  case atStart => exact ⟨0, 0, by omega, by omega, by omega, rfl, rfl, Below.refl _ _⟩
  case round =>
    obtain ⟨k, m, hk, hkm, hm, rfl, rfl, hB⟩ := hrel
    by_cases hlt : k < ts.length
    · obtain ⟨b1, o1, rfl, hb1, r1⟩ := hs.sl.at_ hlt
      obtain ⟨r1, r2, r3, r4, A2, c2, r5, r6, r7, r8⟩ := RTy.keeps _ _ _ w.heap.size _ _ _ (Nat.le_refl _) hb1 hB r1
      generalize ts[k] = x at *
      clear r8 hs
      have hBs := hB.size
      go_wp2
      all_goals first
        | (go_ret
           exact ⟨⟨1, rfl, by omega⟩, by (repeat (first | exact Below.refl _ _ | assumption | refine Below.alloc ?_ (by first | omega | (simp; done) | (simp; omega)) _ | refine below_drewN ?_ _ | refine Below.drew ?_ | refine Below.setCell ?_ (by first | omega | (simp; done) | (simp; omega)) _))⟩)
        | (go_roundw
           case rel =>
             refine ⟨k + 1, m + (1 + if 500 < x.flds.length then 500 else x.flds.length), by omega, by omega, ?_, ?_, by go_num, by (repeat (first | exact Below.refl _ _ | assumption | refine Below.alloc ?_ (by first | omega | (simp; done) | (simp; omega)) _ | refine below_drewN ?_ _ | refine Below.drew ?_ | refine Below.setCell ?_ (by first | omega | (simp; done) | (simp; omega)) _))⟩
             · grind
             · congr 1; grind
           case measure => simp [intOf]; omega)
    · go_wp2
      go_ret
      exact ⟨⟨0, rfl, fun _ => by omega⟩, hB⟩
end Go.Proofs.Ytmfdppgfbgjmcaa
