/-
  Parts of the proof: V20 V21 V30 V31 V32 V32R V22 V23.
-/
import Derived.Test.YtbnljlpefpllcaaGreatDoorMD5
import Derived.Test.YtbnljlpefpllcaaGreatDoorMD14
import Derived.Test.YtbnljlpefpllcaaGreatDoorMD3
import Derived.Test.YtbnljlpefpllcaaGreatDoorMD6
import Derived.Test.YtbnljlpefpllcaaGreatDoorMD12
namespace Go.Proofs.YtbnljlpefpllcaaGreatDoor
open Go Go.RowKit
theorem nat_beq0 (m : Nat) : ((m : Int) == 0) = decide (m = 0) := by
  rw [Bool.eq_iff_iff]
  simp
set_option maxRecDepth 100000 in
set_option maxHeartbeats 4000000 in
theorem zero_any (p : Plc) (A : Option Addr) (c : Nat) (w : World) :
    Calls Tryz.prog 124 #[.agg #[.int .i64 p.loc, .slice A p.proj.length c]] w fun e' w' => e' = .returned (.bool (zeroP p)) ∧ Below w.heap.size w w' := by
  obtain ⟨m, hm⟩ : ∃ m, p.proj.length = m := ⟨_, rfl⟩
  unfold zeroP
  rw [hm]
  obtain ⟨q, hq⟩ : ∃ q, (decide (p.loc = 0) && decide (m = 0)) = q := ⟨_, rfl⟩
  rw [hq]
  have HQ := Lib.hid hq
  clear hq hm
  go_enter Tryz.func124, Tryz.ntmps124
  go_wp2_with fail
  all_goals
    go_ret
    refine ⟨?_, by (repeat (first | exact Below.refl _ _ | assumption | refine Below.alloc ?_ (by first | omega | (simp; done) | (simp; omega)) _ | refine below_drewN ?_ _ | refine Below.drew ?_ | refine Below.setCell ?_ (by first | omega | (simp; done) | (simp; omega)) _))⟩
    rw [← HQ.out]
    first
      | (simp_all; done)
      | (simp_all; exact nat_beq0 m)
set_option maxRecDepth 100000 in
theorem failed_any (x : Bool) (w : World) : Calls Tryz.prog 129 #[.bool x] w fun e' w' => e' = .returned (.int .i64 (fail22 x)) ∧ w' = w := by
  cases x
  all_goals
    go_enter Tryz.func129, Tryz.ntmps129
    go_wp2_with fail
    go_ret
    exact ⟨rfl, rfl⟩
/-- A checker's cells. -/
def ckC (b : Bdy) (bh : BH) (r : Nat) : List Value := [.string b.name, .slice bh.A1 b.regions.length bh.c1, .slice bh.A2 b.outl.length bh.c2, .slice bh.A3 b.types.length bh.c3, .slice bh.A4 b.locals.length bh.c4, .int .i64 b.args, .slice bh.A5 b.blocks.length bh.c5, .pointer (some ⟨r, 0, none⟩)]
set_option maxRecDepth 100000 in
set_option maxHeartbeats 4000000 in
theorem ctypeOf_any (b : Bdy) (bh : BH) (r : Nat) (p : Plc) (A : Option Addr) (c : Nat) (w : World) (H : BdAt w b bh) (hp : Slc 2 RPj w A c p.proj) (hok : Okay b.types b.locals) :
    Calls Tryz.prog 132 #[.agg (ckC b bh r).toArray, .agg #[.int .i64 p.loc, .slice A p.proj.length c]] w fun e' w' => e' = .returned (.tuple #[.int .i64 (tyB b p).1, .int .i64 (tyB b p).2]) ∧ Below w.heap.size w w' := by
  have HT := Lib.hid (fun W (hb : Below w.heap.size w W) => typeOf_any b.types b.locals p.loc p.proj bh.A3 bh.A4 A bh.c3 bh.c4 c W (H.keep hb).typ (H.keep hb).loc (hp.keep RPj.keeps hb) hok)
  change Hid (∀ W, Below w.heap.size w W → Calls Tryz.prog 182 _ W fun e' w' => e' = .returned (.tuple #[.int .i64 (tyB b p).1, .int .i64 (tyB b p).2]) ∧ Below W.heap.size W w') at HT
  generalize tyB b p = q at HT ⊢
  clear H hp hok
  unfold ckC
  go_enter Tryz.func132, Tryz.ntmps132
  go_wp2_with (go_at_call 182; refine (HT.out _ (bel2 _ _ _)).mono ?_; rintro e' w1 ⟨rfl, hb1⟩)
  go_ret2
  exact ⟨rfl, (bel2 _ _ _).trans (hb1.mono (bel2 _ _ _).size)⟩
end Go.Proofs.YtbnljlpefpllcaaGreatDoor
namespace Go.Proofs.YtbnljlpefpllcaaGreatDoor
open Go Go.RowKit
/-- A value of an rvalue, of a terminator, of an operand. -/
def rvC (r : Rvl) (A : Option Addr) (c : Nat) (B : Option Addr) (d : Nat) : List Value := [.int .i64 r.kind, .int .i64 r.op, .int .i64 r.reg, .bool r.mu, .int .i64 r.place.loc, .slice A r.place.proj.length c, .slice B r.args.length d]
def tmC (t : Trm) (A : Option Addr) (c : Nat) (B : Option Addr) (d : Nat) (C : Option Addr) (e : Nat) : List Value := [.int .i64 t.kind, .slice A t.targets.length c, .slice B t.args.length d, .int .i64 t.place.loc, .slice C t.place.proj.length e, .string t.name]
def opC (o : Opd) (A : Option Addr) (c : Nat) : List Value := [.int .i64 o.kind, .int .i64 o.place.loc, .slice A o.place.proj.length c, .int .i64 o.n]
/-- A list of cells in a block of its own. -/
theorem cells_new (w : World) (l : List Value) (t : TypeId) : ∀ i v, l[i]? = some v → (w.alloc (.cells l.toArray t)).cell? ⟨w.heap.size, i, none⟩ = some v := fun i v hi => by
  rw [World.cell?_alloc_at _ _ _ _ (by simp)]
  simpa using hi
theorem cells_kept {W w1 : World} {n : Nat} {l : List Value} (h : ∀ i v, l[i]? = some v → W.cell? ⟨n, i, none⟩ = some v) (hb : Below W.heap.size W w1) : ∀ i v, l[i]? = some v → w1.cell? ⟨n, i, none⟩ = some v := fun i v hi => cell_keep hb (h i v hi)
theorem nat_beq (m k : Nat) : ((m : Int) == (k : Int)) = decide (m = k) := by
  rw [Bool.eq_iff_iff]
  simp
  omega
set_option maxRecDepth 100000 in
set_option maxHeartbeats 8000000 in
theorem unused_any (r : Rvl) (A B : Option Addr) (c d : Nat) (w : World) :
    Calls Tryz.prog 176 #[.agg (rvC r A c B d).toArray] w fun e' w' => e' = .returned (.bool (unusedR r)) ∧ Below w.heap.size w w' := by
  have HZ := Lib.hid (fun W => zero_any r.place A c W)
  obtain ⟨k, op, rg, mu, pl, args⟩ := r
  simp only at HZ
  unfold rvC
  simp only
  obtain ⟨m, hm⟩ : ∃ m, args.length = m := ⟨_, rfl⟩
  have HQ : Hid (unusedR ⟨k, op, rg, mu, pl, args⟩ = (let plain := decide (rg = 0) && !mu && zeroP pl; if k = 0 then plain && decide (op = 0) && decide (m = 1) else if k = 1 then decide (op = 0) && decide (m = 0) else if k = 2 then plain && decide (m = 1) else if k = 3 then plain && decide (m = 2) else plain && decide (op = 0))) := Lib.hid (by unfold unusedR; rw [← hm])
  rw [hm]
  generalize unusedR ⟨k, op, rg, mu, pl, args⟩ = q at HQ ⊢
  generalize zeroP pl = z at HZ HQ
  clear hm
  have n1 := Lib.hid (nat_beq m 1)
  have n0 := Lib.hid (nat_beq0 m)
  have n2 := Lib.hid (nat_beq m 2)
  rcases (show k = 0 ∨ k = 1 ∨ k = 2 ∨ k = 3 ∨ (k ≠ 0 ∧ k ≠ 1 ∧ k ≠ 2 ∧ k ≠ 3) by omega) with rfl | rfl | rfl | rfl | ⟨h0, h1, h2, h3⟩
  case inr.inr.inr.inr =>
    have e0 : (k == 0) = false := by simp [h0]
    have e1 : (k == 1) = false := by simp [h1]
    have e2 : (k == 2) = false := by simp [h2]
    have e3 : (k == 3) = false := by simp [h3]
    have HF : Hid (q = (decide (rg = 0) && !mu && z && decide (op = 0))) := Lib.hid (by rw [HQ.out]; simp only; rw [if_neg h0, if_neg h1, if_neg h2, if_neg h3])
    clear HQ h0 h1 h2 h3
    go_enter Tryz.func176, Tryz.ntmps176
    go_wp2_with (go_at_call 124; refine (HZ.out _).mono ?_; rintro e' w1 ⟨rfl, hb1⟩; have y := cells_kept (cells_new w _ _) hb1; have y0 := y 0 _ rfl; have y1 := y 1 _ rfl; have y2 := y 2 _ rfl; have y3 := y 3 _ rfl; have y4 := y 4 _ rfl; have y5 := y 5 _ rfl; have y6 := y 6 _ rfl; clear y)
    all_goals
      go_ret
      refine ⟨?_, by first | exact ((Below.refl _ _).alloc (Nat.le_refl _) _).trans (hb1.mono (by simp)) | (repeat (first | exact Below.refl _ _ | assumption | refine Below.alloc ?_ (by first | omega | (simp; done) | (simp; omega)) _ | refine below_drewN ?_ _ | refine Below.drew ?_ | refine Below.setCell ?_ (by first | omega | (simp; done) | (simp; omega)) _))⟩
      rw [HF.out]
      show Ending.returned (.bool _) = _
      clear HF HZ
      refine congrArg (fun b => Ending.returned (Value.bool b)) ?_
      try clear y0 y1 y2 y3 y4 y5 y6
      first | (clear e0 e1 e2 e3; have ho : (op == 0) = decide (op = 0) := by (rw [Bool.eq_iff_iff]; simp); rw [ho]; simp_all; done) | (clear e0 e1 e2 e3; grind)
  · have HF := Lib.hid HQ.out
    clear HQ
    go_enter Tryz.func176, Tryz.ntmps176
    go_wp2_with (go_at_call 124; refine (HZ.out _).mono ?_; rintro e' w1 ⟨rfl, hb1⟩; have y := cells_kept (cells_new w _ _) hb1; have y0 := y 0 _ rfl; have y1 := y 1 _ rfl; have y2 := y 2 _ rfl; have y3 := y 3 _ rfl; have y4 := y 4 _ rfl; have y5 := y 5 _ rfl; have y6 := y 6 _ rfl; clear y)
    all_goals
      go_ret
      refine ⟨?_, by first | exact ((Below.refl _ _).alloc (Nat.le_refl _) _).trans (hb1.mono (by simp)) | (repeat (first | exact Below.refl _ _ | assumption | refine Below.alloc ?_ (by first | omega | (simp; done) | (simp; omega)) _ | refine below_drewN ?_ _ | refine Below.drew ?_ | refine Below.setCell ?_ (by first | omega | (simp; done) | (simp; omega)) _))⟩
      have m1 := n1.out
      have m0 := n0.out
      have m2 := n2.out
      rw [HF.out]
      first | (simp_all; done) | (clear HZ; simp_all; done) | (cases mu <;> cases z <;> simp_all; done) | (clear HZ; grind)
  · have HF := Lib.hid HQ.out
    clear HQ
    go_enter Tryz.func176, Tryz.ntmps176
    go_wp2_with (go_at_call 124; refine (HZ.out _).mono ?_; rintro e' w1 ⟨rfl, hb1⟩; have y := cells_kept (cells_new w _ _) hb1; have y0 := y 0 _ rfl; have y1 := y 1 _ rfl; have y2 := y 2 _ rfl; have y3 := y 3 _ rfl; have y4 := y 4 _ rfl; have y5 := y 5 _ rfl; have y6 := y 6 _ rfl; clear y)
    all_goals
      go_ret
      refine ⟨?_, by first | exact ((Below.refl _ _).alloc (Nat.le_refl _) _).trans (hb1.mono (by simp)) | (repeat (first | exact Below.refl _ _ | assumption | refine Below.alloc ?_ (by first | omega | (simp; done) | (simp; omega)) _ | refine below_drewN ?_ _ | refine Below.drew ?_ | refine Below.setCell ?_ (by first | omega | (simp; done) | (simp; omega)) _))⟩
      have m1 := n1.out
      have m0 := n0.out
      have m2 := n2.out
      rw [HF.out]
      first | (simp_all; done) | (clear HZ; simp_all; done) | (cases mu <;> cases z <;> simp_all; done) | (clear HZ; grind)
  · have HF := Lib.hid HQ.out
    clear HQ
    go_enter Tryz.func176, Tryz.ntmps176
    go_wp2_with (go_at_call 124; refine (HZ.out _).mono ?_; rintro e' w1 ⟨rfl, hb1⟩; have y := cells_kept (cells_new w _ _) hb1; have y0 := y 0 _ rfl; have y1 := y 1 _ rfl; have y2 := y 2 _ rfl; have y3 := y 3 _ rfl; have y4 := y 4 _ rfl; have y5 := y 5 _ rfl; have y6 := y 6 _ rfl; clear y)
    all_goals
      go_ret
      refine ⟨?_, by first | exact ((Below.refl _ _).alloc (Nat.le_refl _) _).trans (hb1.mono (by simp)) | (repeat (first | exact Below.refl _ _ | assumption | refine Below.alloc ?_ (by first | omega | (simp; done) | (simp; omega)) _ | refine below_drewN ?_ _ | refine Below.drew ?_ | refine Below.setCell ?_ (by first | omega | (simp; done) | (simp; omega)) _))⟩
      have m1 := n1.out
      have m0 := n0.out
      have m2 := n2.out
      rw [HF.out]
      first | (simp_all; done) | (clear HZ; simp_all; done) | (cases mu <;> cases z <;> simp_all; done) | (clear HZ; grind)
  · have HF := Lib.hid HQ.out
    clear HQ
    go_enter Tryz.func176, Tryz.ntmps176
    go_wp2_with (go_at_call 124; refine (HZ.out _).mono ?_; rintro e' w1 ⟨rfl, hb1⟩; have y := cells_kept (cells_new w _ _) hb1; have y0 := y 0 _ rfl; have y1 := y 1 _ rfl; have y2 := y 2 _ rfl; have y3 := y 3 _ rfl; have y4 := y 4 _ rfl; have y5 := y 5 _ rfl; have y6 := y 6 _ rfl; clear y)
    all_goals
      go_ret
      refine ⟨?_, by first | exact ((Below.refl _ _).alloc (Nat.le_refl _) _).trans (hb1.mono (by simp)) | (repeat (first | exact Below.refl _ _ | assumption | refine Below.alloc ?_ (by first | omega | (simp; done) | (simp; omega)) _ | refine below_drewN ?_ _ | refine Below.drew ?_ | refine Below.setCell ?_ (by first | omega | (simp; done) | (simp; omega)) _))⟩
      have m1 := n1.out
      have m0 := n0.out
      have m2 := n2.out
      rw [HF.out]
      first | (simp_all; done) | (clear HZ; simp_all; done) | (cases mu <;> cases z <;> simp_all; done) | (clear HZ; grind)
end Go.Proofs.YtbnljlpefpllcaaGreatDoor
namespace Go.Proofs.YtbnljlpefpllcaaGreatDoor
open Go Go.RowKit Go.Maps
def CopE.F (E : CopE) : Value := .func (.func 215) #[] #[.pointer (some ⟨E.pl, 0, none⟩), .pointer (some ⟨E.ps, 0, none⟩), .pointer (some ⟨E.pc, 0, none⟩)]
/-- The search's contract below m. -/
def CopE.Rec (E : CopE) (ts : List Ty) (m : Nat) : Prop := ∀ i : Nat, i < m → i < ts.length → ∀ W sl, E.St ts.length W sl E.F →
  Calls Tryz.prog 215 #[.int .i64 i, .pointer (some ⟨E.pl, 0, none⟩), .pointer (some ⟨E.ps, 0, none⟩), .pointer (some ⟨E.pc, 0, none⟩)] W fun e' W' => ∃ q, e' = .returned (.bool q) ∧ E.Q ts E.F sl i q W'
set_option maxRecDepth 100000 in
set_option maxHeartbeats 4000000 in
theorem cop2_any (E : CopE) (ts : List Ty) (m : Nat) (HR : E.Rec ts m) (k : Nat) (hk : k < m) (hkl : k < ts.length) (W : World) (sl : List Int) (h : E.St ts.length W sl E.F) :
    Calls Tryz.prog 217 #[.int .i64 k, .pointer (some ⟨E.pc, 0, none⟩)] W fun e' W' => ∃ q, e' = .returned (.bool (!q)) ∧ E.Q ts E.F sl k q W' := by
  have x := h.c
  have HC := Lib.hid (HR k hk hkl W sl h)
  clear h HR
  generalize E.Q ts E.F sl k = Q at HC ⊢
  unfold CopE.F at x
  go_enter Tryz.func217, Tryz.ntmps217
  go_wp2_with (go_at_call 215; refine HC.out.mono ?_; rintro e' w1 ⟨q, rfl, hq⟩)
  go_ret
  exact ⟨q, rfl, hq⟩
/-- What the search through fields leaves. -/
def CopE.IQ (E : CopE) (ts : List Ty) (sl fl : List Int) (r : Int) (W' : World) : Prop :=
  (r = -1 ∧ ∃ sl', NewT ts sl sl' ∧ (∀ f ∈ fl, CovT ts sl' f) ∧ E.St ts.length W' sl' E.F) ∨ (0 ≤ r ∧ (∃ f ∈ fl, copB ts f = false) ∧ Below E.w0.heap.size E.w0 W')
set_option maxRecDepth 100000 in
set_option maxHeartbeats 4000000 in
theorem copI_any (E : CopE) (ts : List Ty) (m : Nat) (HR : E.Rec ts m) (fl : List Int) (hfl : ∀ f ∈ fl, 0 ≤ f ∧ f < (m : Int) ∧ f < (ts.length : Int)) (B : Option Addr) (d : Nat) (hs : Slc 1 RInt E.w0 B d fl) (W : World) (sl : List Int) (h : E.St ts.length W sl E.F) :
    Calls Tryz.prog 230 #[.slice B fl.length d, .func (.func 217) #[] #[.pointer (some ⟨E.pc, 0, none⟩)]] W fun e' W' => ∃ r : Int, e' = .returned (.int .i64 r) ∧ E.IQ ts sl fl r W' := by
  have hle := hs.le
  have hbig := hs.big
  have HS := Lib.hid hs
  have H0 := Lib.hid h
  have HC := Lib.hid (cop2_any E ts m HR)
  clear hs h HR
  go_enter Tryz.func230, Tryz.ntmps230
  go_wp2_with fail
  go_loopw [8] (fun v wr => ∃ (k : Nat) (sl' : List Int), k ≤ fl.length ∧ v = .int .i64 k ∧ Hid (E.St ts.length wr sl' E.F) ∧ Hid (NewT ts sl sl') ∧ Hid (∀ j (hj : j < fl.length), j < k → CovT ts sl' fl[j])) (fun v _ => fl.length - (intOf v).toNat)
  case atStart => exact ⟨0, sl, by omega, rfl, H0, Lib.hid (NewT.refl _ _), Lib.hid (fun j _ h => absurd h (by omega))⟩
  case round =>
    obtain ⟨k, sl', hk, rfl, HST, HN, HD⟩ := hrel
    by_cases hlt : k < fl.length
    · obtain ⟨bb, oo, rfl, hbb, hx⟩ := (HS.out.keep RInt.keeps HST.out.low).sl.at_ hlt
      have hy := hfl fl[k] (List.getElem_mem hlt)
      obtain ⟨y, hyy⟩ := Int.eq_ofNat_of_zero_le hy.1
      have HY := Lib.hid hyy
      have x0 : wr.cell? ⟨bb, oo + k, none⟩ = some (.int .i64 y) := by
        rw [← hyy]; simpa [RInt] using hx
      have HCK := Lib.hid (HC.out y (by omega) (by omega) wr sl' HST.out)
      have HMEM := Lib.hid (List.getElem_mem hlt)
      clear hx hy hyy HC
      go_wp2_with (go_at_call 217; refine HCK.out.mono ?_; rintro e' w1 ⟨q, rfl, hq⟩; have HQ := Lib.hid hq; clear hq)
      · have hqf : q = false := by cases q <;> simp_all
        go_ret
        refine ⟨_, rfl, Or.inr ⟨by omega, ⟨_, HMEM.out, ?_⟩, ?_⟩⟩
        · rcases HQ.out with ⟨h1, -⟩ | ⟨-, h2, -⟩
          · rw [hqf] at h1; cases h1
          · rw [HY.out]; exact h2
        · rcases HQ.out with ⟨h1, -⟩ | ⟨-, -, h3⟩
          · rw [hqf] at h1; cases h1
          · exact h3
      · have hqt : q = true := by cases q <;> simp_all
        rcases HQ.out with ⟨-, sl2, h1, h2, h3⟩ | ⟨h1, -⟩
        · go_roundw
          case rel =>
            refine ⟨k + 1, sl2, by omega, by go_num, Lib.hid h3, Lib.hid (HN.out.trans h1), Lib.hid (fun j hj hjk => ?_)⟩
            rcases Nat.lt_or_ge j k with hjl | hjl
            · exact (HD.out j hj hjl).mono h1.1
            · obtain rfl : j = k := by omega
              rw [HY.out]; exact h2
          case measure => simp [intOf]; omega
        · rw [hqt] at h1; cases h1
    · clear HC
      go_wp2_with fail
      go_ret
      exact ⟨-1, rfl, Or.inl ⟨rfl, sl', HN.out, fun f hf => by
        obtain ⟨j, hj, rfl⟩ := List.mem_iff_getElem.1 hf
        exact HD.out j hj (by omega), HST.out⟩⟩
set_option maxRecDepth 100000 in
set_option maxHeartbeats 4000000 in
theorem copC_any (E : CopE) (ts : List Ty) (m : Nat) (HR : E.Rec ts m) (fl : List Int) (hfl : ∀ f ∈ fl, 0 ≤ f ∧ f < (m : Int) ∧ f < (ts.length : Int)) (B : Option Addr) (d : Nat) (hs : Slc 1 RInt E.w0 B d fl) (W : World) (sl : List Int) (h : E.St ts.length W sl E.F) :
    Calls Tryz.prog 216 #[.slice B fl.length d, .func (.func 217) #[] #[.pointer (some ⟨E.pc, 0, none⟩)]] W fun e' W' => ∃ r : Int, e' = .returned (.bool (decide (0 ≤ r))) ∧ E.IQ ts sl fl r W' := by
  have HC := Lib.hid (copI_any E ts m HR fl hfl B d hs W sl h)
  clear hs h HR hfl
  generalize E.IQ ts sl fl = Q at HC ⊢
  go_enter Tryz.func216, Tryz.ntmps216
  go_wp2_with (go_at_call 230; refine HC.out.mono ?_; rintro e' w1 ⟨r, rfl, hq⟩)
  go_ret
  exact ⟨r, rfl, hq⟩
set_option maxRecDepth 100000 in
set_option maxHeartbeats 8000000 in
theorem cop1_any (E : CopE) (ts : List Ty) (HE : E.Ok ts) : ∀ m : Nat, E.Rec ts m
  | 0 => fun _ h => absurd h (by omega)
  | m + 1 => fun i him hi W sl h => by
    by_cases him2 : i < m
    · exact cop1_any E ts HE m i him2 hi W sl h
    obtain rfl : m = i := by omega
    have HC := Lib.hid (copC_any E ts m (cop1_any E ts HE m))
    have HOK := Lib.hid (HE.tyok m hi)
    have HCB := Lib.hid (copB_eq HE.tyok hi)
    have hn := HE.n
    have hlen := h.len
    have x1 := h.l
    have x2 := h.s
    have keyi := key3 (a := (m : Int)) (by omega) (by omega)
    have hown := h.own
    have HST := Lib.hid h
    have HEE := Lib.hid HE
    have hle := HE.ty.le
    have hbig := HE.ty.big
    obtain ⟨bb, oo, hA, hbb, hx⟩ := HE.ty.sl.at_ hi
    have HX := Lib.hid hx
    have HLOW := Lib.hid h.low
    obtain ⟨t, ht⟩ : ∃ t, ts[m] = t := ⟨_, rfl⟩
    rw [ht] at HX HOK HCB
    obtain ⟨r1, r2, r3, r4, A2, c2, r5, r6, r7, r8⟩ := HX.out
    have y1 := cell_keep HLOW.out r1
    have y2 := cell_keep HLOW.out r2
    have y5 := cell_keep HLOW.out r5
    have R5 := Lib.hid r5
    have HFL : Hid (Slc 1 RInt E.w0 A2 c2 t.flds) := Lib.hid ⟨r8, r6, r7⟩
    have hbl := Nat.lt_of_lt_of_le hbb h.low.size
    have HT := Lib.hid ht
    clear hx HX r8 r1 r2 r3 r4 r5 ht h HE him him2
    rw [hA] at x1
    by_cases h3 : t.kind = 3
    · have e3 : (t.kind == 3) = true := by simp [h3]
      have HF : Hid (∀ q : Bool, (!t.mu) = q → E.Q ts E.F sl (m : Int) q W) := Lib.hid (fun q hq => by
        cases hmu : t.mu
        · rw [hmu] at hq; subst hq
          exact Or.inl ⟨rfl, sl, NewT.refl _ _, ⟨by simpa using hi, by omega, Or.inl (by simp only [Int.toNat_natCast]; rw [HT.out]; exact ⟨h3, hmu⟩)⟩, HST.out⟩
        · rw [hmu] at hq; subst hq
          exact Or.inr ⟨rfl, by rw [HCB.out, if_pos h3, hmu]; rfl, HLOW.out⟩)
      clear hown HC HCB HOK
      go_enter Tryz.func215, Tryz.ntmps215
      go_wp2_with fail
      go_ret
      exact ⟨_, rfl, HF.out _ rfl⟩
    · have e3 : (t.kind == 3) = false := by simp [h3]
      by_cases hm : (m : Int) ∈ sl
      · have HFB : Hid (i64F (inF sl) (.int .i64 (m : Int)) = true) := Lib.hid (by simp [i64F, inF, hm])
        have HF : Hid (E.Q ts E.F sl (m : Int) true W) := Lib.hid (Or.inl ⟨rfl, sl, NewT.refl _ _, ⟨by simpa using hi, by omega, Or.inr (by simp only [Int.toNat_natCast]; rw [HT.out]; exact ⟨h3, hm⟩)⟩, HST.out⟩)
        clear HC HCB HOK hm
        go_enter Tryz.func215, Tryz.ntmps215
        go_wp2_with (at_lookup; refine wpList_lookB _ rfl _ _ 284 rfl 3 4 law3 Tryz.underlying284 Tryz.underlying4 (zeroB3 _) _ _ _ rfl hown _ _ rfl keyi ?_; rw [HFB.out])
        go_ret
        exact ⟨_, rfl, HF.out⟩
      · have HFB : Hid (i64F (inF sl) (.int .i64 (m : Int)) = false) := Lib.hid (by simp [i64F, inF, hm])
        have HM := Lib.hid hm
        have HH3 := Lib.hid h3
        clear hm h3
        go_enter Tryz.func215, Tryz.ntmps215
        go_wp2_with (first
          | (at_lookup; refine wpList_lookB _ rfl _ _ 284 rfl 3 4 law3 Tryz.underlying284 Tryz.underlying4 (zeroB3 _) _ _ _ rfl hown _ _ rfl keyi ?_; rw [HFB.out])
          | (at_mapUpdate; refine wpList_storeB _ rfl _ _ _ 284 rfl 3 4 law3 Tryz.underlying284 Tryz.underlying4 _ _ _ rfl hown (by unfold maxLen; omega) _ _ _ rfl rfl keyi trivial _ (inF_new sl (m : Int)) (inF_old sl (m : Int)) ?_; intro w3 hown3 hg3; have HS3 := Lib.hid (HST.out.put HEE.out HM.out ⟨by omega, by omega⟩ hown3 hg3); have z1 := HS3.out.l; have z5 := cell_keep HS3.out.low R5.out; rw [hA] at z1; clear hown3 hg3)
          | (go_at_call 216; refine (HC.out t.flds (fun f hf => by have := HOK.out.2 f hf; omega) A2 c2 HFL.out _ _ HS3.out).mono ?_; rintro e' w4 ⟨r, rfl, hq⟩; have HQ := Lib.hid hq; clear hq))
        go_ret
        refine ⟨_, rfl, ?_⟩
        rcases HQ.out with ⟨rfl, sl2, h1, h2, h4⟩ | ⟨h1, ⟨f, hf, hcf⟩, h4⟩
        · refine Or.inl ⟨rfl, sl2, h1.mark hi (by rw [HT.out]; exact h2), ⟨by simpa using hi, by omega, Or.inr ?_⟩, h4⟩
          simp only [Int.toNat_natCast]
          rw [HT.out]
          exact ⟨HH3.out, h1.1 _ (by simp)⟩
        · refine Or.inr ⟨by simp [h1], ?_, h4⟩
          rw [HCB.out, if_neg HH3.out, Bool.eq_false_iff, ne_eq, List.all_eq_true]
          intro h0
          have := h0 f hf
          rw [hcf] at this
          cases this
set_option maxRecDepth 100000 in
set_option maxHeartbeats 8000000 in
theorem cop_st (w : World) (n : Nat) (A : Option Addr) (c : Nat) (F : Value) (t1 t2 t3 : TypeId) :
    CopE.St ⟨w, A, c, w.heap.size, w.heap.size + 2, w.heap.size + 3, w.heap.size + 1⟩ n ((((w.alloc (.cells #[.slice A n c] t1)).alloc (.map #[] 0)).alloc (.cells #[.map (some (w.heap.size + 1))] t2)).alloc (.cells #[F] t3)) [] F := by
  refine ⟨by (repeat (first | exact Below.refl _ _ | assumption | refine Below.alloc ?_ (by first | omega | (simp; done) | (simp; omega)) _ | refine below_drewN ?_ _ | refine Below.drew ?_ | refine Below.setCell ?_ (by first | omega | (simp; done) | (simp; omega)) _)), ?_, ?_, ?_, ?_, by simp, by simp⟩
  · exact cell_keep ((((Below.refl _ _).alloc (Nat.le_refl _) _).alloc (by simp) _).alloc (by simp) _) (cells_new w [.slice A n c] t1 0 _ rfl)
  · have := cells_new ((w.alloc (.cells #[.slice A n c] t1)).alloc (.map #[] 0)) [.map (some (w.heap.size + 1))] t2 0 _ rfl
    simp only [World.size_alloc] at this
    exact cell_keep ((Below.refl _ _).alloc (Nat.le_refl _) _) this
  · have := cells_new (((w.alloc (.cells #[.slice A n c] t1)).alloc (.map #[] 0)).alloc (.cells #[.map (some (w.heap.size + 1))] t2)) [F] t3 0 _ rfl
    simp only [World.size_alloc] at this
    exact this
  · have := OwnB.made (w.alloc (.cells #[.slice A n c] t1)) Tryz.prog 3 4
    rw [← inF_nil, World.size_alloc] at this
    exact (this.alloc _).alloc _
set_option maxRecDepth 100000 in
set_option maxHeartbeats 8000000 in
theorem cop_any (ts : List Ty) (hok : TyOk ts) (hn : ts.length ≤ 65535) (i : Int) (A : Option Addr) (c : Nat) (w : World) (hs : Slc 5 RTy w A c ts) :
    Calls Tryz.prog 180 #[.slice A ts.length c, .int .i64 i] w fun e' w' => e' = .returned (.bool (copB ts i)) ∧ Below w.heap.size w w' := by
  have hle := hs.le
  have hbig := hs.big
  by_cases hr : 0 ≤ i ∧ i < (ts.length : Int)
  case neg =>
    rw [copB_out (by omega)]
    clear hs
    go_enter Tryz.func180, Tryz.ntmps180
    go_wp2_with fail
    all_goals first
      | (exfalso; omega)
      | (go_ret; exact ⟨rfl, by (repeat (first | exact Below.refl _ _ | assumption | refine Below.alloc ?_ (by first | omega | (simp; done) | (simp; omega)) _ | refine below_drewN ?_ _ | refine Below.drew ?_ | refine Below.setCell ?_ (by first | omega | (simp; done) | (simp; omega)) _))⟩)
  case pos =>
  obtain ⟨k, rfl⟩ := Int.eq_ofNat_of_zero_le hr.1
  have hlt : k < ts.length := by omega
  have HE : CopE.Ok ⟨w, A, c, w.heap.size, w.heap.size + 2, w.heap.size + 3, w.heap.size + 1⟩ ts := ⟨hs, hok, hn, Nat.le_succ _, by simp, by simp, by simp⟩
  have HC := Lib.hid (fun W h => cop1_any _ ts HE (k + 1) k (by omega) hlt W [] h)
  have HCB : Hid ((∀ sl, NewT ts [] sl → ∀ i : Int, CovT ts sl k → copB ts k = true) ∧ (copB ts k = false → copB ts k = false)) := Lib.hid ⟨fun sl h i hc => new_copB hok (sl := sl) h hc, id⟩
  have hmm := @run_makeMap Tryz.prog
  have hst : ∀ (a : Addr) (fn : Fn) (f c : Array Value) (W : World), (store a (.func fn f c)).run Tryz.prog W = stored Tryz.prog W a (.func fn f c) .plain := fun a fn f c W => run_store Tryz.prog W a (.func fn f c) _ rfl
  clear hs HE
  go_enter Tryz.func180, Tryz.ntmps180
  go_wp2_with (go_at_call 215; refine (HC.out _ (cop_st w ts.length A c _ _ _ _)).mono ?_; rintro e' w1 ⟨q, rfl, hq⟩; have HQ := Lib.hid hq; clear hq)
  all_goals first
    | (exfalso; omega)
    | (go_ret
       rcases HQ.out with ⟨rfl, sl, h1, h2, h3⟩ | ⟨rfl, h1, h2⟩
       · exact ⟨by rw [HCB.out.1 sl h1 0 h2]; rfl, h3.low⟩
       · exact ⟨by rw [HCB.out.2 h1]; rfl, h2⟩)
end Go.Proofs.YtbnljlpefpllcaaGreatDoor
namespace Go.Proofs.YtbnljlpefpllcaaGreatDoor
open Go Go.RowKit Go.Maps Go.WideMaps
theorem arrP : ArrKey Tryz.prog 79 3 2 := ⟨Tryz.underlying79, by kernel_rfl, by kernel_rfl, by kernel_rfl⟩
theorem progN : ∃ m, Tryz.prog.types.size = m + 1 := ⟨Tryz.prog.types.size - 1, by kernel_rfl⟩
/-- Where the search's variables lie. -/
structure SubE where
  w0 : World
  A : Option Addr
  c : Nat
  pk : Nat
  pl : Nat
  pr : Nat
  pf : Nat
  M : Nat
  r : Nat
def SubE.F (E : SubE) : Value := .func (.func 231) #[] #[.pointer (some ⟨E.pk, 0, none⟩), .pointer (some ⟨E.pl, 0, none⟩), .pointer (some ⟨E.pr, 0, none⟩), .pointer (some ⟨E.pf, 0, none⟩)]
structure SubE.Ok (E : SubE) (b : Bdy) : Prop where
  ty : Slc 5 RTy E.w0 E.A E.c b.types
  ok : DeclOk b
  rel : Rel3 E.w0 E.r b.regions.length (relL b.outl)
  M : E.w0.heap.size ≤ E.M
  k : E.M ≠ E.pk
  l : E.M ≠ E.pl
  r : E.M ≠ E.pr
  f : E.M ≠ E.pf
structure SubE.St (E : SubE) (b : Bdy) (W : World) (ks : List (Int × Int)) : Prop where
  low : Below E.w0.heap.size E.w0 W
  k : W.cell? ⟨E.pk, 0, none⟩ = some (.map (some E.M))
  l : W.cell? ⟨E.pl, 0, none⟩ = some (.slice E.A b.types.length E.c)
  r : W.cell? ⟨E.pr, 0, none⟩ = some (.pointer (some ⟨E.r, 0, none⟩))
  f : W.cell? ⟨E.pf, 0, none⟩ = some E.F
  memo : Memo Tryz.prog 79 W E.M (subB b) ks
  nd : ks.Nodup
  rng : ∀ p ∈ ks, 0 ≤ p.1 ∧ p.1 < (b.types.length : Int) ∧ 0 ≤ p.2 ∧ p.2 < (b.types.length : Int)
theorem SubE.St.len {E : SubE} {b : Bdy} {W : World} {ks : List (Int × Int)} (h : E.St b W ks) : ks.length ≤ b.types.length * b.types.length := pairs_len _ nodup_len ks h.nd h.rng
theorem SubE.St.lt {E : SubE} {b : Bdy} {W : World} {ks : List (Int × Int)} (h : E.St b W ks) (hE : E.Ok b) : ks.length < maxLen := by
  have h1 := h.len
  have h2 := hE.ok.ntyp
  have h3 : b.types.length * b.types.length ≤ 65535 * 65535 := Nat.mul_le_mul h2 h2
  unfold maxLen
  omega
theorem SubE.St.keep {E : SubE} {b : Bdy} {W W' : World} {ks : List (Int × Int)} (h : E.St b W ks) (hb : Below W.heap.size W W') : E.St b W' ks :=
  ⟨h.low.trans (hb.mono h.low.size), cell_keep hb h.k, cell_keep hb h.l, cell_keep hb h.r, cell_keep hb h.f, h.memo.below hb, h.nd, h.rng⟩
theorem SubE.St.put {E : SubE} {b : Bdy} {W W' : World} {ks : List (Int × Int)} (h : E.St b W ks) (hE : E.Ok b) {s t : Int} (hi : (s, t) ∉ ks) (hr : 0 ≤ s ∧ s < (b.types.length : Int) ∧ 0 ≤ t ∧ t < (b.types.length : Int))
    (hm : Memo Tryz.prog 79 W' E.M (subB b) ((s, t) :: ks)) (hg : W.grownBy W' (some E.M)) : E.St b W' ((s, t) :: ks) := by
  have hc : ∀ (p : Nat) (v : Value), E.M ≠ p → W.cell? ⟨p, 0, none⟩ = some v → W'.cell? ⟨p, 0, none⟩ = some v := fun p v hne hv => grown_cell hg hv (by simpa using (Ne.symm hne))
  refine ⟨h.low.trans (below_grown hg hE.M h.low.size), hc _ _ hE.k h.k, hc _ _ hE.l h.l, hc _ _ hE.r h.r, hc _ _ hE.f h.f, hm, List.nodup_cons.2 ⟨hi, h.nd⟩, fun x hx => ?_⟩
  rcases List.mem_cons.1 hx with rfl | hx
  · exact hr
  · exact h.rng x hx
/-- What one call of the search leaves. -/
def SubE.Q (E : SubE) (b : Bdy) (W : World) (ks : List (Int × Int)) (s t : Int) (W' : World) : Prop :=
  ∃ ks', E.St b W' ks' ∧ (∀ p ∈ ks', p ∈ ks ∨ p.1 + p.2 ≤ s + t) ∧ W.grownBy W' (some E.M)
/-- In the midst of a call at s, t. -/
def SubE.Ph (E : SubE) (b : Bdy) (W : World) (ks : List (Int × Int)) (n : Int) (W' : World) : Prop :=
  ∃ ks', E.St b W' ks' ∧ (∀ p ∈ ks', p ∈ ks ∨ p.1 + p.2 < n) ∧ W.grownBy W' (some E.M)
theorem SubE.Ph.start {E : SubE} {b : Bdy} {W W1 : World} {ks : List (Int × Int)} (h : E.St b W ks) (hb : Below W.heap.size W W1) (n : Int) : E.Ph b W1 ks n W1 :=
  ⟨ks, h.keep hb, fun p hp => Or.inl hp, grown_of_below (Below.refl _ _) _⟩
theorem SubE.Ph.keep {E : SubE} {b : Bdy} {W W1 W2 : World} {ks : List (Int × Int)} {n : Int} (h : E.Ph b W ks n W1) (hb : Below W1.heap.size W1 W2) : E.Ph b W ks n W2 := by
  obtain ⟨k1, h1, h2, h3⟩ := h
  exact ⟨k1, h1.keep hb, h2, h3.trans (grown_of_below hb _)⟩
theorem SubE.Ph.call {E : SubE} {b : Bdy} {W W1 W2 : World} {ks ks1 : List (Int × Int)} {n s t : Int} (h1 : E.St b W1 ks1) (h2 : ∀ p ∈ ks1, p ∈ ks ∨ p.1 + p.2 < n) (h3 : W.grownBy W1 (some E.M)) (hq : E.Q b W1 ks1 s t W2) (hlt : s + t < n) : E.Ph b W ks n W2 := by
  obtain ⟨k2, q1, q2, q3⟩ := hq
  refine ⟨k2, q1, fun p hp => ?_, h3.trans q3⟩
  rcases q2 p hp with h | h
  · exact h2 p h
  · exact Or.inr (by omega)
theorem SubE.fin {E : SubE} {b : Bdy} {W W1 wz w9 : World} {ks kz : List (Int × Int)} {s t : Int} (hE : E.Ok b) (hM : (s, t) ∉ ks) (hr : 0 ≤ s ∧ s < (b.types.length : Int) ∧ 0 ≤ t ∧ t < (b.types.length : Int)) (hB1 : Below W.heap.size W W1)
    (hstz : E.St b wz kz) (hnz : ∀ p ∈ kz, p ∈ ks ∨ p.1 + p.2 < s + t) (hgz : W1.grownBy wz (some E.M)) (hm9 : Memo Tryz.prog 79 w9 E.M (subB b) ((s, t) :: kz)) (hg9 : wz.grownBy w9 (some E.M)) : E.Q b W ks s t w9 := by
  refine ⟨(s, t) :: kz, hstz.put hE (fun h => ?_) hr hm9 hg9, fun p hp => ?_, ((grown_of_below hB1 _).trans hgz).trans hg9⟩
  · rcases hnz _ h with h | h
    · exact hM h
    · exact absurd h (by simp)
  · rcases List.mem_cons.1 hp with rfl | hp
    · exact Or.inr (Int.le_refl _)
    · rcases hnz p hp with h | h
      · exact Or.inl h
      · exact Or.inr (by omega)
/-- The search's contract for pairs whose sum is below m. -/
def SubE.Rec (E : SubE) (b : Bdy) (m : Nat) : Prop := ∀ s t : Nat, s + t < m → s < b.types.length → t < b.types.length → ∀ W ks, E.St b W ks →
  Calls Tryz.prog 231 #[.int .i64 s, .int .i64 t, .pointer (some ⟨E.pk, 0, none⟩), .pointer (some ⟨E.pl, 0, none⟩), .pointer (some ⟨E.pr, 0, none⟩), .pointer (some ⟨E.pf, 0, none⟩)] W fun e' W' => e' = .returned (.bool (subB b s t)) ∧ E.Q b W ks s t W'
end Go.Proofs.YtbnljlpefpllcaaGreatDoor
namespace Go.Proofs.YtbnljlpefpllcaaGreatDoor
open Go Go.RowKit Go.Maps Go.WideMaps
def ty0 : Obj := .cells #[.int .i64 0, .bool false, .int .i64 0, .int .i64 0, .slice none 0 0] 83
def tyL (t : Ty) (A : Option Addr) (c : Nat) : List Value := [.int .i64 t.kind, .bool t.mu, .int .i64 t.reg, .int .i64 t.elem, .slice A t.flds.length c]
/-- Two new blocks, then both filled. -/
theorem pair_new (W : World) (ga gb : Nat) (a b : Ty) (A B : Option Addr) (c d : Nat) (h : (ga = W.heap.size ∧ gb = W.heap.size + 1) ∨ (ga = W.heap.size + 1 ∧ gb = W.heap.size)) :
    Below W.heap.size W ((((W.alloc ty0).alloc ty0).setCells ga 0 (tyL a A c)).setCells gb 0 (tyL b B d)) ∧ (∀ i v, (tyL a A c)[i]? = some v → ((((W.alloc ty0).alloc ty0).setCells ga 0 (tyL a A c)).setCells gb 0 (tyL b B d)).cell? ⟨ga, i, none⟩ = some v) ∧ (∀ i v, (tyL b B d)[i]? = some v → ((((W.alloc ty0).alloc ty0).setCells ga 0 (tyL a A c)).setCells gb 0 (tyL b B d)).cell? ⟨gb, i, none⟩ = some v) := by
  have t0 : (W.alloc ty0).there W.heap.size 0 5 := there_new W _ _ _ 5 rfl (by simp)
  have t1 : ((W.alloc ty0).alloc ty0).there W.heap.size 0 5 := World.there_alloc t0 _
  have t2 : ((W.alloc ty0).alloc ty0).there (W.heap.size + 1) 0 5 := there_new _ _ _ _ 5 (by simp) (by simp)
  have ta : ((W.alloc ty0).alloc ty0).there ga 0 (tyL a A c).length := by rcases h with ⟨h, -⟩ | ⟨h, -⟩ <;> rw [h] <;> assumption
  have tb : ((W.alloc ty0).alloc ty0).there gb 0 (tyL b B d).length := by rcases h with ⟨-, h⟩ | ⟨-, h⟩ <;> rw [h] <;> assumption
  refine ⟨below_setCells (by omega) _ _ _ (below_setCells (by omega) _ _ _ (by (repeat (first | exact Below.refl _ _ | assumption | refine Below.alloc ?_ (by first | omega | (simp; done) | (simp; omega)) _ | refine below_drewN ?_ _ | refine Below.drew ?_ | refine Below.setCell ?_ (by first | omega | (simp; done) | (simp; omega)) _)))), fun i v hi => ?_, fun i v hi => ?_⟩
  · have := World.rangeAt_setCells_apart (World.rangeAt_setCells_same _ _ _ _ ta) gb 0 (tyL b B d) (Or.inl (by omega)) i v hi
    simpa using this
  · have := World.rangeAt_setCells_same _ _ _ _ (World.there_setCells tb ga 0 (tyL a A c)) i v hi
    simpa using this
end Go.Proofs.YtbnljlpefpllcaaGreatDoor
namespace Go.Proofs.YtbnljlpefpllcaaGreatDoor
open Go Go.RowKit Go.Maps Go.WideMaps
set_option maxRecDepth 100000 in
set_option maxHeartbeats 8000000 in
theorem sub_ref (E : SubE) (b : Bdy) (HE : E.Ok b) (m : Nat) (HREC0 : E.Rec b m) (s t : Nat) (hm : s + t < m + 1) (hs : s < b.types.length) (ht : t < b.types.length) (W : World) (ks : List (Int × Int)) (h : E.St b W ks) (hmem : ((s : Int), (t : Int)) ∉ ks) (hcase : ((b.types[s].kind == b.types[t].kind) && (b.types[s].mu == b.types[t].mu) && ((b.types[s].flds.length : Int) == (b.types[t].flds.length : Int)) && (b.types[s].kind == 3)) = true) :
    Calls Tryz.prog 231 #[.int .i64 s, .int .i64 t, .pointer (some ⟨E.pk, 0, none⟩), .pointer (some ⟨E.pl, 0, none⟩), .pointer (some ⟨E.pr, 0, none⟩), .pointer (some ⟨E.pf, 0, none⟩)] W fun e' W' => e' = .returned (.bool (subB b s t)) ∧ E.Q b W ks s t W' := by
    have HREC := Lib.hid HREC0
    have HSB := Lib.hid (subB_eq HE.ok.tyok hs ht)
    have HOKS := Lib.hid (HE.ok.tyok s hs)
    have HOKT := Lib.hid (HE.ok.tyok t ht)
    have hn := HE.ok.ntyp
    have hlen := h.lt HE
    have wfs : (Lit.int .i64 (s : Int)).wf = true := WalkArith.wf_i64 (by omega)
    have wft : (Lit.int .i64 (t : Int)).wf = true := WalkArith.wf_i64 (by omega)
    have x1 := h.k
    have x2 := h.l
    have x3 := h.r
    have x4 := h.f
    have hmemo := h.memo
    have HST := Lib.hid h
    have HEE := Lib.hid HE
    have hle := HE.ty.le
    have hbig := HE.ty.big
    have HMD : Hid (decide (((s : Int), (t : Int)) ∈ ks) = false) := Lib.hid (by simp [hmem])
    have HM := Lib.hid hmem
    obtain ⟨bb, oo, hA, hbb, hxs⟩ := HE.ty.sl.at_ hs
    obtain ⟨b2, o2, hA2, hbb2, hxt⟩ := HE.ty.sl.at_ ht
    have hAA : some (⟨bb, oo, none⟩ : Addr) = some ⟨b2, o2, none⟩ := hA.symm.trans hA2
    simp only [Option.some.injEq, Addr.mk.injEq, and_true] at hAA
    obtain ⟨rfl, rfl⟩ := hAA
    clear hA2 hbb2
    obtain ⟨ta, hta⟩ : ∃ x, b.types[s] = x := ⟨_, rfl⟩
    obtain ⟨tb, htb⟩ : ∃ x, b.types[t] = x := ⟨_, rfl⟩
    rw [hta] at hxs HSB HOKS hcase
    rw [htb] at hxt HSB HOKT hcase
    obtain ⟨r0, r1, r2, r3, A2, c2, r4, r6, r7, r8⟩ := hxs
    obtain ⟨q0, q1, q2, q3, B2, d2, q4, q6, q7, q8⟩ := hxt
    have HFA : Hid (Slc 1 RInt E.w0 A2 c2 ta.flds) := Lib.hid ⟨r8, r6, r7⟩
    have HFB : Hid (Slc 1 RInt E.w0 B2 d2 tb.flds) := Lib.hid ⟨q8, q6, q7⟩
    have hb0 := h.low
    replace r0 := cell_keep hb0 r0
    replace r1 := cell_keep hb0 r1
    replace r2 := cell_keep hb0 r2
    replace r3 := cell_keep hb0 r3
    replace r4 := cell_keep hb0 r4
    replace q0 := cell_keep hb0 q0
    replace q1 := cell_keep hb0 q1
    replace q2 := cell_keep hb0 q2
    replace q3 := cell_keep hb0 q3
    replace q4 := cell_keep hb0 q4
    rw [hA] at x2
    clear r8 q8 hta htb hb0 h HE hmem
    go_enter Tryz.func231, Tryz.ntmps231; go_wp2_with (at_lookup; refine wpList_lookM _ rfl _ _ 299 rfl 79 3 4 arrP Tryz.underlying3 progN Tryz.underlying299 (zeroB3 _) _ _ _ rfl hmemo _ _ rfl wfs wft ?_; rw [if_neg HM.out, HMD.out])
    have hS : Below W.heap.size W W.drew := (Below.refl _ _).drew
    refine wp_region_o (S := fun X => Below W.heap.size W X) [0, 1, 2, 3, 4, 5, 6, 7, 8, 9, 10, 11] (by kernel_rfl) ?_
    (iterate 8 (refine wpO_take (v := ?_) (by kernel_rfl) (fun _ _ _ h => h) (Or.inl ⟨by rfl, ?_⟩) hS ?_; rotate_left; (next => (rintro X hX; have s0 := cell_keep hX x2; have u0 := cell_keep hX r0; have u1 := cell_keep hX r1; have u2 := cell_keep hX r2; have u3 := cell_keep hX r3; have u4 := cell_keep hX r4; have v0 := cell_keep hX q0; have v1 := cell_keep hX q1; have v2 := cell_keep hX q2; have v3 := cell_keep hX q3; have v4 := cell_keep hX q4; (try simp only [List.getD_cons_zero, List.getD_cons_succ, List.getElem?_toArray, List.getElem?_cons_zero, List.getElem?_cons_succ, Option.getD_some]); go_simp; rfl)); simp only [List.getD_cons_zero, List.getD_cons_succ, List.getElem?_toArray, List.getElem?_cons_zero, List.getElem?_cons_succ, Option.getD_some, Act.put, List.setIfInBounds_toArray, List.set_cons_zero, List.set_cons_succ]))
    have hS1 : Below W.heap.size W (W.drew.alloc ty0) := by (repeat (first | exact Below.refl _ _ | assumption | refine Below.alloc ?_ (by first | omega | (simp; done) | (simp; omega)) _ | refine below_drewN ?_ _ | refine Below.drew ?_ | refine Below.setCell ?_ (by first | omega | (simp; done) | (simp; omega)) _))
    have hS2 : Below W.heap.size W ((W.drew.alloc ty0).alloc ty0) := by (repeat (first | exact Below.refl _ _ | assumption | refine Below.alloc ?_ (by first | omega | (simp; done) | (simp; omega)) _ | refine below_drewN ?_ _ | refine Below.drew ?_ | refine Below.setCell ?_ (by first | omega | (simp; done) | (simp; omega)) _))
    refine wpO_allocs [0, 1, 2, 3, 4, 5, 6, 7, 9, 8, 10, 11] ty0 (by kernel_rfl) ?_ ?_ ?_ hS1 hS2 ?_
    · intro a1 w1 K hK
      (simp only [List.getD_cons_zero, List.getD_cons_succ, List.getElem?_toArray, List.getElem?_cons_zero, List.getElem?_cons_succ, Option.getD_some, Act.put, List.setIfInBounds_toArray, List.set_cons_zero, List.set_cons_succ])
      rw [if_pos (by rfl)]
      go_simp
      exact hK
    · intro a1 w1 K hK
      (simp only [List.getD_cons_zero, List.getD_cons_succ, List.getElem?_toArray, List.getElem?_cons_zero, List.getElem?_cons_succ, Option.getD_some, Act.put, List.setIfInBounds_toArray, List.set_cons_zero, List.set_cons_succ])
      rw [if_pos (by rfl)]
      go_simp
      exact hK
    · exact fun _ _ => rfl
    intro ga gb hg
    obtain ⟨hB1, ya, yb⟩ := pair_new W.drew ga gb ta tb A2 B2 c2 d2 hg
    have hS3 : Below W.heap.size W (((W.drew.alloc ty0).alloc ty0).setCells ga 0 (tyL ta A2 c2)) := below_setCells (by rcases hg with h | h <;> (rw [h.1]; simp)) _ _ _ hS2
    have tha : ((W.drew.alloc ty0).alloc ty0).there ga 0 (tyL ta A2 c2).toArray.size := by
      rcases hg with ⟨h, -⟩ | ⟨h, -⟩ <;> rw [h]
      · exact World.there_alloc (there_new _ _ _ _ 5 rfl (by simp)) _
      · exact there_new _ _ _ _ 5 (by simp) (by simp)
    have thb : ((W.drew.alloc ty0).alloc ty0).there gb 0 (tyL tb B2 d2).toArray.size := by
      rcases hg with ⟨-, h⟩ | ⟨-, h⟩ <;> rw [h]
      · exact there_new _ _ _ _ 5 (by simp) (by simp)
      · exact World.there_alloc (there_new _ _ _ _ 5 rfl (by simp)) _
    have hS4 : Below W.heap.size W ((((W.drew.alloc ty0).alloc ty0).setCells ga 0 (tyL ta A2 c2)).setCells gb 0 (tyL tb B2 d2)) := hS.trans (hB1.mono (Nat.le_refl _))
    have hne : ga ≠ gb ∧ W.heap.size ≤ ga ∧ W.heap.size ≤ gb := by rcases hg with ⟨rfl, rfl⟩ | ⟨rfl, rfl⟩ <;> simp
    have hML := HST.out.memo.lt
    have hM : E.M ≠ ga ∧ E.M ≠ gb := by omega
    clear hg
    have thc := World.there_setCells thb ga 0 (tyL ta A2 c2)
    generalize (W.drew.alloc ty0).alloc ty0 = W8 at *
    have E9 : ∃ W9, W8.setCells ga 0 (tyL ta A2 c2) = W9 := ⟨_, rfl⟩
    obtain ⟨W9, e9⟩ := E9
    obtain ⟨W1, e1⟩ : ∃ W1, W9.setCells gb 0 (tyL tb B2 d2) = W1 := ⟨_, rfl⟩
    rw [e9] at hB1 ya yb hS3 hS4 thc
    rw [e1] at hB1 ya yb hS4
    (refine wpO_one (by kernel_rfl) (fun K1 hK1 => ?_); simp only [List.getD_cons_zero, List.getD_cons_succ, List.getElem?_toArray, List.getElem?_cons_zero, List.getElem?_cons_succ, Option.getD_some, Act.put, List.setIfInBounds_toArray, List.set_cons_zero, List.set_cons_succ]; rw [if_pos (by rfl)])
    refine wp_store_mid 83 (.tmp 11) (.tmp 27) rfl ga 0 (tyL ta A2 c2).toArray rfl rfl tha (by kernel_rfl) (by simp [tyL, Value.oneCell']) ?_
    rw [List.toList_toArray, e9]
    refine hK1.out _ _ (fun _ => hS3) ?_
    clear hK1
    (refine wpO_one (by kernel_rfl) (fun K1 hK1 => ?_); simp only [List.getD_cons_zero, List.getD_cons_succ, List.getElem?_toArray, List.getElem?_cons_zero, List.getElem?_cons_succ, Option.getD_some, Act.put, List.setIfInBounds_toArray, List.set_cons_zero, List.set_cons_succ]; rw [if_pos (by rfl)])
    refine wp_store_mid 83 (.tmp 12) (.tmp 31) rfl gb 0 (tyL tb B2 d2).toArray rfl rfl thc (by kernel_rfl) (by simp [tyL, Value.oneCell']) ?_
    rw [List.toList_toArray, e1]
    refine hK1.out _ _ (fun _ => hS4) ?_
    clear hK1
    refine wpO_done (by kernel_rfl) ?_
    (simp only [List.getD_cons_zero, List.getD_cons_succ, List.getElem?_toArray, List.getElem?_cons_zero, List.getElem?_cons_succ, Option.getD_some, Act.put, List.setIfInBounds_toArray, List.set_cons_zero, List.set_cons_succ])
    have ya0 := ya 0 _ rfl
    have ya1 := ya 1 _ rfl
    have ya2 := ya 2 _ rfl
    have ya3 := ya 3 _ rfl
    have ya4 := ya 4 _ rfl
    have yb0 := yb 0 _ rfl
    have yb1 := yb 1 _ rfl
    have yb2 := yb 2 _ rfl
    have yb3 := yb 3 _ rfl
    have yb4 := yb 4 _ rfl
    have hst1 := HST.out.keep hS4
    have HPH := Lib.hid (SubE.Ph.start HST.out hS4 ((s : Int) + t))
    have HB1 := Lib.hid hS4
    have HM1 := Lib.hid hM
    have HC : Hid (∀ X, E.Ph b W1 ks ((s : Int) + t) X → (∀ i v, (tyL ta A2 c2)[i]? = some v → X.cell? ⟨ga, i, none⟩ = some v) ∧ (∀ i v, (tyL tb B2 d2)[i]? = some v → X.cell? ⟨gb, i, none⟩ = some v) ∧ X.cell? ⟨E.pf, 0, none⟩ = some E.F ∧ X.cell? ⟨E.pr, 0, none⟩ = some (.pointer (some ⟨E.r, 0, none⟩)) ∧ X.cell? ⟨E.pk, 0, none⟩ = some (.map (some E.M)) ∧ Below E.w0.heap.size E.w0 X) := Lib.hid (fun X ⟨kx, h1, h2, h3⟩ =>
      ⟨fun i v hi => grown_cell h3 (ya i v hi) (by simpa using Ne.symm HM1.out.1), fun i v hi => grown_cell h3 (yb i v hi) (by simpa using Ne.symm HM1.out.2), h1.f, h1.r, h1.k, h1.low⟩)
    have hbp := HST.out.memo.lt
    clear hS hS1 hS2 hS3 hS4 hB1 ya yb tha thb thc e9 e1 x1 x2 x3 x4 hmemo r0 r1 r2 r3 r4 q0 q1 q2 q3 q4 hM hML
    have HCALL : Hid (∀ x y : Int, 0 ≤ x → 0 ≤ y → x + y < (s : Int) + t → x < (b.types.length : Int) → y < (b.types.length : Int) → ∀ X, E.Ph b W1 ks ((s : Int) + t) X →
        Calls Tryz.prog 231 #[.int .i64 x, .int .i64 y, .pointer (some ⟨E.pk, 0, none⟩), .pointer (some ⟨E.pl, 0, none⟩), .pointer (some ⟨E.pr, 0, none⟩), .pointer (some ⟨E.pf, 0, none⟩)] X fun e' X' => e' = .returned (.bool (subB b x y)) ∧ E.Ph b W1 ks ((s : Int) + t) X') := Lib.hid (fun x y hx hy hxy hxl hyl X ⟨kx, h1, h2, h3⟩ => by
      obtain ⟨x, rfl⟩ := Int.eq_ofNat_of_zero_le hx
      obtain ⟨y, rfl⟩ := Int.eq_ofNat_of_zero_le hy
      refine (HREC.out x y (by omega) (by omega) (by omega) X kx h1).mono ?_
      rintro e' X' ⟨rfl, hq⟩
      exact ⟨rfl, SubE.Ph.call h1 h2 h3 hq hxy⟩)
    clear HREC hn
    obtain ⟨p1, hp1⟩ : ∃ q, (ta.kind == tb.kind) = q := ⟨_, rfl⟩
    obtain ⟨p2, hp2⟩ : ∃ q, (ta.mu == tb.mu) = q := ⟨_, rfl⟩
    obtain ⟨p3, hp3⟩ : ∃ q, ((ta.flds.length : Int) == (tb.flds.length : Int)) = q := ⟨_, rfl⟩
    obtain ⟨p4, hp4⟩ : ∃ q, (ta.kind == 3) = q := ⟨_, rfl⟩
    rw [hp1, hp2, hp3, hp4] at hcase
    have HCASE := Lib.hid hcase
    clear hcase
    have HP1 := Lib.hid hp1
    have HP2 := Lib.hid hp2
    have HP3 := Lib.hid hp3
    have HP4 := Lib.hid hp4
    -- what is there behind the first tests
    have HLAW : Hid (∀ q : Bool, (p1 = true → p2 = true → p3 = true → p4 = true → q = (outB b.outl b.regions.length ta.reg tb.reg && subB b ta.elem tb.elem && (!ta.mu || subB b tb.elem ta.elem))) → (¬ (p1 = true ∧ p2 = true ∧ p3 = true ∧ p4 = true) → q = (p1 && p2 && p3)) →
        subB b s t = (q && (((ta.flds.drop 0).zip (tb.flds.drop 0)).all (fun p => subB b p.1 p.2))) ∧ (q = true → ta.flds.length = tb.flds.length)) := Lib.hid (fun q h1 h2 => by
      rw [HSB.out]
      unfold subS
      have g1 : decide (ta.kind = tb.kind) = p1 := by rw [← HP1.out]; rfl
      have g2 : decide (ta.mu = tb.mu) = p2 := by rw [← HP2.out]; cases ta.mu <;> cases tb.mu <;> rfl
      have g3 : decide (ta.flds.length = tb.flds.length) = p3 := by rw [← HP3.out, nat_beq]
      have g4 : decide (ta.kind ≠ 3) = !p4 := by rw [← HP4.out]; by_cases h : ta.kind = 3 <;> simp [h]
      have g5 : p4 = true → ta.flds = [] := fun h => (HOKS.out.1 (by rw [← HP4.out] at h; simpa using h)).2.2
      rw [g1, g2, g3, g4, List.drop_zero, List.drop_zero]
      have g6 : p3 = true → ta.flds.length = tb.flds.length := fun h => by rw [← g3] at h; simpa using h
      cases p1 <;> cases p2 <;> cases p3 <;> cases p4 <;> simp_all)
    clear HSB
    have HR : Hid (0 ≤ (s : Int) ∧ (s : Int) < (b.types.length : Int) ∧ 0 ≤ (t : Int) ∧ (t : Int) < (b.types.length : Int)) := Lib.hid ⟨by omega, by omega, by omega, by omega⟩
    have HO : Hid (∀ X, E.Ph b W1 ks ((s : Int) + t) X → Calls Tryz.prog 214 #[.pointer (some ⟨E.r, 0, none⟩), .int .i64 ta.reg, .int .i64 tb.reg] X fun e' X' => e' = .returned (.bool (outB b.outl b.regions.length ta.reg tb.reg)) ∧ E.Ph b W1 ks ((s : Int) + t) X') := Lib.hid (fun X hX => by
      refine (outl_any b.outl b.regions.length ta.reg tb.reg E.r X (HEE.out.rel.keep (HC.out X hX).2.2.2.2.2) HEE.out.ok.pairs (by have := HEE.out.ok.nreg; omega) HEE.out.ok.nout).mono ?_
      rintro e' X' ⟨rfl, hb⟩
      exact ⟨rfl, hX.keep hb⟩)
    obtain ⟨z1, z2, z3, z4⟩ : W1.cell? ⟨E.pf, 0, none⟩ = some E.F ∧ W1.cell? ⟨E.pr, 0, none⟩ = some (.pointer (some ⟨E.r, 0, none⟩)) ∧ W1.cell? ⟨E.pk, 0, none⟩ = some (.map (some E.M)) ∧ True := ⟨hst1.f, hst1.r, hst1.k, trivial⟩
    clear hst1 z4
    unfold SubE.F at z1
    have hall : p1 = true ∧ p2 = true ∧ p3 = true ∧ p4 = true := by have := HCASE.out; revert this; cases p1 <;> cases p2 <;> cases p3 <;> cases p4 <;> simp
    clear HCASE
    · obtain ⟨rfl, rfl, rfl, rfl⟩ := hall
      have h3 : ta.kind = 3 := by simpa using hp4
      have h3b : tb.kind = 3 := by have : ta.kind = tb.kind := by simpa using hp1
                                   rw [← this]; exact h3
      obtain ⟨a1, a2, -⟩ := HOKS.out.1 h3
      obtain ⟨b1, b2, -⟩ := HOKT.out.1 h3b
      have HSS := Lib.hid (fun (x y : Int) (hxy : (x = ta.elem ∧ y = tb.elem) ∨ (x = tb.elem ∧ y = ta.elem)) => HCALL.out x y (by omega) (by omega) (by omega) (by omega) (by omega))
      have HF0 : Hid (ta.flds.length = 0) := Lib.hid (by rw [(HOKS.out.1 h3).2.2]; rfl)
      clear a1 a2 b1 b2 h3 h3b HOKS HOKT
      have HL2 : Hid (∀ q : Bool, q = (outB b.outl b.regions.length ta.reg tb.reg && subB b ta.elem tb.elem && (!ta.mu || subB b tb.elem ta.elem)) → subB b s t = (q && (((ta.flds.drop 0).zip (tb.flds.drop 0)).all (fun p => subB b p.1 p.2))) ∧ (q = true → ta.flds.length = tb.flds.length)) := Lib.hid (fun q hq => HLAW.out q (fun _ _ _ _ => hq) (fun h => absurd ⟨rfl, rfl, rfl, rfl⟩ h))
      clear HLAW HP1 HP2 HP3 HP4
      generalize outB b.outl b.regions.length ta.reg tb.reg = o1 at HO HL2
      obtain ⟨s1, hs1⟩ : ∃ q, subB b ta.elem tb.elem = q := ⟨_, rfl⟩
      obtain ⟨s2, hs2⟩ : ∃ q, subB b tb.elem ta.elem = q := ⟨_, rfl⟩
      rw [hs1, hs2] at HL2
      have HE1 := Lib.hid hs1
      have HE2 := Lib.hid hs2
      clear HCALL hs1 hs2
      generalize hmu : ta.mu = mu at *
      rcases (show o1 = false ∨ (o1 = true ∧ s1 = false) ∨ (o1 = true ∧ s1 = true ∧ mu = false) ∨ (o1 = true ∧ s1 = true ∧ mu = true) by cases o1 <;> cases s1 <;> cases mu <;> simp) with rfl | ⟨rfl, rfl⟩ | ⟨rfl, rfl, rfl⟩ | ⟨rfl, rfl, rfl⟩
      · have HV := Lib.hid (HL2.out false rfl)
        go_wp2_with (go_at_call 214; refine (HO.out _ HPH.out).mono ?_; rintro e' w1 ⟨rfl, hq⟩; have HQ1 := Lib.hid hq; obtain ⟨ca, cb, cf, cr, ck, -⟩ := HC.out _ hq; unfold SubE.F at cf; have ca0 := ca 0 _ rfl; have ca1 := ca 1 _ rfl; have ca2 := ca 2 _ rfl; have ca3 := ca 3 _ rfl; have ca4 := ca 4 _ rfl; have cb0 := cb 0 _ rfl; have cb1 := cb 1 _ rfl; have cb2 := cb 2 _ rfl; have cb3 := cb 3 _ rfl; have cb4 := cb 4 _ rfl; clear ca cb; try rw [hmu] at ca1; clear hq)
        have HPZ := HQ1
        have HVV : Hid (subB b s t = false) := Lib.hid (by rw [HV.out.1]; rfl); (try clear HCALL); (try clear HSS); (try clear HE1); (try clear HE2);  (try clear HO); (try clear HL2); (try clear HLAW); go_loopg [9, 13] 0 (fun gk v i wr => v = .bool false ∧ i = .int .i64 0 ∧ Hid (E.Ph b W1 ks ((s : Int) + t) wr)); (case atStart => exact ⟨rfl, rfl, HPZ⟩); (case round => (obtain ⟨rfl, rfl, HPZ⟩ := hrel; obtain ⟨kz, hstz, hnz, hgz⟩ := HPZ.out; have HSZ := Lib.hid hstz; have HNZ := Lib.hid hnz; have HGZ := Lib.hid hgz; have hkz := hstz.k; clear hnz hgz; go_wp2_with (at_mapUpdate; refine wpList_storeM _ rfl _ _ _ 299 rfl 79 3 4 arrP Tryz.underlying3 progN Tryz.underlying299 _ _ _ rfl hstz.memo (hstz.lt HEE.out) _ _ rfl wfs wft (by rw [HVV.out]; rfl) ?_; intro w9 hm9 hg9; have HM9 := Lib.hid hm9; have HG9 := Lib.hid hg9; clear hm9 hg9); clear hstz; go_ret; refine ⟨?_, SubE.fin HEE.out HM.out HR.out HB1.out HSZ.out HNZ.out HGZ.out HM9.out HG9.out⟩; rw [HVV.out]; rfl))
      · have HV := Lib.hid (HL2.out false rfl)
        go_wp2_with (first | (go_at_call 214; refine (HO.out _ HPH.out).mono ?_; rintro e' w1 ⟨rfl, hq⟩; have HQ1 := Lib.hid hq; obtain ⟨ca, cb, cf, cr, ck, -⟩ := HC.out _ hq; unfold SubE.F at cf; have ca0 := ca 0 _ rfl; have ca1 := ca 1 _ rfl; have ca2 := ca 2 _ rfl; have ca3 := ca 3 _ rfl; have ca4 := ca 4 _ rfl; have cb0 := cb 0 _ rfl; have cb1 := cb 1 _ rfl; have cb2 := cb 2 _ rfl; have cb3 := cb 3 _ rfl; have cb4 := cb 4 _ rfl; clear ca cb; try rw [hmu] at ca1; clear hq) | (go_at_call 231; refine (HSS.out _ _ (by first | exact Or.inl ⟨rfl, rfl⟩ | exact Or.inr ⟨rfl, rfl⟩) _ (by exact HQ1.out)).mono ?_; rintro e' w2 ⟨rfl, hq⟩; rw [HE1.out]; have HQ2 := Lib.hid hq; obtain ⟨ca, cb, cf, cr, ck, -⟩ := HC.out _ hq; unfold SubE.F at cf; have ca0 := ca 0 _ rfl; have ca1 := ca 1 _ rfl; have ca2 := ca 2 _ rfl; have ca3 := ca 3 _ rfl; have ca4 := ca 4 _ rfl; have cb0 := cb 0 _ rfl; have cb1 := cb 1 _ rfl; have cb2 := cb 2 _ rfl; have cb3 := cb 3 _ rfl; have cb4 := cb 4 _ rfl; clear ca cb; try rw [hmu] at ca1; clear hq))
        have HPZ := HQ2
        have HVV : Hid (subB b s t = false) := Lib.hid (by rw [HV.out.1]; rfl); (try clear HCALL); (try clear HSS); (try clear HE1); (try clear HE2);  (try clear HO); (try clear HL2); (try clear HLAW); go_loopg [9, 13] 0 (fun gk v i wr => v = .bool false ∧ i = .int .i64 0 ∧ Hid (E.Ph b W1 ks ((s : Int) + t) wr)); (case atStart => exact ⟨rfl, rfl, HPZ⟩); (case round => (obtain ⟨rfl, rfl, HPZ⟩ := hrel; obtain ⟨kz, hstz, hnz, hgz⟩ := HPZ.out; have HSZ := Lib.hid hstz; have HNZ := Lib.hid hnz; have HGZ := Lib.hid hgz; have hkz := hstz.k; clear hnz hgz; go_wp2_with (at_mapUpdate; refine wpList_storeM _ rfl _ _ _ 299 rfl 79 3 4 arrP Tryz.underlying3 progN Tryz.underlying299 _ _ _ rfl hstz.memo (hstz.lt HEE.out) _ _ rfl wfs wft (by rw [HVV.out]; rfl) ?_; intro w9 hm9 hg9; have HM9 := Lib.hid hm9; have HG9 := Lib.hid hg9; clear hm9 hg9); clear hstz; go_ret; refine ⟨?_, SubE.fin HEE.out HM.out HR.out HB1.out HSZ.out HNZ.out HGZ.out HM9.out HG9.out⟩; rw [HVV.out]; rfl))
      · have HV := Lib.hid (HL2.out true rfl)
        go_wp2_with (first | (go_at_call 214; refine (HO.out _ HPH.out).mono ?_; rintro e' w1 ⟨rfl, hq⟩; have HQ1 := Lib.hid hq; obtain ⟨ca, cb, cf, cr, ck, -⟩ := HC.out _ hq; unfold SubE.F at cf; have ca0 := ca 0 _ rfl; have ca1 := ca 1 _ rfl; have ca2 := ca 2 _ rfl; have ca3 := ca 3 _ rfl; have ca4 := ca 4 _ rfl; have cb0 := cb 0 _ rfl; have cb1 := cb 1 _ rfl; have cb2 := cb 2 _ rfl; have cb3 := cb 3 _ rfl; have cb4 := cb 4 _ rfl; clear ca cb; try rw [hmu] at ca1; clear hq) | (go_at_call 231; refine (HSS.out _ _ (by first | exact Or.inl ⟨rfl, rfl⟩ | exact Or.inr ⟨rfl, rfl⟩) _ (by exact HQ1.out)).mono ?_; rintro e' w2 ⟨rfl, hq⟩; rw [HE1.out]; have HQ2 := Lib.hid hq; obtain ⟨ca, cb, cf, cr, ck, -⟩ := HC.out _ hq; unfold SubE.F at cf; have ca0 := ca 0 _ rfl; have ca1 := ca 1 _ rfl; have ca2 := ca 2 _ rfl; have ca3 := ca 3 _ rfl; have ca4 := ca 4 _ rfl; have cb0 := cb 0 _ rfl; have cb1 := cb 1 _ rfl; have cb2 := cb 2 _ rfl; have cb3 := cb 3 _ rfl; have cb4 := cb 4 _ rfl; clear ca cb; try rw [hmu] at ca1; clear hq))
        have HPZ := HQ2
        have HVV : Hid (subB b s t = true) := Lib.hid (by rw [HV.out.1, List.length_eq_zero_iff.1 HF0.out]; rfl); (try clear HCALL); (try clear HSS); (try clear HE1); (try clear HE2);  (try clear HO); (try clear HL2); (try clear HLAW); go_loopg [9, 13] 0 (fun gk v i wr => v = .bool true ∧ i = .int .i64 0 ∧ Hid (E.Ph b W1 ks ((s : Int) + t) wr)); (case atStart => exact ⟨rfl, rfl, HPZ⟩); (case round => (obtain ⟨rfl, rfl, HPZ⟩ := hrel; have hq := HPZ.out; obtain ⟨ca, cb, cf, cr, ck, -⟩ := HC.out _ hq; unfold SubE.F at cf; have ca0 := ca 0 _ rfl; have ca1 := ca 1 _ rfl; have ca2 := ca 2 _ rfl; have ca3 := ca 3 _ rfl; have ca4 := ca 4 _ rfl; have cb0 := cb 0 _ rfl; have cb1 := cb 1 _ rfl; have cb2 := cb 2 _ rfl; have cb3 := cb 3 _ rfl; have cb4 := cb 4 _ rfl; clear ca cb; have hf0 := HF0.out; have e0 : ¬ ((0 : Int) < (ta.flds.length : Int)) := (by omega); clear hq; obtain ⟨kz, hstz, hnz, hgz⟩ := HPZ.out; have HSZ := Lib.hid hstz; have HNZ := Lib.hid hnz; have HGZ := Lib.hid hgz; have hkz := hstz.k; clear hnz hgz; go_wp2_with (at_mapUpdate; refine wpList_storeM _ rfl _ _ _ 299 rfl 79 3 4 arrP Tryz.underlying3 progN Tryz.underlying299 _ _ _ rfl hstz.memo (hstz.lt HEE.out) _ _ rfl wfs wft (by rw [HVV.out]; rfl) ?_; intro w9 hm9 hg9; have HM9 := Lib.hid hm9; have HG9 := Lib.hid hg9; clear hm9 hg9); clear hstz; go_ret; refine ⟨?_, SubE.fin HEE.out HM.out HR.out HB1.out HSZ.out HNZ.out HGZ.out HM9.out HG9.out⟩; rw [HVV.out]; rfl))
      · have HV := Lib.hid (HL2.out s2 (by simp))
        cases s2
        · go_wp2_with (first | (go_at_call 214; refine (HO.out _ HPH.out).mono ?_; rintro e' w1 ⟨rfl, hq⟩; have HQ1 := Lib.hid hq; obtain ⟨ca, cb, cf, cr, ck, -⟩ := HC.out _ hq; unfold SubE.F at cf; have ca0 := ca 0 _ rfl; have ca1 := ca 1 _ rfl; have ca2 := ca 2 _ rfl; have ca3 := ca 3 _ rfl; have ca4 := ca 4 _ rfl; have cb0 := cb 0 _ rfl; have cb1 := cb 1 _ rfl; have cb2 := cb 2 _ rfl; have cb3 := cb 3 _ rfl; have cb4 := cb 4 _ rfl; clear ca cb; try rw [hmu] at ca1; clear hq) | (go_at_call 231; refine (HSS.out _ _ (by first | exact Or.inl ⟨rfl, rfl⟩ | exact Or.inr ⟨rfl, rfl⟩) _ (by exact HQ1.out)).mono ?_; rintro e' w2 ⟨rfl, hq⟩; rw [HE1.out]; have HQ2 := Lib.hid hq; obtain ⟨ca, cb, cf, cr, ck, -⟩ := HC.out _ hq; unfold SubE.F at cf; have ca0 := ca 0 _ rfl; have ca1 := ca 1 _ rfl; have ca2 := ca 2 _ rfl; have ca3 := ca 3 _ rfl; have ca4 := ca 4 _ rfl; have cb0 := cb 0 _ rfl; have cb1 := cb 1 _ rfl; have cb2 := cb 2 _ rfl; have cb3 := cb 3 _ rfl; have cb4 := cb 4 _ rfl; clear ca cb; try rw [hmu] at ca1; clear hq) | (go_at_call 231; refine (HSS.out _ _ (by first | exact Or.inl ⟨rfl, rfl⟩ | exact Or.inr ⟨rfl, rfl⟩) _ (by exact HQ2.out)).mono ?_; rintro e' w3 ⟨rfl, hq⟩; rw [HE2.out]; have HQ3 := Lib.hid hq; obtain ⟨ca, cb, cf, cr, ck, -⟩ := HC.out _ hq; unfold SubE.F at cf; have ca0 := ca 0 _ rfl; have ca1 := ca 1 _ rfl; have ca2 := ca 2 _ rfl; have ca3 := ca 3 _ rfl; have ca4 := ca 4 _ rfl; have cb0 := cb 0 _ rfl; have cb1 := cb 1 _ rfl; have cb2 := cb 2 _ rfl; have cb3 := cb 3 _ rfl; have cb4 := cb 4 _ rfl; clear ca cb; try rw [hmu] at ca1; clear hq))
          have HPZ := HQ3
          have HVV : Hid (subB b s t = false) := Lib.hid (by rw [HV.out.1]; rfl); (try clear HCALL); (try clear HSS); (try clear HE1); (try clear HE2);  (try clear HO); (try clear HL2); (try clear HLAW); go_loopg [9, 13] 0 (fun gk v i wr => v = .bool false ∧ i = .int .i64 0 ∧ Hid (E.Ph b W1 ks ((s : Int) + t) wr)); (case atStart => exact ⟨rfl, rfl, HPZ⟩); (case round => (obtain ⟨rfl, rfl, HPZ⟩ := hrel; obtain ⟨kz, hstz, hnz, hgz⟩ := HPZ.out; have HSZ := Lib.hid hstz; have HNZ := Lib.hid hnz; have HGZ := Lib.hid hgz; have hkz := hstz.k; clear hnz hgz; go_wp2_with (at_mapUpdate; refine wpList_storeM _ rfl _ _ _ 299 rfl 79 3 4 arrP Tryz.underlying3 progN Tryz.underlying299 _ _ _ rfl hstz.memo (hstz.lt HEE.out) _ _ rfl wfs wft (by rw [HVV.out]; rfl) ?_; intro w9 hm9 hg9; have HM9 := Lib.hid hm9; have HG9 := Lib.hid hg9; clear hm9 hg9); clear hstz; go_ret; refine ⟨?_, SubE.fin HEE.out HM.out HR.out HB1.out HSZ.out HNZ.out HGZ.out HM9.out HG9.out⟩; rw [HVV.out]; rfl))
        · go_wp2_with (first | (go_at_call 214; refine (HO.out _ HPH.out).mono ?_; rintro e' w1 ⟨rfl, hq⟩; have HQ1 := Lib.hid hq; obtain ⟨ca, cb, cf, cr, ck, -⟩ := HC.out _ hq; unfold SubE.F at cf; have ca0 := ca 0 _ rfl; have ca1 := ca 1 _ rfl; have ca2 := ca 2 _ rfl; have ca3 := ca 3 _ rfl; have ca4 := ca 4 _ rfl; have cb0 := cb 0 _ rfl; have cb1 := cb 1 _ rfl; have cb2 := cb 2 _ rfl; have cb3 := cb 3 _ rfl; have cb4 := cb 4 _ rfl; clear ca cb; try rw [hmu] at ca1; clear hq) | (go_at_call 231; refine (HSS.out _ _ (by first | exact Or.inl ⟨rfl, rfl⟩ | exact Or.inr ⟨rfl, rfl⟩) _ (by exact HQ1.out)).mono ?_; rintro e' w2 ⟨rfl, hq⟩; rw [HE1.out]; have HQ2 := Lib.hid hq; obtain ⟨ca, cb, cf, cr, ck, -⟩ := HC.out _ hq; unfold SubE.F at cf; have ca0 := ca 0 _ rfl; have ca1 := ca 1 _ rfl; have ca2 := ca 2 _ rfl; have ca3 := ca 3 _ rfl; have ca4 := ca 4 _ rfl; have cb0 := cb 0 _ rfl; have cb1 := cb 1 _ rfl; have cb2 := cb 2 _ rfl; have cb3 := cb 3 _ rfl; have cb4 := cb 4 _ rfl; clear ca cb; try rw [hmu] at ca1; clear hq) | (go_at_call 231; refine (HSS.out _ _ (by first | exact Or.inl ⟨rfl, rfl⟩ | exact Or.inr ⟨rfl, rfl⟩) _ (by exact HQ2.out)).mono ?_; rintro e' w3 ⟨rfl, hq⟩; rw [HE2.out]; have HQ3 := Lib.hid hq; obtain ⟨ca, cb, cf, cr, ck, -⟩ := HC.out _ hq; unfold SubE.F at cf; have ca0 := ca 0 _ rfl; have ca1 := ca 1 _ rfl; have ca2 := ca 2 _ rfl; have ca3 := ca 3 _ rfl; have ca4 := ca 4 _ rfl; have cb0 := cb 0 _ rfl; have cb1 := cb 1 _ rfl; have cb2 := cb 2 _ rfl; have cb3 := cb 3 _ rfl; have cb4 := cb 4 _ rfl; clear ca cb; try rw [hmu] at ca1; clear hq))
          have HPZ := HQ3
          have HVV : Hid (subB b s t = true) := Lib.hid (by rw [HV.out.1, List.length_eq_zero_iff.1 HF0.out]; rfl); (try clear HCALL); (try clear HSS); (try clear HE1); (try clear HE2);  (try clear HO); (try clear HL2); (try clear HLAW); go_loopg [9, 13] 0 (fun gk v i wr => v = .bool true ∧ i = .int .i64 0 ∧ Hid (E.Ph b W1 ks ((s : Int) + t) wr)); (case atStart => exact ⟨rfl, rfl, HPZ⟩); (case round => (obtain ⟨rfl, rfl, HPZ⟩ := hrel; have hq := HPZ.out; obtain ⟨ca, cb, cf, cr, ck, -⟩ := HC.out _ hq; unfold SubE.F at cf; have ca0 := ca 0 _ rfl; have ca1 := ca 1 _ rfl; have ca2 := ca 2 _ rfl; have ca3 := ca 3 _ rfl; have ca4 := ca 4 _ rfl; have cb0 := cb 0 _ rfl; have cb1 := cb 1 _ rfl; have cb2 := cb 2 _ rfl; have cb3 := cb 3 _ rfl; have cb4 := cb 4 _ rfl; clear ca cb; have hf0 := HF0.out; have e0 : ¬ ((0 : Int) < (ta.flds.length : Int)) := (by omega); clear hq; obtain ⟨kz, hstz, hnz, hgz⟩ := HPZ.out; have HSZ := Lib.hid hstz; have HNZ := Lib.hid hnz; have HGZ := Lib.hid hgz; have hkz := hstz.k; clear hnz hgz; go_wp2_with (at_mapUpdate; refine wpList_storeM _ rfl _ _ _ 299 rfl 79 3 4 arrP Tryz.underlying3 progN Tryz.underlying299 _ _ _ rfl hstz.memo (hstz.lt HEE.out) _ _ rfl wfs wft (by rw [HVV.out]; rfl) ?_; intro w9 hm9 hg9; have HM9 := Lib.hid hm9; have HG9 := Lib.hid hg9; clear hm9 hg9); clear hstz; go_ret; refine ⟨?_, SubE.fin HEE.out HM.out HR.out HB1.out HSZ.out HNZ.out HGZ.out HM9.out HG9.out⟩; rw [HVV.out]; rfl))
end Go.Proofs.YtbnljlpefpllcaaGreatDoor
namespace Go.Proofs.YtbnljlpefpllcaaGreatDoor
open Go Go.RowKit
set_option maxRecDepth 100000 in
set_option maxHeartbeats 4000000 in
theorem counts_any (m k : Nat) (x y : Int) (n : Nat) (A B : Option Addr) (c d : Nat) (w : World) (h1 : w.cell? ⟨n, 1, none⟩ = some (.slice A m c)) (h2 : w.cell? ⟨n, 2, none⟩ = some (.slice B k d)) :
    Calls Tryz.prog 179 #[.int .i64 x, .int .i64 y, .pointer (some ⟨n, 0, none⟩)] w fun e' w' => e' = .returned (.bool (decide ((m : Int) = x) && decide ((k : Int) = y))) ∧ w' = w := by
  go_enter Tryz.func179, Tryz.ntmps179
  go_wp2_with fail
  all_goals
    go_ret
    refine ⟨?_, rfl⟩
    refine congrArg (fun b => Ending.returned (Value.bool b)) ?_
    clear h1 h2
    grind
theorem bytes_empty (s : ByteArray) : s.toList.isEmpty = decide (s.size = 0) := by
  rw [Bool.eq_iff_iff, Lib.toList_data, List.isEmpty_iff, ← List.length_eq_zero_iff, decide_eq_true_eq]
  show s.data.toList.length = 0 ↔ s.data.size = 0
  rw [Array.length_toList]
set_option maxRecDepth 100000 in
set_option maxHeartbeats 8000000 in
theorem fields_any (t : Trm) (A B C : Option Addr) (c d f : Nat) (w : World) :
    Calls Tryz.prog 127 #[.agg (tmC t A c B d C f).toArray] w fun e' w' => e' = .returned (.bool (fieldsT t)) ∧ Below w.heap.size w w' := by
  have HZ := Lib.hid (fun W => zero_any t.place C f W)
  obtain ⟨k, tg, args, pl, nm⟩ := t
  simp only at HZ
  unfold tmC
  simp only
  obtain ⟨m, hm⟩ : ∃ m, tg.length = m := ⟨_, rfl⟩
  obtain ⟨j, hj⟩ : ∃ j, args.length = j := ⟨_, rfl⟩
  have HQ := Lib.hid (show fieldsT ⟨k, tg, args, pl, nm⟩ = _ by unfold fieldsT; simp only; rw [hm, hj])
  rw [hm, hj]
  generalize fieldsT ⟨k, tg, args, pl, nm⟩ = q at HQ ⊢
  generalize zeroP pl = z at HZ HQ
  clear hm hj
  have hmf : ∀ (fn : Fn) (first cap : Array Value) (w : World), (Instr.makeFunc fn first cap).run Tryz.prog w = .ok (.func fn first cap) w := fun _ _ _ _ => rfl
  go_enter Tryz.func127, Tryz.ntmps127
  go_wp2_with (first | (go_at_call 124; refine (HZ.out _).mono ?_; rintro e' w1 ⟨rfl, hb1⟩; have y := cells_kept (cells_new w _ _) hb1; have y0 := y 0 _ rfl; have y1 := y 1 _ rfl; have y2 := y 2 _ rfl; have y3 := y 3 _ rfl; have y4 := y 4 _ rfl; have y5 := y 5 _ rfl; clear y) | (go_at_call 179; refine (counts_any m j _ _ _ A B c d _ (cells_new w _ _ 1 _ rfl) (cells_new w _ _ 2 _ rfl)).mono ?_; rintro e' _ ⟨rfl, rfl⟩))
  all_goals
    go_ret
    refine ⟨?_, by first | exact ((Below.refl _ _).alloc (Nat.le_refl _) _).trans (hb1.mono (by simp)) | (repeat (first | exact Below.refl _ _ | assumption | refine Below.alloc ?_ (by first | omega | (simp; done) | (simp; omega)) _ | refine below_drewN ?_ _ | refine Below.drew ?_ | refine Below.setCell ?_ (by first | omega | (simp; done) | (simp; omega)) _))⟩
    have HF := HQ.out
    try clear y0 y1 y2 y3 y4 y5
    try clear hb1
    clear HQ HZ hmf
    rw [HF]
    first | refine congrArg (fun b => Ending.returned (Value.bool b)) ?_ | (refine congrArg Ending.returned ?_)
    have hn := bytes_empty nm
    try rw [hn]
    clear hn
    generalize decide (nm.size = 0) = u
    by_cases g1 : m = 1 <;> by_cases g2 : m = 2 <;> by_cases g3 : j = 1 <;> grind
end Go.Proofs.YtbnljlpefpllcaaGreatDoor
namespace Go.Proofs.YtbnljlpefpllcaaGreatDoor
open Go Go.RowKit
theorem two_sl (W : World) (x y : Int) (T : TypeId) (k : Nat) (hk : k = W.heap.size) : Slc 1 RInt (W.alloc (.cells #[.int .i64 x, .int .i64 y] T)) (some ⟨k, 0, none⟩) 2 [x, y] := by
  subst hk
  refine ⟨fun _ => ⟨_, _, rfl, by simp, fun i q hi => ?_⟩, by simp, by omega⟩
  show (W.alloc _).cell? ⟨W.heap.size, 0 + i * 1, none⟩ = _
  rw [World.cell?_alloc_at _ _ _ _ (by simp), Nat.zero_add, Nat.mul_one]
  match i, hi with
  | 0, hi => simp at hi; subst hi; rfl
  | 1, hi => simp at hi; subst hi; rfl
  | i + 2, hi => simp at hi
/-- Two new blocks: the cells of both behind a call. -/
theorem cells_two {w w1 : World} {l1 l2 : List Value} {t1 t2 : TypeId} (hb : Below ((w.alloc (.cells l1.toArray t1)).alloc (.cells l2.toArray t2)).heap.size ((w.alloc (.cells l1.toArray t1)).alloc (.cells l2.toArray t2)) w1) :
    (∀ i v, l1[i]? = some v → w1.cell? ⟨w.heap.size, i, none⟩ = some v) ∧ (∀ i v, l2[i]? = some v → w1.cell? ⟨w.heap.size + 1, i, none⟩ = some v) := by
  refine ⟨fun i v hi => cell_keep hb ?_, fun i v hi => cell_keep hb ?_⟩
  · exact cell_keep ((Below.refl _ _).alloc (Nat.le_refl _) _) (cells_new w l1 t1 i v hi)
  · have := cells_new (w.alloc (.cells l1.toArray t1)) l2 t2 i v hi
    rwa [World.size_alloc] at this
set_option maxRecDepth 100000 in
set_option maxHeartbeats 4000000 in
theorem writable_any (b : Bdy) (bh : BH) (r : Nat) (p : Plc) (A : Option Addr) (c : Nat) (w : World) (H : BdAt w b bh) (hp : Slc 2 RPj w A c p.proj) (hok : Okay b.types b.locals) :
    Calls Tryz.prog 125 #[.agg (ckC b bh r).toArray, .agg #[.int .i64 p.loc, .slice A p.proj.length c]] w fun e' w' => e' = .returned (.tuple #[.int .i64 (tyB b p).1, .int .i64 (writE b p)]) ∧ Below w.heap.size w w' := by
  have HT := Lib.hid (fun W (hb : Below w.heap.size w W) => ctypeOf_any b bh r p A c W (H.keep hb) (hp.keep RPj.keeps hb) hok)
  have HM := Lib.hid (fun W (hb : Below w.heap.size w W) => mutable_any b.types b.locals p.loc p.proj bh.A3 bh.A4 A bh.c3 bh.c4 c W (H.keep hb).typ (H.keep hb).loc (hp.keep RPj.keeps hb) hok)
  change Hid (∀ W, Below w.heap.size w W → Calls Tryz.prog 175 _ W fun e' w' => e' = .returned (.bool (mutB b p)) ∧ Below W.heap.size W w') at HM
  have HQ : Hid (writE b p = if (tyB b p).2 ≠ 0 then (tyB b p).2 else fail22 (!mutB b p)) := Lib.hid rfl
  generalize hq : writE b p = q at HQ ⊢
  clear hq
  generalize tyB b p = t at HT HQ ⊢
  generalize mutB b p = mu at HM HQ
  obtain ⟨t, e⟩ := t
  simp only at HT HQ ⊢
  clear H hp hok
  unfold ckC at HT ⊢
  by_cases he : e = 0
  · subst he
    have HF : Hid (firstE [0, fail22 !mu] = q) := Lib.hid (by rw [HQ.out]; cases mu <;> rfl)
    clear HQ
    go_enter Tryz.func125, Tryz.ntmps125
    go_wp2_with (first
      | (go_at_call 132; refine (HT.out _ (bel2 _ _ _)).mono ?_; rintro e' w1 ⟨rfl, hb1⟩; have HB := Lib.hid ((bel2 _ _ _).trans (hb1.mono (bel2 _ _ _).size)); obtain ⟨y, z⟩ := cells_two hb1; have y3 := y 3 _ rfl; have y4 := y 4 _ rfl; have z0 := z 0 _ rfl; have z1 := z 1 _ rfl; clear y z hb1)
      | (go_at_call 175; refine (HM.out _ HB.out).mono ?_; rintro e' w2 ⟨rfl, hb2⟩; have HB2 := Lib.hid (HB.out.trans (hb2.mono HB.out.size)); clear hb2)
      | (go_at_call 129; refine (failed_any _ _).mono ?_; rintro e' w3 ⟨rfl, hw⟩; obtain rfl := hw.symm)
      | (go_at_call 118; refine (first_any [0, fail22 !mu] _ 2 _ (two_sl _ _ _ _ _ rfl)).mono ?_; rintro e' w4 ⟨rfl, hw⟩; obtain rfl := hw.symm))
    go_ret2
    exact ⟨by rw [← HF.out]; rfl, HB2.out.alloc HB2.out.size _⟩
  · have HF : Hid (firstE [e, fail22 false] = q) := Lib.hid (by rw [HQ.out, if_pos he]; show (if e = 0 then _ else e) = e; rw [if_neg he])
    have e1 : (e == 0) = false := by simp [he]
    clear HQ he HM
    go_enter Tryz.func125, Tryz.ntmps125
    go_wp2_with (first
      | (go_at_call 132; refine (HT.out _ (bel2 _ _ _)).mono ?_; rintro e' w1 ⟨rfl, hb1⟩; have HB := Lib.hid ((bel2 _ _ _).trans (hb1.mono (bel2 _ _ _).size)); obtain ⟨y, z⟩ := cells_two hb1; have y3 := y 3 _ rfl; have y4 := y 4 _ rfl; have z0 := z 0 _ rfl; have z1 := z 1 _ rfl; clear y z hb1)
      | (go_at_call 129; refine (failed_any _ _).mono ?_; rintro e' w3 ⟨rfl, hw⟩; obtain rfl := hw.symm)
      | (go_at_call 118; refine (first_any [e, fail22 false] _ 2 _ (two_sl _ _ _ _ _ rfl)).mono ?_; rintro e' w4 ⟨rfl, hw⟩; obtain rfl := hw.symm))
    go_ret2
    exact ⟨by rw [← HF.out]; rfl, HB.out.alloc HB.out.size _⟩
end Go.Proofs.YtbnljlpefpllcaaGreatDoor
