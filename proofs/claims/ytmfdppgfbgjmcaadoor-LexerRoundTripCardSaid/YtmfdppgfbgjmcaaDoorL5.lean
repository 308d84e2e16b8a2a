/-
  Walk: signs; the map of the signs.
-/
import Derived.Test.YtmfdppgfbgjmcaaDoorL4
import Derived.Maps.Own
import Derived.Maps.OwnOps
import Derived.Maps.RangeWalk
namespace Go.Proofs.YtmfdppgfbgjmcaaDoor
open Go Go.RowKit Go.Maps Go.WideElems

section
/-- 'v, ok := m[k]' at integers. -/
theorem own_look_ok {H : Type} {P : Program} {k : TypeId} {w : World} {b n : Nat} {D : DataW H} {t e : TypeId} {q : IntKind} (h : w.ownsMap P k (plainElem P e) b n D) (K : Keyed P k) (ht : P.underlying t = some (.map k e)) (he : P.underlying e = some (.int q))
    (hz : (zeroValue e).run P w = .ok (.int q 0) w) {key : Value} {kl : Lit} (hkey : keyOf P k key = some kl) :
    ∃ c ok, (Instr.lookup t (.map (some b)) key true).run P w = .ok (.tuple #[.int q c, .bool ok]) w ∧ ((ok = false ∧ c = 0 ∧ ∀ zd, D.atKey kl zd = zd) ∨ (ok = true ∧ ∀ zd, D.atKey kl zd = .lit (.int q c))) := by
  obtain ⟨es, clock, hb, F, _, rfl⟩ := h
  rcases Maps.fit_look true K ht hz hb F hkey with ⟨hrun, _, hat⟩ | ⟨e0, y, _, _, hrun, hRv, hat, _⟩
  · exact ⟨0, false, hrun, Or.inl ⟨rfl, rfl, hat⟩⟩
  · obtain ⟨c, hc, hy, _⟩ := plainElem_int_inv he hRv
    rw [hc] at hrun
    exact ⟨c, true, hrun, Or.inr ⟨rfl, fun zd => by rw [hat zd, hy]⟩⟩
end

/-- What the signs' map reads as. -/
def signD : DataW Unit := ((((((DataW.map []).put (.int .u8 37) (.lit (.int .i64 3))).put (.int .u8 39) (.lit (.int .i64 4))).put (.int .u8 64) (.lit (.int .i64 5))).put (.int .u8 35) (.lit (.int .i64 6))).put (.int .u8 94) (.lit (.int .i64 7))).put (.int .u8 45) (.lit (.int .i64 2))
theorem law5 : Keyed Tryd.prog 5 := int_keyed Tryd.underlying5
theorem zero3 (w : World) : (zeroValue 3).run Tryd.prog w = .ok (.int .i64 0) w := by kernel_rfl
abbrev SignsAt (w : World) (B : Nat) : Prop := w.ownsMap Tryd.prog 5 (plainElem (H := Unit) Tryd.prog 3) B 6 signD

set_option maxRecDepth 100000 in
set_option maxHeartbeats 2000000 in
theorem signs_any (w : World) : Calls Tryd.prog 24 #[] w fun e' w' => e' = .returned (.map (some w.heap.size)) ∧ SignsAt w' w.heap.size ∧ Below w.heap.size w w' := by
  have hmm := @run_makeMap Tryd.prog
  have h0 := World.ownsMap_made w Tryd.prog 5 (plainElem (H := Unit) Tryd.prog 3)
  obtain ⟨w1, r1, h1, g1⟩ := h0.update law5 Tryd.underlying53 (by unfold maxLen; omega) (keyOf_int_mk (a := 37) Tryd.underlying5 (by decide)) (plainElem_int (a := 3) Tryd.underlying3 (by decide))
  obtain ⟨w2, r2, h2, g2⟩ := h1.update law5 Tryd.underlying53 (by unfold maxLen; omega) (keyOf_int_mk (a := 39) Tryd.underlying5 (by decide)) (plainElem_int (a := 4) Tryd.underlying3 (by decide))
  obtain ⟨w3, r3, h3, g3⟩ := h2.update law5 Tryd.underlying53 (by unfold maxLen; omega) (keyOf_int_mk (a := 64) Tryd.underlying5 (by decide)) (plainElem_int (a := 5) Tryd.underlying3 (by decide))
  obtain ⟨w4, r4, h4, g4⟩ := h3.update law5 Tryd.underlying53 (by unfold maxLen; omega) (keyOf_int_mk (a := 35) Tryd.underlying5 (by decide)) (plainElem_int (a := 6) Tryd.underlying3 (by decide))
  obtain ⟨w5, r5, h5, g5⟩ := h4.update law5 Tryd.underlying53 (by unfold maxLen; omega) (keyOf_int_mk (a := 94) Tryd.underlying5 (by decide)) (plainElem_int (a := 7) Tryd.underlying3 (by decide))
  obtain ⟨w6, r6, h6, g6⟩ := h5.update law5 Tryd.underlying53 (by unfold maxLen; omega) (keyOf_int_mk (a := 45) Tryd.underlying5 (by decide)) (plainElem_int (a := 2) Tryd.underlying3 (by decide))
  have HO := Lib.hid h6
  have HB : Hid (Below w.heap.size w w6) := Lib.hid (((((((Below.refl _ _).alloc (Nat.le_refl _) _).grown g1 (by simp) (by simp)).grown g2 (by have := g1.size; simp at this; omega) (by simp)).grown g3 (by have := g1.size; have := g2.size; simp at *; omega) (by simp)).grown g4 (by have := g1.size; have := g2.size; have := g3.size; simp at *; omega) (by simp)).grown g5 (by have := g1.size; have := g2.size; have := g3.size; have := g4.size; simp at *; omega) (by simp) |>.grown g6 (by have := g1.size; have := g2.size; have := g3.size; have := g4.size; have := g5.size; simp at *; omega) (by simp))
  clear h0 h1 h2 h3 h4 h5 h6 g1 g2 g3 g4 g5 g6
  go_enter Tryd.func24, Tryd.ntmps24
  go_wp2_with fail
  go_ret
  exact ⟨rfl, HO.out, HB.out⟩

theorem sign_at (c : UInt8) (zd : DataW Unit) : signD.atKey (.int .u8 c.toNat) zd = if signK c = 0 then zd else .lit (.int .i64 (signK c)) := by
  have hD : signD = .map [(.int .u8 35, .lit (.int .i64 6)), (.int .u8 37, .lit (.int .i64 3)), (.int .u8 39, .lit (.int .i64 4)), (.int .u8 45, .lit (.int .i64 2)), (.int .u8 64, .lit (.int .i64 5)), (.int .u8 94, .lit (.int .i64 7))] := rfl
  rw [hD]
  by_cases h1 : c = 37
  · subst h1; rfl
  by_cases h2 : c = 39
  · subst h2; rfl
  by_cases h3 : c = 64
  · subst h3; rfl
  by_cases h4 : c = 35
  · subst h4; rfl
  by_cases h5 : c = 94
  · subst h5; rfl
  by_cases h6 : c = 45
  · subst h6; rfl
  have e : ∀ d : UInt8, c ≠ d → ¬ ((d.toNat : Int) = (c.toNat : Int)) := fun d hd h => hd (UInt8.toNat_inj.1 (by omega)).symm.symm
  have e1 := e 37 h1
  have e2 := e 39 h2
  have e3 := e 64 h3
  have e4 := e 35 h4
  have e5 := e 94 h5
  have e6 := e 45 h6
  simp at e1 e2 e3 e4 e5 e6
  simp [signK, h1, h2, h3, h4, h5, h6, DataW.atKey, Lit.sameKey, e1, e2, e3, e4, e5, e6]

/-- A look into the signs' map. -/
theorem sign_look (w : World) (B : Nat) (h : SignsAt w B) (c : UInt8) :
    (signK c ≠ 0 ∧ (Instr.lookup 53 (.map (some B)) (.int .u8 c.toNat) true).run Tryd.prog w = .ok (.tuple #[.int .i64 (signK c), .bool true]) w) ∨
    (signK c = 0 ∧ (Instr.lookup 53 (.map (some B)) (.int .u8 c.toNat) true).run Tryd.prog w = .ok (.tuple #[.int .i64 0, .bool false]) w) := by
  have hwf : (Lit.int .u8 c.toNat).wf = true := by have := c.toNat_lt; simp [Lit.wf, IntKind.min, IntKind.max, IntKind.signed, IntKind.bits]; omega
  obtain ⟨v, ok, hrun, hat⟩ := own_look_ok h law5 Tryd.underlying53 Tryd.underlying3 (zero3 w) (keyOf_int_mk Tryd.underlying5 hwf)
  rcases hat with ⟨rfl, rfl, hat⟩ | ⟨rfl, hat⟩
  · refine Or.inr ⟨?_, hrun⟩
    have := hat .nil
    rw [sign_at] at this
    by_cases hs : signK c = 0
    · exact hs
    · rw [if_neg hs] at this
      cases this
  · have := hat .nil
    rw [sign_at] at this
    by_cases hs : signK c = 0
    · rw [if_pos hs] at this
      cases this
    · rw [if_neg hs] at this
      refine Or.inl ⟨hs, ?_⟩
      have hv : signK c = v := by simpa using this
      rw [hv]
      exact hrun
end Go.Proofs.YtmfdppgfbgjmcaaDoor
