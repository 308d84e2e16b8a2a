/-
  PlacesProject: for all types, locals and places the law answers true, and the arguments read as they did. No condition.
-/
import Derived.Test.YtmfdppgfbgjmcaaW39
import Derived.Test.YtmfdppgfbgjmcaaW31
namespace Go.Proofs.Ytmfdppgfbgjmcaa
open Go.ChangeShapes Go.WideShapes Go.ChangeAt Go.RowKit

set_option maxRecDepth 100000 in
theorem rowproject_lifted (os : Os) (started : os.Started) (H : Type) (enc : TypeId × Value → H) :
    ReturnsInHanded {} Try.checked os 8 .any (Rows.placesProjectSpec.pre6 enc Try.prog Try.f8 Rows.placesProjectRow.domain false) (Rows.placesProjectSpec.post enc Try.prog Try.f8 false true false false) := by
  refine returnsInHanded_of_change (C := Try.checked) Try.own started (by kernel_rfl) Try.func8
    (ChangeSpec.witness6 (enc := enc) (C := Try.checked) false ⟨#[], #[.slice none 0 0, .slice none 0 0, .agg #[.int .i64 0, .slice none 0 0]], []⟩ 8 (by kernel_rfl) (by kernel_rfl) (by kernel_rfl) (by kernel_rfl)) ?_
  intro W base args ds gs before hval0 hW hcnd _
  have hval : ∀ (j : Nat) t v, Try.f8.params[j]? = some t → args[j]? = some v → Value.okWide Try.prog W .any base t v := hval0
  have hW' := hW
  obtain ⟨p, q, hA0, hV, rfl, hfz, hnd⟩ := hW
  have hA : DataW.TrodAll enc Try.prog W 0 (fun _ => true) true Try.f8.params.toList args.toList ds p := hA0
  rw [Try.params8] at hA hval
  obtain ⟨v0, v1, v2, d0, d1, d2, p0, p1, p2, rfl, rfl, rfl, h0, h1, h2⟩ := trodAll_three hA
  obtain ⟨rfl, rfl⟩ := trodVars_none hV
  obtain ⟨A0, c0, ts0, rfl, hs0⟩ := open_types (hval 0 _ v0 rfl rfl) h0
  obtain ⟨A1, c1, ls1, rfl, hs1⟩ := open_locals (hval 1 _ v1 rfl rfl) h1
  obtain ⟨l2, A2, c2, ps2, rfl, hs2⟩ := open_place (hval 2 _ v2 rfl rfl) h2
  clear hA0 hval0
  refine (pproject_any ts0 ls1 l2 ps2 A0 A1 A2 c0 c1 c2 W hs0 hs1 hs2).mono fun e W' ⟨he, hb⟩ => ?_
  exact ⟨_, he, law_post Try.laidOut rfl (by kernel_rfl) Try.underlying4 rfl (by rw [Try.params8]; intro t ht; simp at ht; rcases ht with rfl | rfl | rfl <;> exact ⟨by kernel_rfl, of_decide_eq_true (by kernel_rfl)⟩) hW' hb⟩

theorem PlacesProject_holds : Rows.PlacesProjectSaid :=
  OpenClaim.holds_of_wide 8 Try.f8 rfl rfl rfl rfl rfl rfl rfl ⟨rfl, rfl, rfl, rfl, rfl⟩ rfl rfl rfl rfl rfl (by kernel_rfl) Try.func8 (by kernel_rfl)
    (of_decide_eq_true (by kernel_rfl)) (by unfold Func.isWrapper; first | (rw [if_pos (by decide +kernel)]; kernel_rfl) | (rw [if_neg (by decide +kernel)]; exact ⟨rfl, rfl⟩))
    (fun os started H enc _ => rowproject_lifted os started H enc)
end Go.Proofs.Ytmfdppgfbgjmcaa
