/-
  PlacesChecks: for every place the law answers true, and the place reads as it did. No condition.
-/
import Derived.Test.YtmfdppgfbgjmcaaW23
import Derived.Test.YtmfdppgfbgjmcaaW24
namespace Go.Proofs.Ytmfdppgfbgjmcaa
open Go.ChangeShapes Go.WideShapes Go.ChangeAt Go.RowKit

set_option maxRecDepth 100000 in
theorem rowchecks_lifted (os : Os) (started : os.Started) (H : Type) (enc : TypeId × Value → H) :
    ReturnsInHanded {} Try.checked os 3 .any (Rows.placesChecksSpec.pre6 enc Try.prog Try.f3 Rows.placesChecksRow.domain false) (Rows.placesChecksSpec.post enc Try.prog Try.f3 false true false false) := by
  refine returnsInHanded_of_change (C := Try.checked) Try.own started (by kernel_rfl) Try.func3
    (ChangeSpec.witness6 (enc := enc) (C := Try.checked) false ⟨#[], #[.agg #[.int .i64 0, .slice none 0 0]], []⟩ 8 (by kernel_rfl) (by kernel_rfl) (by kernel_rfl) (by kernel_rfl)) ?_
  intro W base args ds gs before hval0 hW hcnd _
  have hval : ∀ (j : Nat) t v, Try.f3.params[j]? = some t → args[j]? = some v → Value.okWide Try.prog W .any base t v := hval0
  have hW' := hW
  obtain ⟨p, q, hA0, hV, rfl, hfz, hnd⟩ := hW
  have hA : DataW.TrodAll enc Try.prog W 0 (fun _ => true) true Try.f3.params.toList args.toList ds p := hA0
  rw [Try.params3] at hA hval
  obtain ⟨v0, d0, rfl, rfl, h0⟩ := trodAll_one hA
  obtain ⟨rfl, rfl⟩ := trodVars_none hV
  obtain ⟨l, A, c, ps, rfl, hs⟩ := open_place (hval 0 _ v0 rfl rfl) h0
  clear hA0 hval0
  refine (checks_any ⟨l, ps⟩ A c W hs).mono fun e W' ⟨he, hb⟩ => ?_
  exact ⟨_, he, law_post Try.laidOut rfl (by kernel_rfl) Try.underlying4 rfl (by rw [Try.params3]; intro t ht; simp at ht; subst ht; exact ⟨by kernel_rfl, of_decide_eq_true (by kernel_rfl)⟩) hW' hb⟩

theorem PlacesChecks_holds : Rows.PlacesChecksSaid :=
  OpenClaim.holds_of_wide 3 Try.f3 rfl rfl rfl rfl rfl rfl rfl ⟨rfl, rfl, rfl, rfl, rfl⟩ rfl rfl rfl rfl rfl (by kernel_rfl) Try.func3 (by kernel_rfl)
    (of_decide_eq_true (by kernel_rfl)) (by unfold Func.isWrapper; first | (rw [if_pos (by decide +kernel)]; kernel_rfl) | (rw [if_neg (by decide +kernel)]; exact ⟨rfl, rfl⟩))
    (fun os started H enc _ => rowchecks_lifted os started H enc)
end Go.Proofs.Ytmfdppgfbgjmcaa
