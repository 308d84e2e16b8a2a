/-
  What the examples' world holds.
-/
import Derived.Test.YtmfdppgfbgjmcaaW20
namespace Go.Proofs.Ytmfdppgfbgjmcaa
open Go.RowKit Go.Shelf

theorem cellAt {W : World} {b : Nat} {cs : Array Value} {t : TypeId} (h : W.heap[b]? = some (.cells cs t (0, 0))) (j : Nat) : W.cell? ⟨b, j, none⟩ = cs[j]? := cell_of_row W b j cs t _ h
theorem exT_at {W : World} {b0 b1 : Nat} (h0 : W.heap[b0]? = some (.cells #[.int .i64 1, .int .i64 0] 3 (0, 0)))
    (h1 : W.heap[b1]? = some (.cells #[.int .i64 2, .bool false, .int .i64 0, .int .i64 0, .slice none 0 0, .int .i64 3, .bool true, .int .i64 1, .int .i64 0, .slice none 0 0, .int .i64 4, .bool false, .int .i64 0, .int .i64 0, .slice (some ⟨b0, 0, none⟩) 2 2] 48 (0, 0))) : Slc 5 RTy W (some ⟨b1, 0, none⟩) 3 exT := by
  have k1 := cellAt h1
  have k0 := cellAt h0
  have l0 := (Array.getElem?_eq_some_iff.1 h0).1
  refine ⟨fun _ => ⟨b1, 0, rfl, (Array.getElem?_eq_some_iff.1 h1).1, fun i x hx => ?_⟩, by decide, by decide⟩
  match i, hx with
  | 0, hx =>
    simp only [exT, List.getElem?_cons_zero, Option.some.injEq] at hx
    subst hx
    exact ⟨k1 0, k1 1, k1 2, k1 3, none, 0, k1 4, by decide, by decide, Sl.nil⟩
  | 1, hx =>
    simp only [exT, List.getElem?_cons_succ, List.getElem?_cons_zero, Option.some.injEq] at hx
    subst hx
    exact ⟨k1 5, k1 6, k1 7, k1 8, none, 0, k1 9, by decide, by decide, Sl.nil⟩
  | 2, hx =>
    simp only [exT, List.getElem?_cons_succ, List.getElem?_cons_zero, Option.some.injEq] at hx
    subst hx
    refine ⟨k1 10, k1 11, k1 12, k1 13, some ⟨b0, 0, none⟩, 2, k1 14, by decide, by decide, fun _ => ⟨b0, 0, rfl, l0, fun i x hx => ?_⟩⟩
    match i, hx with
    | 0, hx => simp at hx; subst hx; exact k0 0
    | 1, hx => simp at hx; subst hx; exact k0 1
    | n + 2, hx => simp at hx
  | n + 3, hx => simp [exT] at hx
theorem exL_at {W : World} {b : Nat} {n : ByteArray} (h : W.heap[b]? = some (.cells #[.string n, .int .i64 2] 50 (0, 0))) : Slc 2 RLc W (some ⟨b, 0, none⟩) 1 (exL n) := by
  have k0 := cellAt h
  refine ⟨fun _ => ⟨b, 0, rfl, (Array.getElem?_eq_some_iff.1 h).1, fun i x hx => ?_⟩, by simp [exL], by decide⟩
  match i, hx with
  | 0, hx => simp [exL] at hx; subst hx; exact ⟨k0 0, k0 1⟩
  | n + 1, hx => simp [exL] at hx
theorem exP_at {W : World} {b : Nat} (h : W.heap[b]? = some (.cells #[.int .i64 1, .int .i64 0, .int .i64 0, .int .i64 0] 46 (0, 0))) : Slc 2 RPj W (some ⟨b, 0, none⟩) 2 exP := by
  have k0 := cellAt h
  refine ⟨fun _ => ⟨b, 0, rfl, (Array.getElem?_eq_some_iff.1 h).1, fun i x hx => ?_⟩, by decide, by decide⟩
  match i, hx with
  | 0, hx => simp [exP] at hx; subst hx; exact ⟨k0 0, k0 1⟩
  | 1, hx => simp [exP] at hx; subst hx; exact ⟨k0 2, k0 3⟩
  | n + 2, hx => simp [exP] at hx
theorem exQ_at {W : World} {b : Nat} {k f : Int} (h : W.heap[b]? = some (.cells #[.int .i64 k, .int .i64 f] 46 (0, 0))) : Slc 2 RPj W (some ⟨b, 0, none⟩) 1 [⟨k, f⟩] := by
  have k0 := cellAt h
  refine ⟨fun _ => ⟨b, 0, rfl, (Array.getElem?_eq_some_iff.1 h).1, fun i x hx => ?_⟩, by simp, by decide⟩
  match i, hx with
  | 0, hx => simp at hx; subst hx; exact ⟨k0 0, k0 1⟩
  | n + 1, hx => simp at hx
theorem exI_at {W : World} {b : Nat} (h : W.heap[b]? = some (.cells #[.int .i64 1] 3 (0, 0))) : Slc 1 RInt W (some ⟨b, 0, none⟩) 1 [1] := by
  have k0 := cellAt h
  refine ⟨fun _ => ⟨b, 0, rfl, (Array.getElem?_eq_some_iff.1 h).1, fun i x hx => ?_⟩, by simp, by decide⟩
  match i, hx with
  | 0, hx => simp at hx; subst hx; exact k0 0
  | n + 1, hx => simp at hx

/-- What the examples' world holds. -/
structure ExW (b : Nat) (n : ByteArray) (W : World) : Prop where
  t : Slc 5 RTy W (some ⟨b + 1, 0, none⟩) 3 exT
  l : Slc 2 RLc W (some ⟨b + 1 + 1, 0, none⟩) 1 (exL n)
  p : Slc 2 RPj W (some ⟨b + 1 + 1 + 1, 0, none⟩) 2 exP
  c0 : W.cell? ⟨b + 1 + 1 + 1 + 1, 0, none⟩ = some (.int .i64 0)
  c1 : W.cell? ⟨b + 1 + 1 + 1 + 1, 1, none⟩ = some (.slice (some ⟨b + 1 + 1 + 1, 0, none⟩) 2 2)
theorem ExW.keep {b : Nat} {n : ByteArray} {W W' : World} (h : ExW b n W) (hb : Below W.heap.size W W') : ExW b n W' :=
  ⟨h.t.keep RTy.keeps hb, h.l.keep RLc.keeps hb, h.p.keep RPj.keeps hb, cell_keep hb h.c0, cell_keep hb h.c1⟩
end Go.Proofs.Ytmfdppgfbgjmcaa
