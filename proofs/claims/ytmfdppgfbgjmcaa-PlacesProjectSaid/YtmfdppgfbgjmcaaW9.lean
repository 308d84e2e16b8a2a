/-
  Walks: references of places.
-/
import Derived.Test.YtmfdppgfbgjmcaaW8
import Derived.Test.YtmfdppgfbgjmcaaRegion
import Derived.Maps.AppendAt
namespace Go.Proofs.Ytmfdppgfbgjmcaa
open Go.RowKit Go.Shelf
attribute [local go_sem] Oper.semAt_some

/-- A type with where its fields lie. -/
structure TH where
  t : Ty
  A : Option Addr
  c : Nat
def cellsH (y : TH) : List Value := [.int .i64 y.t.kind, .bool y.t.mu, .int .i64 y.t.reg, .int .i64 y.t.elem, .slice y.A y.t.flds.length y.c]
def GoodH (w : World) (y : TH) : Prop := Sl 1 RInt w w.heap.size y.A y.t.flds ∧ y.t.flds.length ≤ y.c ∧ y.c ≤ 9223372036854775807
theorem GoodH.keep {w w' : World} {y : TH} (h : GoodH w y) (hb : Below w.heap.size w w') : GoodH w' y := ⟨h.1.keep RInt.keeps hb.size hb, h.2⟩

theorem flat_get {α : Type} {k : Nat} (f : α → List Value) (hf : ∀ y, (f y).length = k) : ∀ (ys : List α) (i : Nat) (y : α), ys[i]? = some y → ∀ j, j < k → (ys.flatMap f)[i * k + j]? = (f y)[j]?
  | [], i, y, h, _, _ => by simp at h
  | z :: zs, 0, y, h, j, hj => by
    simp only [List.getElem?_cons_zero, Option.some.injEq] at h
    subst h
    rw [List.flatMap_cons, Nat.zero_mul, Nat.zero_add, List.getElem?_append_left (by rw [hf]; exact hj)]
  | z :: zs, i + 1, y, h, j, hj => by
    rw [List.getElem?_cons_succ] at h
    rw [List.flatMap_cons, List.getElem?_append_right (by rw [hf, Nat.add_mul]; omega), hf, show (i + 1) * k + j - k = i * k + j by rw [Nat.add_mul]; omega]
    exact flat_get f hf zs i y h j hj
theorem flat_len {α : Type} {k : Nat} (f : α → List Value) (hf : ∀ y, (f y).length = k) (ys : List α) : (ys.flatMap f).length = ys.length * k := by
  induction ys with
  | nil => simp
  | cons z zs ih => rw [List.flatMap_cons, List.length_append, hf, ih, List.length_cons, Nat.add_mul]; omega

/-- An owned row of types reads as a slice of types. -/
theorem slc_of_rows {W : World} {base : Nat} {e : TypeId} {v : Value} {ys : List TH} (h : W.ownsRow base e 5 v ys.length (ys.flatMap cellsH)) (hg : ∀ y ∈ ys, GoodH W y) :
    ∃ A c, v = .slice A ys.length c ∧ Slc 5 RTy W A c (ys.map (·.t)) := by
  rcases h.2 with ⟨rfl, hn⟩ | ⟨g, cap, cur, rfl, hb, hh, hnc, hm, _, _⟩
  · have : ys = [] := List.eq_nil_of_length_eq_zero hn
    subst this
    exact ⟨none, 0, rfl, Sl.nil, by simp, by omega⟩
  · refine ⟨some ⟨g, 0, none⟩, cap, rfl, ⟨fun _ => ⟨g, 0, rfl, (Array.getElem?_eq_some_iff.1 hh).1, fun i x hx => ?_⟩, by simpa using hnc, by simp only [maxLen] at hm; omega⟩⟩
    rw [List.getElem?_map] at hx
    obtain ⟨y, hy, rfl⟩ := Option.map_eq_some_iff.1 hx
    have hc := fun j hj u hu => h.cells (g := g) rfl (i * 5 + j) u ((flat_get cellsH (fun _ => rfl) ys i y hy j hj).trans hu)
    have hadd : ∀ n, (⟨g, 0, none⟩ : Addr).add n = ⟨g, n, none⟩ := fun n => by unfold Addr.add; split <;> simp_all
    simp only [hadd] at hc
    have hgd := hg y (List.mem_of_getElem? hy)
    refine ⟨?_, ?_, ?_, ?_, y.A, y.c, ?_, hgd.2.1, hgd.2.2, hgd.1⟩
    · simpa using hc 0 (by omega) _ rfl
    · simpa using hc 1 (by omega) _ rfl
    · simpa using hc 2 (by omega) _ rfl
    · simpa using hc 3 (by omega) _ rfl
    · simpa using hc 4 (by omega) _ rfl

theorem infoTy : (Try.prog.info? 48).map (fun i => (i.zero, i.size, i.bytes)) = some (some (.agg #[.int .i64 0, .bool false, .int .i64 0, .int .i64 0, .slice none 0 0]), 5, 56) := by kernel_rfl

/-- What an element of the path adds to the references. -/
def refStep (ts : List Ty) (ps : List Pj) (s : Stp) : List Ty := match ps[s.num]? with
  | none => []
  | some x => if x.kind = 0 then (match ts[s.idx.toNat]? with | none => [] | some t => [t]) else []
def refsL (ts : List Ty) (ps : List Pj) (L : List Stp) : List Ty := L.flatMap (refStep ts ps)
theorem refsL_snoc (ts : List Ty) (ps : List Pj) (L : List Stp) (s : Stp) : refsL ts ps (L ++ [s]) = refsL ts ps L ++ refStep ts ps s := by simp [refsL]

theorem walkS_ok {ts : List Ty} {ls : List Lc} (hok : Okay ts ls) : ∀ (ps : List Pj) (i : Int) (k : Nat), 0 ≤ i → i < ts.length → ∀ s ∈ walkS ts i k ps, s.err = 0 → 0 ≤ s.idx ∧ s.idx < ts.length
  | [], i, k, h0, h1, s, hs, _ => by
    rw [walkS, List.mem_singleton] at hs
    subst hs
    exact ⟨h0, h1⟩
  | x :: r, i, k, h0, h1, s, hs, he => by
    rw [walkS, List.mem_cons] at hs
    rcases hs with rfl | hs
    · exact ⟨h0, h1⟩
    · have hi : i.toNat < ts.length := by omega
      rw [List.getElem?_eq_getElem hi] at hs
      simp only [] at hs
      split at hs
      · rename_i h2
        have h3 := prT_ok hok (List.getElem_mem hi) x h2
        exact walkS_ok hok r _ _ h3.1 h3.2 s hs he
      · rename_i h2
        rw [List.mem_singleton] at hs
        subst hs
        exact absurd he h2
theorem walkS_len (ts : List Ty) : ∀ (ps : List Pj) (i : Int) (k : Nat), (walkS ts i k ps).length ≤ ps.length + 1
  | [], i, k => by simp [walkS]
  | x :: r, i, k => by
    rw [walkS, List.length_cons, List.length_cons]
    split
    · simp
    · split
      · have := walkS_len ts r ((prT ‹Ty› x).1) (k + 1); omega
      · simp
theorem pth_ok {ts : List Ty} {ls : List Lc} (hok : Okay ts ls) (l : Int) (ps : List Pj) : ∀ s ∈ pth ts ls l ps, s.err = 0 → 0 ≤ s.idx ∧ s.idx < ts.length := by
  intro s hs he
  unfold pth at hs
  split at hs
  · rename_i h
    rw [List.mem_singleton] at hs
    subst hs
    exact absurd he h
  · split at hs
    · rw [List.mem_singleton] at hs
      subst hs
      cases he
    · rename_i x hx
      have := hok.loc x (List.mem_of_getElem? hx)
      exact walkS_ok hok ps _ _ this.1 this.2 s hs he
theorem pth_len (ts : List Ty) (ls : List Lc) (l : Int) (ps : List Pj) : (pth ts ls l ps).length ≤ 33 := by
  unfold pth
  split
  · simp
  · rename_i h
    have hp : ps.length ≤ 32 := by
      unfold chk at h
      split at h
      · simp at h
      · split at h
        · simp at h
        · omega
    split
    · simp
    · have := walkS_len ts ps (‹Lc› : Lc).type 0; omega

/-- What references hands back: the types, and whether there was no error. -/
def refsOf (ts : List Ty) (ls : List Lc) (l : Int) (ps : List Pj) : List Ty × Bool :=
  if (pth ts ls l ps).any (fun s => s.err != 0) then ([], false) else (refsL ts ps (pth ts ls l ps), true)
end Go.Proofs.Ytmfdppgfbgjmcaa
