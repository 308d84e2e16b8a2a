/-
  The rows' own steps: arguments opened to lists; the post of a law that answers true and leaves what was there.
-/
import Derived.Test.YtmfdppgfbgjmcaaBase
import Derived.Test.YtmfdppgfbgjmcaaRows
import Derived.ProofKit
import Derived.Below
import Derived.Deep.Slices
import Derived.Deep.Fields
import Derived.Lib.SmallJoins
namespace Go.Proofs.Ytmfdppgfbgjmcaa
open Go.ChangeShapes Go.WideShapes Go.ChangeAt Go.RowKit Go.Joins Go.Deep

theorem list_of {α : Type} {n : Nat} {p : Nat → α → Prop} (h : ∀ i, i < n → ∃ x, p i x) : ∃ xs : List α, xs.length = n ∧ ∀ i x, xs[i]? = some x → p i x := by
  induction n with
  | zero => exact ⟨[], rfl, by simp⟩
  | succ n ih =>
    obtain ⟨xs, hl, hx⟩ := ih (fun i hi => h i (by omega))
    obtain ⟨y, hy⟩ := h n (by omega)
    refine ⟨xs ++ [y], by simp [hl], fun i x hi => ?_⟩
    by_cases hin : i < n
    · rw [List.getElem?_append_left (by omega)] at hi
      exact hx i x hi
    · have hlt := (List.getElem?_eq_some_iff.1 hi).1
      simp only [List.length_append, List.length_singleton] at hlt
      obtain rfl : i = n := by omega
      rw [← hl, List.getElem?_concat_length] at hi
      cases hi
      exact hy

theorem add_none (b o n : Nat) : (⟨b, o, none⟩ : Addr).add n = ⟨b, o + n, none⟩ := by
  unfold Addr.add
  split
  · next h => subst h; rfl
  · rfl

theorem spot_none {w : World} {a : Addr} {v : Value} (h : w.cell? a = some v) : a.spot = none := by
  cases hs : a.spot with
  | none => rfl
  | some x =>
    unfold World.cell? at h
    rw [hs] at h
    split at h
    · simp at h
    · cases h

section
variable {H : Type} {enc : TypeId × Value → H} {P : Program} {w : World} {base : Nat} {spare : Nat → Bool} {held : Bool}

/-- A slice whose elements have a reading. -/
theorem open_sl {α : Type} {k : Nat} {R : Rd α} {t e : TypeId} {fuel : Nat} {cs : List Value} {x : DataW H × List MemPlace} (ht : P.underlying t = some (.slice e)) (hk : P.cellsOf e = k) (hk0 : 0 < k)
    (h : DataW.trod enc P w base spare held fuel t cs = some x)
    (hR : ∀ (b o n : Nat) (cs' : List Value) (y : DataW H × List MemPlace), cs'.length = k → (∀ j, j < k → w.cell? ⟨b, o + j, none⟩ = cs'[j]?) → DataW.trod enc P w base spare held n e cs' = some y → ∃ z, R w w.heap.size b o z) :
    ∃ A c, ∃ xs : List α, cs = [.slice A xs.length c] ∧ Slc k R w A c xs := by
  rcases open_slice ht h with ⟨rfl, _⟩ | ⟨a, len, cap, m, n, D, Pl, rfl, hb, hl, hm, hmm, hx, hi⟩
  · exact ⟨none, 0, [], rfl, Sl.nil, by simp, by omega⟩
  · obtain ⟨b, off, s⟩ := a
    have hlm : len ≤ m := by rw [hmm]; split <;> omega
    rw [hk] at hi
    unfold maxLen at hm
    by_cases h0 : len = 0
    · subst h0
      exact ⟨_, cap, [], rfl, Sl.nil, by simp, hm⟩
    · have hfirst : ∃ v, w.cell? ⟨b, off, s⟩ = some v := by
        obtain ⟨cs', hc, _⟩ := hi 0 (by omega)
        obtain ⟨_, hcl, hat⟩ := World.cells?_some hc
        have h1 := hat 0 hk0
        rw [List.getElem?_eq_getElem (by omega)] at h1
        simp only [Nat.zero_mul, Addr.add, if_true] at h1
        exact ⟨_, h1⟩
      obtain ⟨v, hv⟩ := hfirst
      have hs : s = none := spot_none hv
      subst hs
      obtain ⟨xs, hxl, hxs⟩ := list_of (n := len) (p := fun i z => R w w.heap.size b (off + i * k) z) (fun i hi' => by
        obtain ⟨cs', hc, ht'⟩ := hi i (by omega)
        obtain ⟨_, hcl, hat⟩ := World.cells?_some hc
        refine hR b (off + i * k) n cs' _ hcl (fun j hj => ?_) ht'
        have h1 := hat j hj
        rw [add_none, add_none] at h1
        exact h1)
      exact ⟨_, cap, xs, by rw [hxl], ⟨fun _ => ⟨b, off, rfl, World.block_lt_of_cell? _ _ hv, hxs⟩, by omega, hm⟩⟩

/-- A struct of one-cell fields: each field's reading. -/
theorem fields_of {e : TypeId} {fs : Array Field} {n : Nat} {cs : List Value} {y : DataW H × List MemPlace} (he : P.underlying e = some (.struct fs)) (hone : oneCellFields P fs = true)
    (h : DataW.trod enc P w base spare held n e cs = some y) (hl : cs.length = fs.size) {j : Nat} {f : Field} (hf : fs[j]? = some f) :
    ∃ v m y', cs[j]? = some v ∧ DataW.trod enc P w base spare held m f.type [v] = some y' := by
  obtain ⟨ys, m, _, _, _, hyl, hfl⟩ := DataW.trod_struct he h
  have hjl : j < fs.size := (Array.getElem?_eq_some_iff.1 hf).1
  obtain ⟨ho, hk⟩ := hone_of hone j f hf
  have h1 := hfl j f hf
  rw [ho, hk, List.drop_eq_getElem_cons (show j < cs.length by omega)] at h1
  refine ⟨cs[j], m, ys[j], List.getElem?_eq_getElem _, ?_⟩
  rw [List.getElem?_eq_getElem (show j < ys.length by omega)] at h1
  exact h1

theorem trodAll_stays (hl : laidOutB P = true) {W W' : World} {sp : Nat → Bool} : ∀ (ts : List TypeId) (vs : List Value) (ds : List (DataW H)) (ps : List MemPlace),
    (∀ t ∈ ts, P.readableRec t = true ∧ t < P.types.size) → DataW.TrodAll enc P W 0 (fun _ => true) true ts vs ds ps → (∀ p ∈ ps, W.sameAt W' p) → (∀ p ∈ ps, sp p.block = true) → DataW.TrodAll enc P W' 0 sp true ts vs ds ps
  | [], [], [], _, _, h, _, _ => h
  | t :: ts, v :: vs, d :: ds, ps, hr, h, hs, hp => by
    obtain ⟨p, q, h1, h2, rfl⟩ := h
    exact ⟨p, q, WideElems.Trod_stays hl (hr t (by simp)).1 (hr t (by simp)).2 h1 (fun x hx => hs x (by simp [hx])) (fun x hx => hp x (by simp [hx])),
      trodAll_stays hl ts vs ds q (fun t' ht => hr t' (by simp [ht])) h2 (fun x hx => hs x (by simp [hx])) (fun x hx => hp x (by simp [hx])), rfl⟩
  | [], [], _ :: _, _, _, h, _, _ => h.elim
  | [], _ :: _, _, _, _, h, _, _ => h.elim
  | _ :: _, [], _, _, _, h, _, _ => h.elim
  | _ :: _, _ :: _, [], _, _, h, _, _ => h.elim

/-- A law that answers true and leaves what was there. -/
theorem law_post {f : Func} {s : ChangeSpec} {apart fresh handsOn : Bool} {W W' : World} {args : Array Value} {ds : List (DataW H)} {before : List MemPlace} {tb : TypeId}
    (hl : laidOutB P = true) (hvars : s.vars = []) (hrt : f.resultTypes = #[tb]) (htb : P.underlying tb = some .bool)
    (hfn : s.fn H ds = { results := [.lit (.bool true)], args := ds }) (hrd : ∀ t ∈ f.params.toList, P.readableRec t = true ∧ t < P.types.size)
    (hW : DataW.Whole enc P f.params.toList s.vars apart W args.toList ds [] before) (hb : Below W.heap.size W W') :
    s.post enc P f apart fresh handsOn false W args (.bool true) W' := by
  have hlt : ∀ p ∈ before, p.block < W.heap.size := fun p hp => hW.lt p hp
  have hW2 := hW
  obtain ⟨p, q, hA, hV, hbe, _, _⟩ := hW2
  rw [hvars] at hV
  obtain ⟨_, rfl⟩ := trodVars_none hV
  rw [List.append_nil] at hbe
  subst hbe
  refine ⟨ds, [], before, [], before, [], hW, ?_, ?_, ?_, World.keptBut_mono (fun p hp => ⟨hp, Or.inr (Or.inl hp)⟩) (hb.frame (· ∈ before)), fun h => by cases h⟩
  · rw [List.append_nil, hfn, hrt]
    exact trodAll_mk1 (shut_bool htb true)
  · rw [List.append_nil, hfn]
    exact trodAll_stays hl _ _ _ _ hrd hA (fun x hx => hb.same (hlt x hx)) (fun x hx => by simpa using hlt x hx)
  · rw [List.append_nil, hfn, hvars]
    rfl
end

theorem Try.own : ownKnob Try.prog.godebug = none := by kernel_rfl
theorem Try.laidOut : laidOutB Try.prog = true := by kernel_rfl

section
variable {H : Type} {enc : TypeId × Value → H} {w : World} {base : Nat} {spare : Nat → Bool} {held : Bool}

/-- A place. -/
theorem open_place {r : Reach} {b0 : Nat} {v : Value} {d : DataW H} {p : List MemPlace} (hv : Value.okWide Try.prog w r b0 24 v) (h : DataW.Trod enc Try.prog w base spare held 24 v d p) :
    ∃ (l : Int) (A : Option Addr) (c : Nat) (ps : List Pj), v = .agg #[.int .i64 l, .slice A ps.length c] ∧ Slc 2 RPj w A c ps := by
  obtain ⟨v0, v1, y0, y1, n, rfl, _, _, h0, h1⟩ := open_agg2 Try.underlying24 (by kernel_rfl) (by kernel_rfl) hv h
  obtain ⟨l, hl, _, _⟩ := DataW.trod_int (k := .i64) Try.underlying3 h0
  obtain rfl : v0 = .int .i64 l := by simpa using hl
  obtain ⟨A, c, ps, hps, hs⟩ := open_sl (R := RPj) (k := 2) Try.underlying22 (by kernel_rfl) (by omega) h1 (fun b o m cs' y hl' hc ht => by
    obtain ⟨x0, m0, y0, e0, g0⟩ := fields_of (j := 0) Try.underlying46 (by kernel_rfl) ht hl' rfl
    obtain ⟨x1, m1, y1, e1, g1⟩ := fields_of (j := 1) Try.underlying46 (by kernel_rfl) ht hl' rfl
    obtain ⟨k0, q0, _, _⟩ := DataW.trod_int (k := .i64) Try.underlying3 g0
    obtain ⟨k1, q1, _, _⟩ := DataW.trod_int (k := .i64) Try.underlying3 g1
    obtain rfl : x0 = .int .i64 k0 := by simpa using q0
    obtain rfl : x1 = .int .i64 k1 := by simpa using q1
    exact ⟨⟨k0, k1⟩, (hc 0 (by omega)).trans e0, (hc 1 (by omega)).trans e1⟩)
  obtain rfl : v1 = .slice A ps.length c := by simpa using hps
  exact ⟨l, A, c, ps, rfl, hs⟩
end
end Go.Proofs.Ytmfdppgfbgjmcaa
