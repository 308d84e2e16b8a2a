/-
  Words for memory: a slice whose elements are read by a relation of their own, and how it is kept while the heap grows.
-/
import Derived.Test.YtmfdppgfbgjmcaaDoorProg
import Derived.WalkKit
import Derived.WalkSpells
import Derived.WalkLawsBesides
import Derived.Lib.Hide
import Derived.Deep.RegionHeld3
import Derived.Deep.DeepFit
import Derived.Deep.QuietTactic
import Derived.BigQuiet
import Derived.OwnWalk
import Derived.Maps.AppendAt
import Derived.Deep.DeepCutAuto
import Derived.StillTailTactics
namespace Go.Proofs.YtmfdppgfbgjmcaaDoor
open Go.RowKit

/-- What an element's reading at (block, offset) says of a world; B: all that it reaches lies below block B. -/
abbrev Rd (α : Type) := World → Nat → Nat → Nat → α → Prop

/-- A reading that is kept by every world that is the same below B. -/
def Rd.Keeps {α : Type} (R : Rd α) : Prop := ∀ (w w' : World) (B B' b o : Nat) (x : α), B ≤ B' → b < B → Below B w w' → R w B b o x → R w' B' b o x

/-- The slice at address A reads as xs: k cells an element. -/
def Sl {α : Type} (k : Nat) (R : Rd α) (w : World) (B : Nat) (A : Option Addr) (xs : List α) : Prop :=
  0 < xs.length → ∃ b off, A = some ⟨b, off, none⟩ ∧ b < B ∧ ∀ i x, xs[i]? = some x → R w B b (off + i * k) x

theorem Sl.keep {α : Type} {k : Nat} {R : Rd α} (hR : R.Keeps) {w w' : World} {B B' : Nat} {A : Option Addr} {xs : List α} (h : Sl k R w B A xs) (hB : B ≤ B') (hb : Below B w w') : Sl k R w' B' A xs := fun hn => by
  obtain ⟨b, off, hA, hlt, hx⟩ := h hn
  exact ⟨b, off, hA, by omega, fun i x hi => hR w w' B B' b _ x hB hlt hb (hx i x hi)⟩

/-- An empty slice, nil or not. -/
theorem Sl.nil {α : Type} {k : Nat} {R : Rd α} {w : World} {B : Nat} {A : Option Addr} : Sl k R w B A ([] : List α) := fun h => absurd h (by simp)

/-- Its cut 's[lo:]' (lo < cap) and 's[:hi]'. -/
theorem Sl.take {α : Type} {k : Nat} {R : Rd α} {w : World} {B : Nat} {A : Option Addr} {xs : List α} (h : Sl k R w B A xs) (n : Nat) : Sl k R w B A (xs.take n) := fun hn => by
  have hl : 0 < xs.length := by
    rw [List.length_take] at hn; omega
  obtain ⟨b, off, hA, hlt, hx⟩ := h hl
  refine ⟨b, off, hA, hlt, fun i x hi => hx i x ?_⟩
  rw [List.getElem?_take] at hi
  split at hi
  · exact hi
  · cases hi

theorem Sl.at_ {α : Type} {k : Nat} {R : Rd α} {w : World} {B : Nat} {A : Option Addr} {xs : List α} (h : Sl k R w B A xs) {i : Nat} (hi : i < xs.length) :
    ∃ b off, A = some ⟨b, off, none⟩ ∧ b < B ∧ R w B b (off + i * k) xs[i] := by
  obtain ⟨b, off, hA, hlt, hx⟩ := h (by omega)
  exact ⟨b, off, hA, hlt, hx i _ (List.getElem?_eq_getElem hi)⟩

/-- An int cell. -/
def RInt : Rd Int := fun w _ b o x => w.cell? ⟨b, o, none⟩ = some (.int .i64 x)
theorem RInt.keeps : RInt.Keeps := fun _ _ _ _ b o _ _ hlt hb h => (hb.cell (p := ⟨b, o, none⟩) hlt).trans h

/-- What one call leaves: all cells that were there read as they did. -/
theorem cell_keep {W W' : World} {p : Addr} {v : Value} (hb : Below W.heap.size W W') (h : W.cell? p = some v) : W'.cell? p = some v :=
  (hb.cell (p := p) (World.block_lt_of_cell? W p h)).trans h

theorem keep0 {w1 W W' : World} (hb : Below W.heap.size W W') (h : Below w1.heap.size w1 W) : Below w1.heap.size w1 W' := h.trans (hb.mono h.size)
theorem keep1 {w1 W W' : World} {p1 : Addr} {v1 : Value} (hb : Below W.heap.size W W') (h : W.cell? p1 = some v1 ∧ Below w1.heap.size w1 W) : W'.cell? p1 = some v1 ∧ Below w1.heap.size w1 W' :=
  ⟨cell_keep hb h.1, keep0 hb h.2⟩
theorem keep2 {w1 W W' : World} {p1 p2 : Addr} {v1 v2 : Value} (hb : Below W.heap.size W W') (h : W.cell? p1 = some v1 ∧ W.cell? p2 = some v2 ∧ Below w1.heap.size w1 W) : W'.cell? p1 = some v1 ∧ W'.cell? p2 = some v2 ∧ Below w1.heap.size w1 W' :=
  ⟨cell_keep hb h.1, keep1 hb h.2⟩
theorem keep3 {w1 W W' : World} {p1 p2 p3 : Addr} {v1 v2 v3 : Value} (hb : Below W.heap.size W W') (h : W.cell? p1 = some v1 ∧ W.cell? p2 = some v2 ∧ W.cell? p3 = some v3 ∧ Below w1.heap.size w1 W) : W'.cell? p1 = some v1 ∧ W'.cell? p2 = some v2 ∧ W'.cell? p3 = some v3 ∧ Below w1.heap.size w1 W' :=
  ⟨cell_keep hb h.1, keep2 hb h.2⟩
theorem keep4 {w1 W W' : World} {p1 p2 p3 p4 : Addr} {v1 v2 v3 v4 : Value} (hb : Below W.heap.size W W') (h : W.cell? p1 = some v1 ∧ W.cell? p2 = some v2 ∧ W.cell? p3 = some v3 ∧ W.cell? p4 = some v4 ∧ Below w1.heap.size w1 W) : W'.cell? p1 = some v1 ∧ W'.cell? p2 = some v2 ∧ W'.cell? p3 = some v3 ∧ W'.cell? p4 = some v4 ∧ Below w1.heap.size w1 W' :=
  ⟨cell_keep hb h.1, keep3 hb h.2⟩


/-- A slice argument of length xs.length, capacity c. -/
structure Slc {α : Type} (k : Nat) (R : Rd α) (w : World) (A : Option Addr) (c : Nat) (xs : List α) : Prop where
  sl : Sl k R w w.heap.size A xs
  le : xs.length ≤ c
  big : c ≤ 9223372036854775807

theorem Slc.keep {α : Type} {k : Nat} {R : Rd α} (hR : R.Keeps) {w w' : World} {A : Option Addr} {c : Nat} {xs : List α} (h : Slc k R w A c xs) (hb : Below w.heap.size w w') : Slc k R w' A c xs :=
  ⟨h.sl.keep hR hb.size hb, h.le, h.big⟩

/-- What lies below n lies below n + 1, n + 1 + 1 ..: the walk asks it so. -/
theorem lt_steps {b n : Nat} (h : b < n) : b < n + 1 ∧ b < n + 1 + 1 ∧ b < n + 1 + 1 + 1 ∧ b < n + 1 + 1 + 1 + 1 ∧ b < n + 1 + 1 + 1 + 1 + 1 ∧ b < n + 1 + 1 + 1 + 1 + 1 + 1 := by omega


theorem own_block {A B : World} {base : Nat} {e : TypeId} {size : Nat} {v : Value} {m : Nat} {xs : List Value} (ho : A.ownsRow base e size v m xs) (h : ∀ k, base ≤ k → k < A.heap.size → some k = v.ownBlock → B.heap[k]? = A.heap[k]?) : B.ownsRow base e size v m xs := by
  refine ⟨ho.1, ?_⟩
  have hlt := ho.lt
  rcases ho.2 with hn | ⟨g, cap, cur, hv, hg, hh, rest⟩
  · exact .inl hn
  · have := hlt g (by rw [hv]; rfl)
    exact .inr ⟨g, cap, cur, hv, hg, (h g this.1 (Array.getElem?_eq_some_iff.1 hh).1 (by rw [hv]; rfl)).trans hh, rest⟩

theorem own_below {A B : World} {base : Nat} {e : TypeId} {size : Nat} {v : Value} {m : Nat} {xs : List Value} (ho : A.ownsRow base e size v m xs) (h : Below A.heap.size A B) : B.ownsRow base e size v m xs :=
  own_block ho (fun k _ hk _ => h.block k hk)
theorem add0 (g n : Nat) : (⟨g, 0, none⟩ : Addr).add n = ⟨g, n, none⟩ := by unfold Addr.add; split <;> simp_all
end Go.Proofs.YtmfdppgfbgjmcaaDoor
