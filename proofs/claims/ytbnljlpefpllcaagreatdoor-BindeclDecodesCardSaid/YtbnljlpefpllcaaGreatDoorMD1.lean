/-
  Parts of the proof: Base B1 E1 B2 B3 W1 W3 W4 B4 W5 G1 B5 B6.
-/
import Derived.Test.YtbnljlpefpllcaaGreatDoorProg
import Derived.WalkKit
import Derived.WalkSpells
import Derived.WalkLawsBesides
import Derived.Lib.Hide
import Derived.Deep.RegionHeld3
import Derived.Deep.DeepFit
import Derived.Deep.QuietTactic
import Derived.BigQuiet
import Derived.OwnWalk
import Derived.Maps.AppendAt
import Derived.Deep.DeepCutAuto
import Derived.StillTailTactics
import Derived.Laws.Bits64b
namespace Go.Proofs.YtbnljlpefpllcaaGreatDoor
open Go.RowKit
/-- What an element's reading at (block, offset) says of a world; B: all that it reaches lies below block B. -/
abbrev Rd (α : Type) := World → Nat → Nat → Nat → α → Prop
/-- A reading that is kept by every world that is the same below B. -/
def Rd.Keeps {α : Type} (R : Rd α) : Prop := ∀ (w w' : World) (B B' b o : Nat) (x : α), B ≤ B' → b < B → Below B w w' → R w B b o x → R w' B' b o x
/-- The slice at address A reads as xs: k cells an element. -/
def Sl {α : Type} (k : Nat) (R : Rd α) (w : World) (B : Nat) (A : Option Addr) (xs : List α) : Prop :=
  0 < xs.length → ∃ b off, A = some ⟨b, off, none⟩ ∧ b < B ∧ ∀ i x, xs[i]? = some x → R w B b (off + i * k) x
theorem Sl.keep {α : Type} {k : Nat} {R : Rd α} (hR : R.Keeps) {w w' : World} {B B' : Nat} {A : Option Addr} {xs : List α} (h : Sl k R w B A xs) (hB : B ≤ B') (hb : Below B w w') : Sl k R w' B' A xs := fun hn => by
  obtain ⟨b, off, hA, hlt, hx⟩ := h hn
  exact ⟨b, off, hA, by omega, fun i x hi => hR w w' B B' b _ x hB hlt hb (hx i x hi)⟩
/-- An empty slice, nil or not. -/
theorem Sl.nil {α : Type} {k : Nat} {R : Rd α} {w : World} {B : Nat} {A : Option Addr} : Sl k R w B A ([] : List α) := fun h => absurd h (by simp)
/-- Its cut 's[lo:]' (lo < cap) and 's[:hi]'. -/
theorem Sl.take {α : Type} {k : Nat} {R : Rd α} {w : World} {B : Nat} {A : Option Addr} {xs : List α} (h : Sl k R w B A xs) (n : Nat) : Sl k R w B A (xs.take n) := fun hn => by
  have hl : 0 < xs.length := by
    rw [List.length_take] at hn; omega
  obtain ⟨b, off, hA, hlt, hx⟩ := h hl
  refine ⟨b, off, hA, hlt, fun i x hi => hx i x ?_⟩
  rw [List.getElem?_take] at hi
  split at hi
  · exact hi
  · cases hi
theorem Sl.at_ {α : Type} {k : Nat} {R : Rd α} {w : World} {B : Nat} {A : Option Addr} {xs : List α} (h : Sl k R w B A xs) {i : Nat} (hi : i < xs.length) :
    ∃ b off, A = some ⟨b, off, none⟩ ∧ b < B ∧ R w B b (off + i * k) xs[i] := by
  obtain ⟨b, off, hA, hlt, hx⟩ := h (by omega)
  exact ⟨b, off, hA, hlt, hx i _ (List.getElem?_eq_getElem hi)⟩
/-- An int cell. -/
def RInt : Rd Int := fun w _ b o x => w.cell? ⟨b, o, none⟩ = some (.int .i64 x)
theorem RInt.keeps : RInt.Keeps := fun _ _ _ _ b o _ _ hlt hb h => (hb.cell (p := ⟨b, o, none⟩) hlt).trans h
/-- What one call leaves: all cells that were there read as they did. -/
theorem cell_keep {W W' : World} {p : Addr} {v : Value} (hb : Below W.heap.size W W') (h : W.cell? p = some v) : W'.cell? p = some v :=
  (hb.cell (p := p) (World.block_lt_of_cell? W p h)).trans h
theorem keep0 {w1 W W' : World} (hb : Below W.heap.size W W') (h : Below w1.heap.size w1 W) : Below w1.heap.size w1 W' := h.trans (hb.mono h.size)
/-- A slice argument of length xs.length, capacity c. -/
structure Slc {α : Type} (k : Nat) (R : Rd α) (w : World) (A : Option Addr) (c : Nat) (xs : List α) : Prop where
  sl : Sl k R w w.heap.size A xs
  le : xs.length ≤ c
  big : c ≤ 9223372036854775807
theorem Slc.keep {α : Type} {k : Nat} {R : Rd α} (hR : R.Keeps) {w w' : World} {A : Option Addr} {c : Nat} {xs : List α} (h : Slc k R w A c xs) (hb : Below w.heap.size w w') : Slc k R w' A c xs :=
  ⟨h.sl.keep hR hb.size hb, h.le, h.big⟩
/-- What lies below n lies below n + 1, n + 1 + 1 ..: the walk asks it so. -/
theorem lt_steps {b n : Nat} (h : b < n) : b < n + 1 ∧ b < n + 1 + 1 ∧ b < n + 1 + 1 + 1 ∧ b < n + 1 + 1 + 1 + 1 ∧ b < n + 1 + 1 + 1 + 1 + 1 ∧ b < n + 1 + 1 + 1 + 1 + 1 + 1 := by omega
theorem own_block {A B : World} {base : Nat} {e : TypeId} {size : Nat} {v : Value} {m : Nat} {xs : List Value} (ho : A.ownsRow base e size v m xs) (h : ∀ k, base ≤ k → k < A.heap.size → some k = v.ownBlock → B.heap[k]? = A.heap[k]?) : B.ownsRow base e size v m xs := by
  refine ⟨ho.1, ?_⟩
  have hlt := ho.lt
  rcases ho.2 with hn | ⟨g, cap, cur, hv, hg, hh, rest⟩
  · exact .inl hn
  · have := hlt g (by rw [hv]; rfl)
    exact .inr ⟨g, cap, cur, hv, hg, (h g this.1 (Array.getElem?_eq_some_iff.1 hh).1 (by rw [hv]; rfl)).trans hh, rest⟩
theorem own_below {A B : World} {base : Nat} {e : TypeId} {size : Nat} {v : Value} {m : Nat} {xs : List Value} (ho : A.ownsRow base e size v m xs) (h : Below A.heap.size A B) : B.ownsRow base e size v m xs :=
  own_block ho (fun k _ hk _ => h.block k hk)
theorem add0 (g n : Nat) : (⟨g, 0, none⟩ : Addr).add n = ⟨g, n, none⟩ := by unfold Addr.add; split <;> simp_all
/-! ## The data: types, locals, places, bodies -/
structure Pj where
  kind : Int
  field : Int
  deriving DecidableEq
structure Ty where
  kind : Int
  mu : Bool
  reg : Int
  elem : Int
  flds : List Int
  deriving DecidableEq
structure Lc where
  name : ByteArray
  type : Int
  deriving DecidableEq
structure Plc where
  loc : Int
  proj : List Pj
  deriving DecidableEq
structure Opd where
  kind : Int
  place : Plc
  n : Int
  deriving DecidableEq
structure Rvl where
  kind : Int
  op : Int
  reg : Int
  mu : Bool
  place : Plc
  args : List Opd
  deriving DecidableEq
structure Stm where
  kind : Int
  place : Plc
  rv : Rvl
  loc : Int
  deriving DecidableEq
structure Trm where
  kind : Int
  targets : List Int
  args : List Opd
  place : Plc
  name : ByteArray
  deriving DecidableEq
structure Blk where
  stmts : List Stm
  term : Trm
  deriving DecidableEq
structure Bdy where
  name : ByteArray
  regions : List ByteArray
  outl : List (Int × Int)
  types : List Ty
  locals : List Lc
  args : Int
  blocks : List Blk
  deriving DecidableEq
def RPj : Rd Pj := fun w _ b o x => w.cell? ⟨b, o, none⟩ = some (.int .i64 x.kind) ∧ w.cell? ⟨b, o + 1, none⟩ = some (.int .i64 x.field)
theorem RPj.keeps : RPj.Keeps := fun w w' B B' b o x _ hlt hb h => ⟨(hb.cell (p := ⟨b, o, none⟩) hlt).trans h.1, (hb.cell (p := ⟨b, o + 1, none⟩) hlt).trans h.2⟩
def RTy : Rd Ty := fun w B b o x => w.cell? ⟨b, o, none⟩ = some (.int .i64 x.kind) ∧ w.cell? ⟨b, o + 1, none⟩ = some (.bool x.mu) ∧ w.cell? ⟨b, o + 2, none⟩ = some (.int .i64 x.reg) ∧ w.cell? ⟨b, o + 3, none⟩ = some (.int .i64 x.elem) ∧
  ∃ A c, w.cell? ⟨b, o + 4, none⟩ = some (.slice A x.flds.length c) ∧ x.flds.length ≤ c ∧ c ≤ 9223372036854775807 ∧ Sl 1 RInt w B A x.flds
theorem RTy.keeps : RTy.Keeps := fun w w' B B' b o x hB hlt hb ⟨h0, h1, h2, h3, A, c, h4, hc, hm, hs⟩ =>
  ⟨(hb.cell (p := ⟨b, o, none⟩) hlt).trans h0, (hb.cell (p := ⟨b, o + 1, none⟩) hlt).trans h1, (hb.cell (p := ⟨b, o + 2, none⟩) hlt).trans h2, (hb.cell (p := ⟨b, o + 3, none⟩) hlt).trans h3,
   A, c, (hb.cell (p := ⟨b, o + 4, none⟩) hlt).trans h4, hc, hm, hs.keep RInt.keeps hB hb⟩
def RLc : Rd Lc := fun w _ b o x => w.cell? ⟨b, o, none⟩ = some (.string x.name) ∧ w.cell? ⟨b, o + 1, none⟩ = some (.int .i64 x.type)
theorem RLc.keeps : RLc.Keeps := fun w w' B B' b o x _ hlt hb h => ⟨(hb.cell (p := ⟨b, o, none⟩) hlt).trans h.1, (hb.cell (p := ⟨b, o + 1, none⟩) hlt).trans h.2⟩
/-- A slice in a cell. -/
def RSl {α : Type} (k : Nat) (R : Rd α) : Rd (List α) := fun w B b o xs =>
  ∃ A c, w.cell? ⟨b, o, none⟩ = some (.slice A xs.length c) ∧ xs.length ≤ c ∧ c ≤ 9223372036854775807 ∧ Sl k R w B A xs
theorem RSl.keeps {α : Type} {k : Nat} {R : Rd α} (hR : R.Keeps) : (RSl k R).Keeps := fun _ _ _ _ b o _ hB hlt hb ⟨A, c, h, hc, hm, hs⟩ =>
  ⟨A, c, (hb.cell (p := ⟨b, o, none⟩) hlt).trans h, hc, hm, hs.keep hR hB hb⟩
/-- A text in its cell. -/
def RN : Rd ByteArray := fun w _ b o x => w.cell? ⟨b, o, none⟩ = some (.string x)
theorem RN.keeps : RN.Keeps := fun _ _ _ _ b o _ _ hlt hb h => (hb.cell (p := ⟨b, o, none⟩) hlt).trans h
def RPr : Rd (Int × Int) := fun w _ b o x => w.cell? ⟨b, o, none⟩ = some (.int .i64 x.1) ∧ w.cell? ⟨b, o + 1, none⟩ = some (.int .i64 x.2)
theorem RPr.keeps : RPr.Keeps := fun _ _ _ _ b o _ _ hlt hb h => ⟨(hb.cell (p := ⟨b, o, none⟩) hlt).trans h.1, (hb.cell (p := ⟨b, o + 1, none⟩) hlt).trans h.2⟩
def RPl : Rd Plc := fun w B b o x => w.cell? ⟨b, o, none⟩ = some (.int .i64 x.loc) ∧ RSl 2 RPj w B b (o + 1) x.proj
theorem RPl.keeps : RPl.Keeps := fun w w' B B' b o x hB hlt hb h => ⟨(hb.cell (p := ⟨b, o, none⟩) hlt).trans h.1, RSl.keeps RPj.keeps w w' B B' b _ _ hB hlt hb h.2⟩
def ROp : Rd Opd := fun w B b o x => w.cell? ⟨b, o, none⟩ = some (.int .i64 x.kind) ∧ RPl w B b (o + 1) x.place ∧ w.cell? ⟨b, o + 3, none⟩ = some (.int .i64 x.n)
theorem ROp.keeps : ROp.Keeps := fun w w' B B' b o x hB hlt hb h =>
  ⟨(hb.cell (p := ⟨b, o, none⟩) hlt).trans h.1, RPl.keeps w w' B B' b _ _ hB hlt hb h.2.1, (hb.cell (p := ⟨b, o + 3, none⟩) hlt).trans h.2.2⟩
def RRv : Rd Rvl := fun w B b o x => w.cell? ⟨b, o, none⟩ = some (.int .i64 x.kind) ∧ w.cell? ⟨b, o + 1, none⟩ = some (.int .i64 x.op) ∧ w.cell? ⟨b, o + 2, none⟩ = some (.int .i64 x.reg) ∧ w.cell? ⟨b, o + 3, none⟩ = some (.bool x.mu) ∧
  RPl w B b (o + 4) x.place ∧ RSl 4 ROp w B b (o + 6) x.args
theorem RRv.keeps : RRv.Keeps := fun w w' B B' b o x hB hlt hb ⟨h0, h1, h2, h3, h4, h5⟩ =>
  ⟨(hb.cell (p := ⟨b, o, none⟩) hlt).trans h0, (hb.cell (p := ⟨b, o + 1, none⟩) hlt).trans h1, (hb.cell (p := ⟨b, o + 2, none⟩) hlt).trans h2, (hb.cell (p := ⟨b, o + 3, none⟩) hlt).trans h3,
   RPl.keeps w w' B B' b _ _ hB hlt hb h4, RSl.keeps ROp.keeps w w' B B' b _ _ hB hlt hb h5⟩
def RSt : Rd Stm := fun w B b o x => w.cell? ⟨b, o, none⟩ = some (.int .i64 x.kind) ∧ RPl w B b (o + 1) x.place ∧ RRv w B b (o + 3) x.rv ∧ w.cell? ⟨b, o + 10, none⟩ = some (.int .i64 x.loc)
theorem RSt.keeps : RSt.Keeps := fun w w' B B' b o x hB hlt hb ⟨h0, h1, h2, h3⟩ =>
  ⟨(hb.cell (p := ⟨b, o, none⟩) hlt).trans h0, RPl.keeps w w' B B' b _ _ hB hlt hb h1, RRv.keeps w w' B B' b _ _ hB hlt hb h2, (hb.cell (p := ⟨b, o + 10, none⟩) hlt).trans h3⟩
def RTm : Rd Trm := fun w B b o x => w.cell? ⟨b, o, none⟩ = some (.int .i64 x.kind) ∧ RSl 1 RInt w B b (o + 1) x.targets ∧ RSl 4 ROp w B b (o + 2) x.args ∧ RPl w B b (o + 3) x.place ∧ w.cell? ⟨b, o + 5, none⟩ = some (.string x.name)
theorem RTm.keeps : RTm.Keeps := fun w w' B B' b o x hB hlt hb ⟨h0, h1, h2, h3, h4⟩ =>
  ⟨(hb.cell (p := ⟨b, o, none⟩) hlt).trans h0, RSl.keeps RInt.keeps w w' B B' b _ _ hB hlt hb h1, RSl.keeps ROp.keeps w w' B B' b _ _ hB hlt hb h2, RPl.keeps w w' B B' b _ _ hB hlt hb h3, (hb.cell (p := ⟨b, o + 5, none⟩) hlt).trans h4⟩
def RBk : Rd Blk := fun w B b o x => RSl 11 RSt w B b o x.stmts ∧ RTm w B b (o + 1) x.term
theorem RBk.keeps : RBk.Keeps := fun w w' B B' b o x hB hlt hb h => ⟨RSl.keeps RSt.keeps w w' B B' b _ _ hB hlt hb h.1, RTm.keeps w w' B B' b _ _ hB hlt hb h.2⟩
/-- Where the lists of a body lie. -/
structure BH where
  A1 : Option Addr
  c1 : Nat
  A2 : Option Addr
  c2 : Nat
  A3 : Option Addr
  c3 : Nat
  A4 : Option Addr
  c4 : Nat
  A5 : Option Addr
  c5 : Nat
/-- A body's cells. -/
def bdC (b : Bdy) (h : BH) : List Value := [.string b.name, .slice h.A1 b.regions.length h.c1, .slice h.A2 b.outl.length h.c2, .slice h.A3 b.types.length h.c3, .slice h.A4 b.locals.length h.c4, .int .i64 b.args, .slice h.A5 b.blocks.length h.c5]
structure BdAt (w : World) (b : Bdy) (h : BH) : Prop where
  reg : Slc 1 RN w h.A1 h.c1 b.regions
  out : Slc 2 RPr w h.A2 h.c2 b.outl
  typ : Slc 5 RTy w h.A3 h.c3 b.types
  loc : Slc 2 RLc w h.A4 h.c4 b.locals
  blk : Slc 7 RBk w h.A5 h.c5 b.blocks
theorem BdAt.keep {w w' : World} {b : Bdy} {h : BH} (H : BdAt w b h) (hb : Below w.heap.size w w') : BdAt w' b h :=
  ⟨H.reg.keep RN.keeps hb, H.out.keep RPr.keeps hb, H.typ.keep RTy.keeps hb, H.loc.keep RLc.keeps hb, H.blk.keep RBk.keeps hb⟩
end Go.Proofs.YtbnljlpefpllcaaGreatDoor
namespace Go.Proofs.YtbnljlpefpllcaaGreatDoor
open Go
/-- Reads a number from the k-th byte on, n being what the bytes before gave: the number, the bytes read in all, the error. -/
def getG : Nat → Nat → List UInt8 → Nat × Nat × Int
  | _, _, [] => (0, 0, 4)
  | k, n, c :: r =>
    if k = 9 ∧ 1 < c.toNat then (0, 0, 6)
    else if c.toNat < 128 then (if 0 < k ∧ c.toNat = 0 then (0, 0, 5) else (n + c.toNat * 2 ^ (7 * k), k + 1, 0))
    else getG (k + 1) (n + (c.toNat - 128) * 2 ^ (7 * k)) r
def getL (l : List UInt8) : Nat × Nat × Int := getG 0 0 l
theorem getG_nil (k n : Nat) : getG k n [] = (0, 0, 4) := rfl
theorem getG_cons (k n : Nat) (c : UInt8) (r : List UInt8) : getG k n (c :: r) = (if k = 9 ∧ 1 < c.toNat then (0, 0, 6)
    else if c.toNat < 128 then (if 0 < k ∧ c.toNat = 0 then (0, 0, 5) else (n + c.toNat * 2 ^ (7 * k), k + 1, 0))
    else getG (k + 1) (n + (c.toNat - 128) * 2 ^ (7 * k)) r) := rfl
/-- What is read lies in the list; the number is a number of 64 bits. -/
theorem getG_ok : ∀ (l : List UInt8) (k n : Nat), k ≤ 9 → n < 2 ^ (7 * k) → (getG k n l).2.2 = 0 →
    k < (getG k n l).2.1 ∧ (getG k n l).2.1 ≤ k + l.length ∧ (getG k n l).2.1 ≤ 10 ∧ (getG k n l).1 < 2 ^ 64
  | [], k, n, _, _, h => by simp [getG_nil] at h
  | c :: r, k, n, hk, hn, h => by
    have hc : c.toNat < 256 := c.toNat_lt
    rw [getG_cons] at h ⊢
    by_cases h1 : k = 9 ∧ 1 < c.toNat
    · rw [if_pos h1] at h
      cases h
    rw [if_neg h1] at h ⊢
    by_cases h2 : c.toNat < 128
    · rw [if_pos h2] at h ⊢
      by_cases h3 : 0 < k ∧ c.toNat = 0
      · rw [if_pos h3] at h
        cases h
      rw [if_neg h3]
      refine ⟨Nat.lt_succ_self _, by simp only [List.length_cons]; omega, by simp only; omega, ?_⟩
      show n + c.toNat * 2 ^ (7 * k) < 2 ^ 64
      by_cases hk9 : k = 9
      · subst hk9
        have : c.toNat ≤ 1 := by omega
        have : c.toNat * 2 ^ (7 * 9) ≤ 1 * 2 ^ (7 * 9) := Nat.mul_le_mul_right _ this
        omega
      · have hp : 2 ^ (7 * k) ≤ 2 ^ 56 := Nat.pow_le_pow_right (by omega) (by omega)
        have : c.toNat * 2 ^ (7 * k) ≤ 127 * 2 ^ 56 := Nat.mul_le_mul (by omega) hp
        omega
    · rw [if_neg h2] at h ⊢
      have hk9 : k < 9 := by
        rcases Nat.lt_or_ge k 9 with h | h
        · exact h
        · exact absurd ⟨by omega, by omega⟩ h1
      have hn2 : n + (c.toNat - 128) * 2 ^ (7 * k) < 2 ^ (7 * (k + 1)) := by
        have e : 2 ^ (7 * (k + 1)) = 128 * 2 ^ (7 * k) := by rw [show 7 * (k + 1) = 7 + 7 * k by omega, Nat.pow_add]
        have : (c.toNat - 128) * 2 ^ (7 * k) ≤ 127 * 2 ^ (7 * k) := Nat.mul_le_mul_right _ (by omega)
        omega
      obtain ⟨a, b, d, e⟩ := getG_ok r (k + 1) _ (by omega) hn2 h
      exact ⟨by omega, by simp only [List.length_cons]; omega, d, e⟩
/-- The reader's state: what is left, and the first error; behind an error nothing is left. -/
structure Rs where
  rest : List UInt8
  err : Int
def failS (e : Int) (s : Rs) : Rs := if s.err = 0 then ⟨[], e⟩ else s
def byteS (s : Rs) : Nat × Rs :=
  if s.err = 0 then (match s.rest with
    | [] => (0, ⟨[], 4⟩)
    | c :: r => (c.toNat, ⟨r, 0⟩))
  else (0, s)
def uintS (most : Nat) (s : Rs) : Nat × Rs :=
  if s.err = 0 then
    (if (getL s.rest).2.2 = 0 then (if most < (getL s.rest).1 then (0, ⟨[], 15⟩) else ((getL s.rest).1, ⟨s.rest.drop (getL s.rest).2.1, 0⟩)) else (0, ⟨[], (getL s.rest).2.2⟩))
  else (0, s)
def countS (most : Nat) (s : Rs) : Nat × Rs :=
  if s.err = 0 then
    (if (getL s.rest).2.2 = 0 then
      (if most < (getL s.rest).1 then (0, ⟨[], 15⟩) else if (s.rest.drop (getL s.rest).2.1).length < (getL s.rest).1 then (0, ⟨[], 4⟩) else ((getL s.rest).1, ⟨s.rest.drop (getL s.rest).2.1, 0⟩))
     else (0, ⟨[], (getL s.rest).2.2⟩))
  else (0, s)
def nameS (tbl : List ByteArray) (s : Rs) : ByteArray × Rs :=
  if (uintS 65535 s).2.err = 0 then (match tbl[(uintS 65535 s).1]? with
    | some t => (t, (uintS 65535 s).2)
    | none => (ByteArray.empty, ⟨[], 20⟩))
  else (ByteArray.empty, (uintS 65535 s).2)
/-- n items, one after the other; where one fails, none. -/
def itemsS {α : Type} (f : Rs → α × Rs) : Nat → Rs → List α × Rs
  | 0, s => ([], s)
  | n + 1, s => if (f s).2.err = 0 then ((f s).1 :: (itemsS f n (f s).2).1, (itemsS f n (f s).2).2) else ([], (f s).2)
/-- A list with its length ahead. -/
def listS {α : Type} (f : Rs → α × Rs) (s : Rs) : List α × Rs := itemsS f (countS 65535 s).1 (countS 65535 s).2
def numS (s : Rs) : Int × Rs := (((uintS 65535 s).1 : Int), (uintS 65535 s).2)
def pairS (s : Rs) : (Int × Int) × Rs := (((numS s).1, (numS (numS s).2).1), (numS (numS s).2).2)
/-- A type. -/
def typeS (s : Rs) : Ty × Rs :=
  if (byteS s).2.err = 0 then
    (if (byteS s).1 = 3 ∨ (byteS s).1 = 5 then (⟨3, (byteS s).1 == 5, (pairS (byteS s).2).1.1, (pairS (byteS s).2).1.2, []⟩, (pairS (byteS s).2).2)
     else if (byteS s).1 = 4 then (⟨4, false, 0, 0, (listS numS (byteS s).2).1⟩, (listS numS (byteS s).2).2)
     else if 5 < (byteS s).1 then (⟨0, false, 0, 0, []⟩, ⟨[], 14⟩)
     else (⟨(byteS s).1, false, 0, 0, []⟩, (byteS s).2))
  else (⟨0, false, 0, 0, []⟩, (byteS s).2)
def localS (tbl : List ByteArray) (s : Rs) : Lc × Rs := (⟨(nameS tbl s).1, (numS (nameS tbl s).2).1⟩, (numS (nameS tbl s).2).2)
def endS (s : Rs) : Int := if s.err = 0 then (if 0 < s.rest.length then 11 else 0) else s.err
/-- The whole part. -/
def bodyS (tbl : List ByteArray) (s : Rs) : Bdy × Rs :=
  let a := nameS tbl s
  let b := listS (nameS tbl) a.2
  let c := listS pairS b.2
  let d := listS typeS c.2
  let e := listS (localS tbl) d.2
  let f := numS e.2
  (⟨a.1, b.1, c.1, d.1, e.1, f.1, []⟩, f.2)
def noBody : Bdy := ⟨ByteArray.empty, [], [], [], [], 0, []⟩
def decS (tbl : List ByteArray) (data : List UInt8) : Bdy × Int :=
  if endS (bodyS tbl ⟨data, 0⟩).2 = 0 then ((bodyS tbl ⟨data, 0⟩).1, 0) else (noBody, endS (bodyS tbl ⟨data, 0⟩).2)
end Go.Proofs.YtbnljlpefpllcaaGreatDoor
namespace Go.Proofs.YtbnljlpefpllcaaGreatDoor
open Go Go.RowKit
def putF : Nat → Nat → List UInt8
  | 0, n => [n.toUInt8]
  | f + 1, n => if n < 128 then [n.toUInt8] else (n % 128 + 128).toUInt8 :: putF f (n / 128)
/-- The encoding of a number. -/
def putL (n : Nat) : List UInt8 := putF 10 n
theorem putF_small {f n : Nat} (h : n < 128) : putF f n = [n.toUInt8] := by
  cases f with
  | zero => rfl
  | succ f => rw [putF, if_pos h]
theorem putF_big {f n : Nat} (h : ¬ n < 128) : putF (f + 1) n = (n % 128 + 128).toUInt8 :: putF f (n / 128) := by rw [putF, if_neg h]
end Go.Proofs.YtbnljlpefpllcaaGreatDoor
namespace Go.Proofs.YtbnljlpefpllcaaGreatDoor
open Go Go.RowKit
/-- A byte in its cell. -/
def RB : Rd UInt8 := fun w _ b o x => w.cell? ⟨b, o, none⟩ = some (.int .u8 x.toNat)
theorem RB.keeps : RB.Keeps := fun _ _ _ _ b o _ _ hlt hb h => (hb.cell (p := ⟨b, o, none⟩) hlt).trans h
theorem get_step {k n : Nat} {c : UInt8} {r : List UInt8} (h1 : ¬ (k = 9 ∧ 1 < c.toNat)) (h2 : ¬ c.toNat < 128) : getG k n (c :: r) = getG (k + 1) (n + (c.toNat - 128) * 2 ^ (7 * k)) r := by
  rw [getG_cons, if_neg h1, if_neg h2]
theorem pow_step (k : Nat) : 2 ^ (7 * (k + 1)) = 2 ^ (7 * k) * 128 := by rw [show 7 * (k + 1) = 7 * k + 7 by omega, Nat.pow_add]
set_option maxRecDepth 100000 in
set_option maxHeartbeats 4000000 in
theorem rget_any (xs : List UInt8) (A : Option Addr) (c : Nat) (w : World) (hs : Slc 1 RB w A c xs) (hl : xs.length ≤ 1000000) :
    Calls Tryz.prog 145 #[.slice A xs.length c, .int .i64 0] w fun e' w' => e' = .returned (.tuple #[.int .u64 (getL xs).1, .int .i64 (getL xs).2.1, .int .i64 (getL xs).2.2]) ∧ Below w.heap.size w w' := by
  have HS := Lib.hid hs
  have hle := hs.le
  have hbig := hs.big
  clear hs
  obtain ⟨R, hR⟩ : ∃ R, getL xs = R := ⟨_, rfl⟩
  rw [hR]
  have HR := Lib.hid hR
  clear hR
  go_enter Tryz.func145, Tryz.ntmps145
  go_wp2_with fail
  go_loopw [7, 8, 9] (fun n u k wr => ∃ (j m : Nat), j ≤ xs.length ∧ j ≤ 9 ∧ k = .int .i64 j ∧ n = .int .u64 m ∧ m < 2 ^ (7 * j) ∧ u = .int .u64 ((2 ^ (7 * j) : Nat) : Int) ∧ Hid (R = getG j m (xs.drop j)) ∧ Hid (Below w.heap.size w wr)) (fun _ _ k _ => xs.length - (intOf k).toNat)
  case atStart => exact ⟨0, 0, by omega, by omega, rfl, rfl, by decide, rfl, Lib.hid HR.out.symm, Lib.hid (Below.refl _ _)⟩
  case round =>
    obtain ⟨j, m, hj, hj9, rfl, rfl, hm, rfl, HG, HB⟩ := hrel
    by_cases hlt : j < xs.length
    case neg =>
      have hje : j = xs.length := by omega
      have HE : Hid (R = (0, 0, 4)) := Lib.hid (by rw [HG.out, hje, List.drop_length, getG_nil])
      clear HG hm HS
      go_wp2_with fail
      refine bodyPost_ret (v := .tuple #[.int .u64 0, .int .i64 0, .int .i64 4]) (by simp [results, Tryz.results145, go_sem] <;> rfl) rfl ⟨by rw [HE.out]; rfl, HB.out⟩
    case pos =>
      have hd : xs.drop j = xs[j] :: xs.drop (j + 1) := List.drop_eq_getElem_cons hlt
      obtain ⟨b, o, rfl, hb', x0⟩ := (HS.out.keep RB.keeps HB.out).sl.at_ hlt
      obtain ⟨c0, hc0⟩ : ∃ c0, xs[j] = c0 := ⟨_, rfl⟩
      rw [hc0] at hd
      have x0' : wr.cell? ⟨b, o + j, none⟩ = some (.int .u8 c0.toNat) := by rw [← hc0]; simpa [RB] using x0
      clear x0
      have hcb : c0.toNat < 256 := c0.toNat_lt
      rw [hd] at HG
      obtain ⟨y, hy⟩ : ∃ y, c0.toNat = y := ⟨_, rfl⟩
      have HY := Lib.hid hy
      rw [hy] at x0' hcb
      by_cases h1 : j = 9 ∧ 1 < y
      · obtain ⟨rfl, h1y⟩ := h1
        have HE : Hid (R = (0, 0, 6)) := Lib.hid (by rw [HG.out, getG_cons, HY.out, if_pos ⟨rfl, h1y⟩])
        have e1 : (1 : Int) < (y : Int) := by omega
        clear HG hm HS hd hy hc0
        go_wp2_with fail
        refine bodyPost_ret (v := .tuple #[.int .u64 0, .int .i64 0, .int .i64 6]) (by simp [results, Tryz.results145, go_sem] <;> rfl) rfl ⟨by rw [HE.out]; rfl, HB.out⟩
      · have h2 : ¬ (j = 9 ∧ 1 < c0.toNat) := by rw [HY.out]; exact h1
        obtain ⟨U, hU⟩ : ∃ U : Nat, 2 ^ (7 * j) = U := ⟨_, rfl⟩
        have hUb : U ≤ 9223372036854775808 := by
          rw [← hU]
          exact show 2 ^ (7 * j) ≤ 2 ^ 63 from Nat.pow_le_pow_right (by omega) (by omega)
        have hU8 : j ≤ 8 → U ≤ 72057594037927936 := fun h => by
          rw [← hU]
          exact show 2 ^ (7 * j) ≤ 2 ^ 56 from Nat.pow_le_pow_right (by omega) (by omega)
        rw [hU] at hm ⊢
        by_cases hlo : y < 128
        · by_cases h0 : 0 < j ∧ y = 0
          · have HE : Hid (R = (0, 0, 5)) := Lib.hid (by rw [HG.out, getG_cons, if_neg h2, HY.out, if_pos hlo, if_pos h0])
            obtain ⟨hj0, rfl⟩ := h0
            clear HG HS hd hy hc0 h1 h2
            go_wp2_with fail
            all_goals
              refine bodyPost_ret (v := .tuple #[.int .u64 0, .int .i64 0, .int .i64 5]) (by simp [results, Tryz.results145, go_sem] <;> rfl) rfl ⟨by rw [HE.out]; rfl, HB.out⟩
          · have HE : Hid (R = (m + y * U, j + 1, 0)) := Lib.hid (by rw [HG.out, getG_cons, if_neg h2, HY.out, if_pos hlo, if_neg h0, hU])
            have hym : y * U + m < 18446744073709551616 := by
              by_cases h9 : j = 9
              · have : y * U ≤ 1 * U := Nat.mul_le_mul_right _ (by omega)
                omega
              · have : y * U ≤ 127 * U := Nat.mul_le_mul_right _ (by omega)
                have := hU8 (by omega)
                omega
            have HV : Hid (IntKind.u64.wrap ((m : Int) + IntKind.u64.wrap ((y : Int) % 128 * (U : Int))) = ((m + y * U : Nat) : Int)) := Lib.hid (by
              rw [show (y : Int) % 128 = y by omega, show (y : Int) * U = ((y * U : Nat) : Int) by simp]
              generalize y * U = q at *
              rw [IntKind.wrap_u64, IntKind.wrap_u64]
              omega)
            clear HG HS hd hy hc0 h2 hym hU8
            rcases (show j = 9 ∨ j ≤ 8 by omega) with rfl | h8
            · have e1 : ¬ (1 : Int) < (y : Int) := by omega
              clear h1
              go_wp2_with fail
              all_goals
                refine bodyPost_ret (v := .tuple #[.int .u64 (IntKind.u64.wrap ((m : Int) + IntKind.u64.wrap ((y : Int) % 128 * (U : Int)))), .int .i64 10, .int .i64 0]) (by simp [results, Tryz.results145, go_sem] <;> rfl) rfl ⟨by rw [HE.out, HV.out]; rfl, HB.out⟩
            · have e9 : ((j : Int) == 9) = false := by simp; omega
              clear h1
              go_wp2_with fail
              all_goals
                refine bodyPost_ret (v := .tuple #[.int .u64 (IntKind.u64.wrap ((m : Int) + IntKind.u64.wrap ((y : Int) % 128 * (U : Int)))), .int .i64 ((j : Int) + 1), .int .i64 0]) (by simp [results, Tryz.results145, go_sem] <;> rfl) rfl ⟨by rw [HE.out, HV.out]; rfl, HB.out⟩
        · have h8 : j ≤ 8 := by omega
          have HE : Hid (R = getG (j + 1) (m + (y - 128) * U) (xs.drop (j + 1))) := Lib.hid (by rw [HG.out, get_step h2 (by rw [HY.out]; exact hlo), HY.out, hU])
          have hym : (y - 128) * U ≤ 127 * U := Nat.mul_le_mul_right _ (by omega)
          have h56 := hU8 h8
          have HV : Hid (IntKind.u64.wrap ((m : Int) + IntKind.u64.wrap ((y : Int) % 128 * (U : Int))) = ((m + (y - 128) * U : Nat) : Int)) := Lib.hid (by
            rw [show (y : Int) % 128 = ((y - 128 : Nat) : Int) by omega, show ((y - 128 : Nat) : Int) * U = (((y - 128) * U : Nat) : Int) by simp]
            generalize (y - 128) * U = q at *
            rw [IntKind.wrap_u64, IntKind.wrap_u64]
            omega)
          have HM : Hid (m + (y - 128) * U < 2 ^ (7 * (j + 1))) := Lib.hid (by rw [pow_step, hU]; omega)
          have HU : Hid (((2 ^ (7 * (j + 1)) : Nat) : Int) = (U : Int) * 128) := Lib.hid (by rw [pow_step, hU]; simp)
          have e9 : ((j : Int) == 9) = false := by simp; omega
          clear HG hd hy hc0 h2 hym hU8 h1 hU
          go_wp2_with fail
          all_goals
            go_roundw
            case rel => exact ⟨j + 1, m + (y - 128) * U, by omega, by omega, by go_num, by rw [HV.out], HM.out, by rw [HU.out], HE, HB⟩
            case measure => simp [intOf]; omega
end Go.Proofs.YtbnljlpefpllcaaGreatDoor
namespace Go.Proofs.YtbnljlpefpllcaaGreatDoor
open Go Go.RowKit
/-- All that was there is as it was, but for block g. -/
structure But (g : Nat) (w w' : World) : Prop where
  os : w'.os = w.os
  tape : w'.tape = w.tape
  output : w'.output = w.output
  size : w.heap.size ≤ w'.heap.size
  block : ∀ k, k < w.heap.size → k ≠ g → w'.heap[k]? = w.heap[k]?
theorem But.refl (g : Nat) (w : World) : But g w w := ⟨rfl, rfl, rfl, Nat.le_refl _, fun _ _ _ => rfl⟩
theorem But.trans {g : Nat} {a b c : World} (h : But g a b) (h2 : But g b c) : But g a c :=
  ⟨h2.os.trans h.os, h2.tape.trans h.tape, h2.output.trans h.output, Nat.le_trans h.size h2.size, fun k hk hg => (h2.block k (Nat.lt_of_lt_of_le hk h.size) hg).trans (h.block k hk hg)⟩
theorem But.of_below {g : Nat} {a b : World} (h : Below a.heap.size a b) : But g a b := ⟨h.os, h.tape, h.output, h.size, fun k hk _ => h.block k hk⟩
theorem But.below {g B : Nat} {a b : World} (h : But g a b) (hg : B ≤ g) (hB : B ≤ a.heap.size) : Below B a b :=
  ⟨h.os, h.tape, h.output, h.size, fun k hk => h.block k (by omega) (by omega)⟩
theorem but_set {g : Nat} {a b : World} (h : But g a b) (o : Nat) (v : Value) : But g a (b.setCell ⟨g, o, none⟩ v) :=
  ⟨h.os, h.tape, h.output, by simpa [World.setCell] using h.size, fun k hk hg => (Below.heap_setCell b ⟨g, o, none⟩ v k hg).trans (h.block k hk hg)⟩
theorem prw_put0 {w : World} {k : Nat} {a b : Value} {t : TypeId} (x : Value) (h : w.heap[k]? = some (.cells #[a, b] t)) : (w.setCell ⟨k, 0, none⟩ x).heap[k]? = some (.cells #[x, b] t) := by
  simp [World.setCell, Array.getElem?_modify, h]
theorem prw_put1 {w : World} {k : Nat} {a b : Value} {t : TypeId} (x : Value) (h : w.heap[k]? = some (.cells #[a, b] t)) : (w.setCell ⟨k, 1, none⟩ x).heap[k]? = some (.cells #[a, x] t) := by
  simp [World.setCell, Array.getElem?_modify, h]
/-- The reference's reader at block g: what is left, and the error. -/
def RRd (w : World) (g : Nat) (s : Rs) : Prop := ∃ (A : Option Addr) (c : Nat), w.heap[g]? = some (.cells #[.slice A s.rest.length c, .int .i64 s.err] 109) ∧ Slc 1 RB w A c s.rest ∧ (∀ a, A = some a → 0 < s.rest.length → a.block < g)
set_option maxRecDepth 100000 in
set_option maxHeartbeats 4000000 in
theorem rfail_any (g : Nat) (s : Rs) (e : Int) (w : World) (hr : RRd w g s) :
    Calls Tryz.prog 97 #[.pointer (some ⟨g, 0, none⟩), .int .i64 e] w fun e' w' => e' = .returned (.tuple #[]) ∧ RRd w' g ⟨[], e⟩ ∧ But g w w' := by
  obtain ⟨A, c, hg, hs, hd⟩ := hr
  have hlt : g < w.heap.size := (Array.getElem?_eq_some_iff.1 hg).1
  have HG := Lib.hid hg
  have HS := Lib.hid hs
  clear hs hd
  have x0 : w.cell? ⟨g, 0, none⟩ = some (.slice A s.rest.length c) := by simp [World.cell?, hg]
  have x1 : w.cell? ⟨g, 1, none⟩ = some (.int .i64 s.err) := by simp [World.cell?, hg]
  have f0 : w.frozen? ⟨g, 0, none⟩ = false := by simp [World.frozen?, hg]
  have f1 : w.frozen? ⟨g, 1, none⟩ = false := by simp [World.frozen?, hg]
  clear hg
  go_enter Tryz.func97, Tryz.ntmps97
  go_wp2_with fail
  refine bodyPost_end (v := .tuple #[]) (by simp [results, Tryz.results97, go_sem] <;> rfl) rfl ⟨rfl, ⟨none, 0, ?_, ⟨Sl.nil, by simp, by omega⟩, fun a h => by cases h⟩, but_set (but_set (But.refl _ _) _ _) _ _⟩
  exact prw_put0 _ (prw_put1 _ HG.out)
end Go.Proofs.YtbnljlpefpllcaaGreatDoor
namespace Go.Proofs.YtbnljlpefpllcaaGreatDoor
open Go.RowKit
/-- What Check answers for a list of projections. -/
def chkP : List Pj → Int
  | [] => 0
  | x :: r => if x.kind ≠ 0 ∧ x.kind ≠ 1 then 14 else if x.kind = 0 ∧ x.field ≠ 0 then 2 else if x.field < 0 then 3 else chkP r
/-- What Check answers. -/
def chk (l : Int) (ps : List Pj) : Int := if l < 0 then 3 else if 32 < ps.length then 19 else chkP ps
theorem drop_cons {α : Type} {l : List α} {k : Nat} (h : k < l.length) : l.drop k = l[k] :: l.drop (k + 1) := List.drop_eq_getElem_cons h
theorem ret_i {k : IntKind} {a b : Int} (h : a = b) : Ending.returned (.int k a) = .returned (.int k b) := by rw [h]
set_option maxHeartbeats 1000000 in
theorem check_any (l : Int) (A : Option Addr) (c : Nat) (ps : List Pj) (w : World) (h : Slc 2 RPj w A c ps) :
    Calls Tryz.prog 233 #[.agg #[.int .i64 l, .slice A ps.length c]] w fun e w' => e = .returned (.int .i64 (chk l ps)) ∧ Below w.heap.size w w' := by
  obtain ⟨hs, hle, hbig⟩ := h
  by_cases h1 : l < 0
  · go_enter Tryz.func233, Tryz.ntmps233
    go_wp2
    go_ret
    exact ⟨ret_i (by simp [chk, h1]), (Below.refl _ _).alloc (Nat.le_refl _) _⟩
  by_cases h2 : 32 < ps.length
  · go_enter Tryz.func233, Tryz.ntmps233
    go_wp2
    go_ret
    exact ⟨ret_i (by simp [chk, h1, h2]), (Below.refl _ _).alloc (Nat.le_refl _) _⟩
  have hz : Hid (chk l ps = chkP (ps.drop 0)) := Lib.hid (by simp [chk, h1, h2])
  go_enter Tryz.func233, Tryz.ntmps233
  go_wp2
  go_loopw [17] (fun v wr => ∃ k : Nat, k ≤ ps.length ∧ v = .int .i64 k ∧ Below w.heap.size w wr ∧ Hid (chk l ps = chkP (ps.drop k))) (fun v _ => ps.length - (intOf v).toNat)
  case atStart => exact ⟨0, by omega, rfl, (Below.refl _ _).alloc (Nat.le_refl _) _, hz⟩
  case round =>
    obtain ⟨k, hk, rfl, hB, he⟩ := hrel
    clear hz
    by_cases hlt : k < ps.length
    · obtain ⟨b, off, rfl, hb, hr⟩ := hs.at_ hlt
      have hd := Lib.hid (drop_cons hlt)
      generalize ps[k] = x at hr hd
      obtain ⟨g1, g2⟩ := RPj.keeps _ _ _ w.heap.size _ _ _ (Nat.le_refl _) hb hB hr
      have hsz := hB.size
      clear hr hs
      by_cases c1 : x.kind = 0
      · by_cases c2 : x.field = 0
        · have t1 : (x.kind == 0) = true := by simp [c1]
          have t2 : (x.kind != 0) = false := by simp [c1]
          have t3 : (x.field != 0) = false := by simp [c2]
          have c3 : ¬ x.field < 0 := by omega
          have he' : Hid (chk l ps = chkP (ps.drop (k + 1))) := Lib.hid (by rw [he.out, hd.out, chkP, if_neg (by simp [c1]), if_neg (by simp [c2]), if_neg c3])
          clear he hd c1 c2
          go_wp2
          go_roundw
          case rel => exact ⟨k + 1, by omega, by go_num, hB.alloc hsz _, he'⟩
          case measure => simp [intOf]; omega
        · have t1 : (x.kind == 0) = true := by simp [c1]
          have t2 : (x.kind != 0) = false := by simp [c1]
          have t3 : (x.field != 0) = true := by simp [c2]
          have hfin : Hid (chk l ps = 2) := Lib.hid (by rw [he.out, hd.out, chkP, if_neg (by simp [c1]), if_pos (by simp [c1, c2])])
          clear he hd c1 c2
          go_wp2
          go_ret
          exact ⟨ret_i hfin.out.symm, hB.alloc hsz _⟩
      · by_cases c2 : x.kind = 1
        · have t1 : (x.kind == 0) = false := by simp [c1]
          have t2 : (x.kind != 0) = true := by simp [c1]
          have t3 : (x.kind != 1) = false := by simp [c2]
          by_cases c3 : x.field < 0
          · have hfin : Hid (chk l ps = 3) := Lib.hid (by rw [he.out, hd.out, chkP, if_neg (by simp [c2]), if_neg (by simp [c1]), if_pos c3])
            clear he hd c1 c2
            go_wp2
            go_ret
            exact ⟨ret_i hfin.out.symm, hB.alloc hsz _⟩
          · have he' : Hid (chk l ps = chkP (ps.drop (k + 1))) := Lib.hid (by rw [he.out, hd.out, chkP, if_neg (by simp [c2]), if_neg (by simp [c1]), if_neg c3])
            clear he hd c1 c2
            go_wp2
            go_roundw
            case rel => exact ⟨k + 1, by omega, by go_num, hB.alloc hsz _, he'⟩
            case measure => simp [intOf]; omega
        · have t2 : (x.kind != 0) = true := by simp [c1]
          have t3 : (x.kind != 1) = true := by simp [c2]
          have hfin : Hid (chk l ps = 14) := Lib.hid (by rw [he.out, hd.out, chkP, if_pos ⟨c1, c2⟩])
          clear he hd c1 c2
          go_wp2
          go_ret
          exact ⟨ret_i hfin.out.symm, hB.alloc hsz _⟩
    · have hd : ps.drop k = [] := List.drop_eq_nil_of_le (by omega)
      have hfin : Hid (chk l ps = 0) := Lib.hid (by rw [he.out, hd, chkP])
      clear he hd hs
      go_wp2
      go_ret
      exact ⟨ret_i hfin.out.symm, hB⟩
end Go.Proofs.YtbnljlpefpllcaaGreatDoor
namespace Go.Proofs.YtbnljlpefpllcaaGreatDoor
open Go.RowKit
theorem take_succ_eq {α : Type} {xs ys : List α} {k : Nat} (h : xs.take k = ys.take k) (h1 : k < xs.length) (h2 : k < ys.length) (he : xs[k] = ys[k]) : xs.take (k + 1) = ys.take (k + 1) := by
  rw [List.take_succ_eq_append_getElem h1, List.take_succ_eq_append_getElem h2, h, he]
theorem ne_of_at {α : Type} {xs ys : List α} {k : Nat} (h1 : k < xs.length) (h2 : k < ys.length) (he : ¬ xs[k] = ys[k]) : ¬ xs = ys := by
  rintro rfl; exact he rfl
theorem eq_of_take {α : Type} {xs ys : List α} {k : Nat} (h : xs.take k = ys.take k) (h1 : xs.length ≤ k) (hl : xs.length = ys.length) : xs = ys := by
  rw [List.take_of_length_le h1, List.take_of_length_le (by omega)] at h; exact h
theorem below_of_drewN {w wr : World} (h : ∃ q, wr = w.drewN q) : Below w.heap.size w wr := by
  obtain ⟨q, rfl⟩ := h
  exact below_drewN (Below.refl _ _) q
theorem drewN_more {w wr : World} (h : ∃ q, wr = w.drewN q) (n : Nat) : ∃ q, wr.drewN n = w.drewN q := by
  obtain ⟨q, rfl⟩ := h
  exact ⟨q + n, World.drewN_drewN ..⟩
theorem ret_b {a b : Bool} (h : a = b) : Ending.returned (.bool a) = .returned (.bool b) := by rw [h]
/-- The first place at which p holds, counted from k; -1 if there is none. -/
def idxF {α : Type} (p : α → Bool) : Nat → List α → Int
  | _, [] => -1
  | k, x :: r => if p x = true then k else idxF p (k + 1) r
theorem idxF_any {α : Type} (p : α → Bool) : ∀ (xs : List α) (k : Nat), decide (0 ≤ idxF p k xs) = xs.any p
  | [], k => by simp [idxF]
  | x :: r, k => by
    rw [idxF, List.any_cons]
    by_cases h : p x = true
    · simp [h]
    · rw [if_neg h, idxF_any p r (k + 1)]; simp [h]
/-- Is the projection a dereference? -/
def isD (x : Pj) : Bool := x.kind == 0
/-- Is the type no mutable reference? -/
def notMu (t : Ty) : Bool := !t.mu
set_option maxHeartbeats 400000 in
theorem der_any (x : Pj) (w : World) (B b o : Nat) (_h : RPj w B b o x) :
    Calls Tryz.prog 184 #[.agg #[.int .i64 x.kind, .int .i64 x.field]] w fun e w' => e = .returned (.bool (isD x)) ∧ Below w.heap.size w w' := by
  go_enter Tryz.func184, Tryz.ntmps184
  go_wp2
  go_ret
  exact ⟨rfl, (Below.refl _ _).alloc (Nat.le_refl _) _⟩
theorem der_fit {P : Prop} (h : P) : P := h
/-- A type by value: its cells. -/
def tyAgg (t : Ty) (A : Option Addr) (c : Nat) : Value := .agg #[.int .i64 t.kind, .bool t.mu, .int .i64 t.reg, .int .i64 t.elem, .slice A t.flds.length c]
set_option maxHeartbeats 400000 in
theorem mut_any0 (t : Ty) (A : Option Addr) (c : Nat) (w : World) :
    Calls Tryz.prog 212 #[.agg #[.int .i64 t.kind, .bool t.mu, .int .i64 t.reg, .int .i64 t.elem, .slice A t.flds.length c]] w fun e w' => e = .returned (.bool (notMu t)) ∧ Below w.heap.size w w' := by
  go_enter Tryz.func212, Tryz.ntmps212
  go_wp2
  go_ret
  exact ⟨rfl, (Below.refl _ _).alloc (Nat.le_refl _) _⟩
theorem mut_any (t : Ty) (w : World) (B b o : Nat) (_h : RTy w B b o t) : ∀ (A : Option Addr) (c : Nat),
    Calls Tryz.prog 212 #[.agg #[.int .i64 t.kind, .bool t.mu, .int .i64 t.reg, .int .i64 t.elem, .slice A t.flds.length c]] w fun e w' => e = .returned (.bool (notMu t)) ∧ Below w.heap.size w w' := fun A c => mut_any0 t A c w
theorem mut_fit {P : Option Addr → Nat → Prop} {A : Option Addr} {c : Nat} (h : ∀ A c, P A c) : P A c := h A c
set_option maxHeartbeats 1000000 in
theorem eqInt_any (A B : Option Addr) (c d : Nat) (xs ys : List Int) (w : World) (hx : Slc 1 RInt w A c xs) (hy : Slc 1 RInt w B d ys) :
    Calls Tryz.prog 228 #[.slice A xs.length c, .slice B ys.length d] w fun e w' => e = .returned (.bool (decide (xs = ys))) ∧ ∃ q, w' = w.drewN q := by
  obtain ⟨hs, hle, hbig⟩ := hx
  obtain ⟨hs2, hle2, hbig2⟩ := hy
  by_cases hl : xs.length = ys.length
  · have t0 : ((xs.length : Int) != (ys.length : Int)) = false := by simp [hl]
    have HL := Lib.hid hl
    clear hl
    go_enter Tryz.func228, Tryz.ntmps228
    go_wp2
    go_loopw [13] (fun v wr => ∃ k : Nat, k ≤ xs.length ∧ v = .int .i64 k ∧ (∃ q, wr = w.drewN q) ∧ Hid (xs.take k = ys.take k)) (fun v _ => xs.length - (intOf v).toNat)
    case atStart => exact ⟨0, by omega, rfl, ⟨0, rfl⟩, Lib.hid (by simp)⟩
    case round =>
      obtain ⟨k, hk, rfl, hq, he⟩ := hrel
      have hB : Below w.heap.size w wr := below_of_drewN hq
      have hQ := Lib.hid hq
      clear hq
      by_cases hlt : k < xs.length
      · have hlt2 : k < ys.length := by have := HL.out; omega
        obtain ⟨b, off, rfl, hb, hr⟩ := hs.at_ hlt
        obtain ⟨b2, off2, rfl, hb2, hr2⟩ := hs2.at_ hlt2
        obtain g1 := RInt.keeps _ _ _ w.heap.size _ _ _ (Nat.le_refl _) hb hB hr
        obtain h1 := RInt.keeps _ _ _ w.heap.size _ _ _ (Nat.le_refl _) hb2 hB hr2
        unfold RInt at g1 h1
        rw [Nat.mul_one] at g1 h1
        have hyes := Lib.hid (fun h => take_succ_eq he.out hlt hlt2 h)
        have hno := Lib.hid (ne_of_at hlt hlt2)
        clear he hr hr2
        generalize xs[k] = x at *
        generalize ys[k] = y at *
        clear hs hs2
        by_cases hxy : x = y
        · have hne : (x != y) = false := by simp [hxy]
          have hyes' := Lib.hid (hyes.out hxy)
          clear hyes hno hxy
          go_wp2
          go_quiet (fail)
          go_wp2
          go_roundw
          case rel => exact ⟨k + 1, by omega, by go_num, drewN_more hQ.out _, hyes'⟩
          case measure => simp [intOf]; omega
        · have hne : (x != y) = true := by simp [hxy]
          have hno' := Lib.hid (hno.out hxy)
          clear hyes hno hxy
          go_wp2
          go_quiet (fail)
          go_wp2
          go_ret
          exact ⟨ret_b (by simp [hno'.out]), drewN_more hQ.out _⟩
      · have hfin := Lib.hid (eq_of_take he.out (by omega) HL.out)
        clear he hs hs2
        go_wp2
        go_ret
        exact ⟨ret_b (by simp [hfin.out]), hQ.out⟩
  · have t0 : ((xs.length : Int) != (ys.length : Int)) = true := by simp; omega
    have hfin : Hid (¬ xs = ys) := Lib.hid (fun h => hl (by rw [h]))
    go_enter Tryz.func228, Tryz.ntmps228
    go_wp2
    go_ret
    exact ⟨ret_b (by simp [hfin.out]), 0, rfl⟩
set_option maxHeartbeats 1000000 in
theorem der_index (A : Option Addr) (c : Nat) (xs : List Pj) (w : World) (hx : Slc 2 RPj w A c xs) :
    Calls Tryz.prog 220 #[.slice A xs.length c, .func (.func 184) #[] #[]] w fun e w' => e = .returned (.int .i64 (idxF isD 0 xs)) ∧ Below w.heap.size w w' := by
  obtain ⟨hs, hle, hbig⟩ := hx
  have hz : Hid (idxF isD 0 xs = idxF isD 0 (xs.drop 0)) := Lib.hid (by simp)
  go_enter Tryz.func220, Tryz.ntmps220
  go_wp2
  go_loopw [8] (fun v wr => ∃ k : Nat, k ≤ xs.length ∧ v = .int .i64 k ∧ Below w.heap.size w wr ∧ Hid (idxF isD 0 xs = idxF isD k (xs.drop k))) (fun v _ => xs.length - (intOf v).toNat)
  case atStart => exact ⟨0, by omega, rfl, Below.refl _ _, hz⟩
  case round =>
    clear hz
    obtain ⟨k, hk, rfl, hB, he⟩ := hrel
    by_cases hlt : k < xs.length
    · obtain ⟨b, off, rfl, hb, hr⟩ := hs.at_ hlt
      have hd := Lib.hid (drop_cons hlt)
      have hsz := hB.size
      have hr' := RPj.keeps _ _ _ w.heap.size _ _ _ (Nat.le_refl _) hb hB hr
      generalize xs[k] = x at hr hr' hd
      clear hr hs
      by_cases hp : isD x = true
      · have hfin : Hid (idxF isD 0 xs = k) := Lib.hid (by rw [he.out, hd.out, idxF, if_pos hp])
        have hC := der_any x wr w.heap.size b (off + k * 2) hr'
        rw [hp] at hC
        obtain ⟨g1, g2⟩ := hr'
        have HC := Lib.hid hC
        clear he hd hp hC
        go_wp2_with (go_at_call 184; refine (der_fit HC.out).mono ?_; rintro e w' ⟨rfl, hb1⟩)
        go_ret
        exact ⟨ret_i hfin.out.symm, hB.trans (hb1.mono hsz)⟩
      · have he' : Hid (idxF isD 0 xs = idxF isD (k + 1) (xs.drop (k + 1))) := Lib.hid (by rw [he.out, hd.out, idxF, if_neg hp])
        simp only [Bool.not_eq_true] at hp
        have hC := der_any x wr w.heap.size b (off + k * 2) hr'
        rw [hp] at hC
        obtain ⟨g1, g2⟩ := hr'
        have HC := Lib.hid hC
        clear he hd hp hC
        go_wp2_with (go_at_call 184; refine (der_fit HC.out).mono ?_; rintro e w' ⟨rfl, hb1⟩)
        go_roundw
        case rel => exact ⟨k + 1, by omega, by go_num, hB.trans (hb1.mono hsz), he'⟩
        case measure => simp [intOf]; omega
    · have hd : xs.drop k = [] := List.drop_eq_nil_of_le (by omega)
      have hfin : Hid (idxF isD 0 xs = -1) := Lib.hid (by rw [he.out, hd, idxF])
      clear he hd hs
      go_wp2
      go_ret
      exact ⟨ret_i hfin.out.symm, hB⟩
set_option maxHeartbeats 1000000 in
theorem der_contains (A : Option Addr) (c : Nat) (xs : List Pj) (w : World) (hx : Slc 2 RPj w A c xs) :
    Calls Tryz.prog 183 #[.slice A xs.length c, .func (.func 184) #[] #[]] w fun e w' => e = .returned (.bool (xs.any isD)) ∧ Below w.heap.size w w' := by
  have hC := Lib.hid (der_index A c xs w hx)
  have hfin := Lib.hid (idxF_any isD xs 0)
  clear hx
  go_enter Tryz.func183, Tryz.ntmps183
  go_wp2_with (go_at_call 220; refine hC.out.mono ?_; rintro e w' ⟨rfl, hb1⟩)
  go_ret
  exact ⟨ret_b (by rw [← hfin.out]), hb1⟩
set_option maxHeartbeats 1000000 in
theorem mut_index (A : Option Addr) (c : Nat) (xs : List Ty) (w : World) (hx : Slc 5 RTy w A c xs) :
    Calls Tryz.prog 207 #[.slice A xs.length c, .func (.func 212) #[] #[]] w fun e w' => e = .returned (.int .i64 (idxF notMu 0 xs)) ∧ Below w.heap.size w w' := by
  obtain ⟨hs, hle, hbig⟩ := hx
  have hz : Hid (idxF notMu 0 xs = idxF notMu 0 (xs.drop 0)) := Lib.hid (by simp)
  go_enter Tryz.func207, Tryz.ntmps207
  go_wp2
  go_loopw [8] (fun v wr => ∃ k : Nat, k ≤ xs.length ∧ v = .int .i64 k ∧ Below w.heap.size w wr ∧ Hid (idxF notMu 0 xs = idxF notMu k (xs.drop k))) (fun v _ => xs.length - (intOf v).toNat)
  case atStart => exact ⟨0, by omega, rfl, Below.refl _ _, hz⟩
  case round =>
    clear hz
    obtain ⟨k, hk, rfl, hB, he⟩ := hrel
    by_cases hlt : k < xs.length
    · obtain ⟨b, off, rfl, hb, hr⟩ := hs.at_ hlt
      have hd := Lib.hid (drop_cons hlt)
      have hsz := hB.size
      have hr' := RTy.keeps _ _ _ w.heap.size _ _ _ (Nat.le_refl _) hb hB hr
      generalize xs[k] = x at hr hr' hd
      clear hr hs
      by_cases hp : notMu x = true
      · have hfin : Hid (idxF notMu 0 xs = k) := Lib.hid (by rw [he.out, hd.out, idxF, if_pos hp])
        have hC := mut_any x wr w.heap.size b (off + k * 5) hr'
        rw [hp] at hC
        obtain ⟨g1, g2, g3, g4, gA, gc, g5, gl, gm, gs⟩ := hr'
        have HC := Lib.hid hC
        clear he hd hp hC
        go_wp2_with (go_at_call 212; refine (mut_fit HC.out).mono ?_; rintro e w' ⟨rfl, hb1⟩)
        go_ret
        exact ⟨ret_i hfin.out.symm, hB.trans (hb1.mono hsz)⟩
      · have he' : Hid (idxF notMu 0 xs = idxF notMu (k + 1) (xs.drop (k + 1))) := Lib.hid (by rw [he.out, hd.out, idxF, if_neg hp])
        simp only [Bool.not_eq_true] at hp
        have hC := mut_any x wr w.heap.size b (off + k * 5) hr'
        rw [hp] at hC
        obtain ⟨g1, g2, g3, g4, gA, gc, g5, gl, gm, gs⟩ := hr'
        have HC := Lib.hid hC
        clear he hd hp hC
        go_wp2_with (go_at_call 212; refine (mut_fit HC.out).mono ?_; rintro e w' ⟨rfl, hb1⟩)
        go_roundw
        case rel => exact ⟨k + 1, by omega, by go_num, hB.trans (hb1.mono hsz), he'⟩
        case measure => simp [intOf]; omega
    · have hd : xs.drop k = [] := List.drop_eq_nil_of_le (by omega)
      have hfin : Hid (idxF notMu 0 xs = -1) := Lib.hid (by rw [he.out, hd, idxF])
      clear he hd hs
      go_wp2
      go_ret
      exact ⟨ret_i hfin.out.symm, hB⟩
set_option maxHeartbeats 1000000 in
theorem mut_contains (A : Option Addr) (c : Nat) (xs : List Ty) (w : World) (hx : Slc 5 RTy w A c xs) :
    Calls Tryz.prog 211 #[.slice A xs.length c, .func (.func 212) #[] #[]] w fun e w' => e = .returned (.bool (xs.any notMu)) ∧ Below w.heap.size w w' := by
  have hC := Lib.hid (mut_index A c xs w hx)
  have hfin := Lib.hid (idxF_any notMu xs 0)
  clear hx
  go_enter Tryz.func211, Tryz.ntmps211
  go_wp2_with (go_at_call 207; refine hC.out.mono ?_; rintro e w' ⟨rfl, hb1⟩)
  go_ret
  exact ⟨ret_b (by rw [← hfin.out]), hb1⟩
end Go.Proofs.YtbnljlpefpllcaaGreatDoor
namespace Go.Proofs.YtbnljlpefpllcaaGreatDoor
open Go.RowKit
theorem bel2 (w : World) (o o' : Obj) : Below w.heap.size w ((w.alloc o).alloc o') := ((Below.refl _ _).alloc (Nat.le_refl _) _).alloc (by simp) _
theorem Slc.takeN {α : Type} {k : Nat} {R : Rd α} {w : World} {A : Option Addr} {c : Nat} {xs : List α} (h : Slc k R w A c xs) (n : Nat) : Slc k R w A c (xs.take n) :=
  ⟨h.sl.take n, by have := h.le; rw [List.length_take]; omega, h.big⟩
/-- Is there a dereference from a projection on? -/
def hasD (ps : List Pj) (n : Int) : Bool := (ps.drop n.toNat).any isD
/-- Where 's[lo:]' begins. -/
def cutA (A : Option Addr) (c j k : Nat) : Option Addr := if c = j then A else A.map (·.add (j * k))
theorem Slc.dropN {α : Type} {k : Nat} {R : Rd α} {w : World} {A : Option Addr} {c : Nat} {xs : List α} (h : Slc k R w A c xs) (j : Nat) (hj : j ≤ xs.length) : Slc k R w (cutA A c j k) (c - j) (xs.drop j) := by
  refine ⟨fun hn => ?_, by have := h.le; rw [List.length_drop]; omega, by have := h.big; omega⟩
  rw [List.length_drop] at hn
  have hle := h.le
  obtain ⟨b, off, rfl, hb, hx⟩ := h.sl (by omega)
  refine ⟨b, off + j * k, ?_, hb, fun i x hi => ?_⟩
  · unfold cutA
    rw [if_neg (by omega)]
    simp only [Option.map_some, Addr.add]
    split
    · rename_i h0; rw [h0]; simp
    · rfl
  · rw [List.getElem?_drop] at hi
    have := hx _ x hi
    rw [Nat.add_mul, ← Nat.add_assoc] at this
    exact this
theorem run_cut {P : Program} (t e : TypeId) (A : Option Addr) (n c j k : Nat) (ht : P.underlying t = some (.slice e)) (hk : ∀ w, (sizeOf e).run P w = .ok k w) (hj : j ≤ n) (w : World) :
    (Instr.slice t (.slice A n c) (some (.int .i64 (j : Int))) none none).run P w = .ok (.slice (cutA A c j k) (n - j) (c - j)) w := by
  have hb := run_sliceBound (P := P) (w := w) .i64 (j : Int) n .sliceB (by omega) (by omega)
  simp only [Int.toNat_natCast] at hb
  simp [Instr.slice, run_underlying ht, Instr.sliceBounds, hb, hk, cutA]
set_option maxHeartbeats 1000000 in
theorem hasD_core (l : Int) (len : Nat) (n : Int) (jj : Int) (A : Option Addr) (c : Nat) (w : World) (A' : Option Addr) (m c' : Nat) (r : Bool) (hlen : len ≤ 9223372036854775807)
    (hsl : ∀ W, (Instr.slice 53 (.slice A len c) (some (.int .i64 jj)) none none).run Tryz.prog W = .ok (.slice A' m c') W)
    (HC : Hid (Calls Tryz.prog 183 #[.slice A' m c', .func (.func 184) #[] #[]] (w.alloc (.cells #[.int .i64 l, .slice A len c] 55)) fun e w' => e = .returned (.bool r) ∧ Below (w.alloc (.cells #[.int .i64 l, .slice A len c] 55)).heap.size (w.alloc (.cells #[.int .i64 l, .slice A len c] 55)) w'))
    (hn : (n < 0 ∧ jj = 0) ∨ (0 ≤ n ∧ n ≤ len ∧ jj = n) ∨ (len < n ∧ jj = len)) :
    Calls Tryz.prog 133 #[.agg #[.int .i64 l, .slice A len c], .int .i64 n] w fun e w' => e = .returned (.bool r) ∧ Below w.heap.size w w' := by
  have hB : Below w.heap.size w (w.alloc (.cells #[.int .i64 l, .slice A len c] 55)) := (Below.refl _ _).alloc (Nat.le_refl _) _
  rcases hn with ⟨h1, h2⟩ | ⟨h1, h2, h3⟩ | ⟨h1, h2⟩
  · subst h2
    go_enter Tryz.func133, Tryz.ntmps133
    go_wp2_with (go_at_call 183; refine HC.out.mono ?_; rintro e w' ⟨rfl, hb1⟩)
    go_ret
    exact ⟨rfl, hB.trans (hb1.mono hB.size)⟩
  · subst h3
    go_enter Tryz.func133, Tryz.ntmps133
    go_wp2_with (go_at_call 183; refine HC.out.mono ?_; rintro e w' ⟨rfl, hb1⟩)
    go_ret
    exact ⟨rfl, hB.trans (hb1.mono hB.size)⟩
  · subst h2
    go_enter Tryz.func133, Tryz.ntmps133
    go_wp2_with (go_at_call 183; refine HC.out.mono ?_; rintro e w' ⟨rfl, hb1⟩)
    go_ret
    exact ⟨rfl, hB.trans (hb1.mono hB.size)⟩
theorem hasD_at (l : Int) (ps : List Pj) (n : Int) (j : Nat) (A : Option Addr) (c : Nat) (w : World) (hx : Slc 2 RPj w A c ps) (hj : j ≤ ps.length) (hn : (n < 0 ∧ j = 0) ∨ (0 ≤ n ∧ n ≤ ps.length ∧ n = j) ∨ (ps.length < n ∧ j = ps.length)) :
    Calls Tryz.prog 133 #[.agg #[.int .i64 l, .slice A ps.length c], .int .i64 n] w fun e w' => e = .returned (.bool ((ps.drop j).any isD)) ∧ Below w.heap.size w w' := by
  have hle := hx.le
  have hbig := hx.big
  have hB : Below w.heap.size w (w.alloc (.cells #[.int .i64 l, .slice A ps.length c] 55)) := (Below.refl _ _).alloc (Nat.le_refl _) _
  have hC := der_contains (cutA A c j 2) (c - j) (ps.drop j) _ ((hx.dropN j hj).keep RPj.keeps hB)
  rw [List.length_drop] at hC
  exact hasD_core l ps.length n j A c w _ _ _ _ (by omega) (run_cut (P := Tryz.prog) 53 215 A ps.length c j 2 Tryz.underlying53 Tryz.sizeOf215 hj) (Lib.hid hC) (by omega)
theorem hasD_any (p : Plc) (n : Int) (A : Option Addr) (c : Nat) (w : World) (hx : Slc 2 RPj w A c p.proj) :
    Calls Tryz.prog 133 #[.agg #[.int .i64 p.loc, .slice A p.proj.length c], .int .i64 n] w fun e w' => e = .returned (.bool (hasD p.proj n)) ∧ Below w.heap.size w w' := by
  unfold hasD
  rcases Int.lt_or_le n 0 with h | h
  · have h0 : n.toNat = 0 := by omega
    rw [h0]
    exact hasD_at p.loc p.proj n 0 A c w hx (by omega) (.inl ⟨h, rfl⟩)
  · by_cases h1 : n ≤ p.proj.length
    · exact hasD_at p.loc p.proj n n.toNat A c w hx (by omega) (.inr (.inl ⟨h, h1, by omega⟩))
    · have h0 : p.proj.drop n.toNat = p.proj.drop p.proj.length := by rw [List.drop_eq_nil_of_le (by omega), List.drop_length]
      rw [h0]
      exact hasD_at p.loc p.proj n p.proj.length A c w hx (by omega) (.inr (.inr ⟨by omega, rfl⟩))
end Go.Proofs.YtbnljlpefpllcaaGreatDoor
namespace Go.Proofs.YtbnljlpefpllcaaGreatDoor
open Go Go.RowKit
theorem RRd.keep {w w' : World} {g : Nat} {s : Rs} (h : RRd w g s) (hb : Below w.heap.size w w') : RRd w' g s := by
  obtain ⟨A, c, hg, hs, hd⟩ := h
  exact ⟨A, c, (hb.block g (Array.getElem?_eq_some_iff.1 hg).1).trans hg, hs.keep RB.keeps hb, hd⟩
theorem set_cell_other {w : World} {g o b i : Nat} (v : Value) (h : b ≠ g) : (w.setCell ⟨g, o, none⟩ v).cell? ⟨b, i, none⟩ = w.cell? ⟨b, i, none⟩ := by
  have := Below.heap_setCell w ⟨g, o, none⟩ v b h
  simp only [World.cell?, this]
theorem cut_block {A : Option Addr} {c j k g : Nat} (h : ∀ a, A = some a → a.block < g) : ∀ a, cutA A c j k = some a → a.block < g := by
  intro a ha
  unfold cutA at ha
  split at ha
  · exact h a ha
  · cases A with
    | none => cases ha
    | some x =>
      simp at ha
      subst ha
      have := h x rfl
      unfold Addr.add
      split <;> exact this
theorem slc_set {w : World} {A : Option Addr} {c g q : Nat} {l : List UInt8} (v : Value) (h : Slc 1 RB w A c l) (hne : ∀ a, A = some a → 0 < l.length → a.block < g) : Slc 1 RB (w.setCell ⟨g, q, none⟩ v) A c l := by
  refine ⟨fun hp => ?_, h.le, h.big⟩
  obtain ⟨b, o, rfl, hb, hr⟩ := h.sl hp
  refine ⟨b, o, rfl, by simpa [World.setCell] using hb, fun i x hx => ?_⟩
  show (w.setCell ⟨g, q, none⟩ v).cell? ⟨b, o + i * 1, none⟩ = _
  rw [set_cell_other v (Nat.ne_of_lt (hne _ rfl hp))]
  exact hr i x hx
def numberS (s : Rs) : Nat × Rs :=
  if s.err = 0 then (if (getL s.rest).2.2 = 0 then ((getL s.rest).1, ⟨s.rest.drop (getL s.rest).2.1, 0⟩) else (0, ⟨[], (getL s.rest).2.2⟩)) else (0, s)
set_option maxRecDepth 100000 in
set_option maxHeartbeats 4000000 in
theorem rnumber_any (g : Nat) (s : Rs) (w : World) (hr : RRd w g s) (hl : s.rest.length ≤ 1000000) :
    Calls Tryz.prog 96 #[.pointer (some ⟨g, 0, none⟩)] w fun e' w' => e' = .returned (.int .u64 (numberS s).1) ∧ RRd w' g (numberS s).2 ∧ But g w w' := by
  obtain ⟨l, er⟩ := s
  obtain ⟨A, c, hg, hs, hd⟩ := hr
  simp only at hl hg hs
  have hlt : g < w.heap.size := (Array.getElem?_eq_some_iff.1 hg).1
  have x0 : w.cell? ⟨g, 0, none⟩ = some (.slice A l.length c) := by simp [World.cell?, hg]
  have x1 : w.cell? ⟨g, 1, none⟩ = some (.int .i64 er) := by simp [World.cell?, hg]
  have HW : Hid (RRd w g ⟨l, er⟩) := Lib.hid ⟨A, c, hg, hs, hd⟩
  by_cases he : er = 0
  case neg =>
    have HN : Hid (numberS ⟨l, er⟩ = (0, ⟨l, er⟩)) := Lib.hid (by unfold numberS; rw [if_neg he])
    clear hg hs hd
    have e1 : (er == 0) = false := by simp [he]
    have e2 : (er != 0) = true := by simp [he]
    go_enter Tryz.func96, Tryz.ntmps96
    go_wp2_with fail
    go_ret
    exact ⟨by rw [HN.out]; rfl, by rw [HN.out]; exact HW.out, But.refl _ _⟩
  case pos =>
    subst he
    have HG := Lib.hid hg
    have HS := Lib.hid hs
    have HD := Lib.hid hd
    have hc := hs.le
    have HGT := Lib.hid (rget_any l A c w hs hl)
    have HN : Hid (numberS ⟨l, 0⟩ = if (getL l).2.2 = 0 then ((getL l).1, ⟨l.drop (getL l).2.1, 0⟩) else (0, ⟨[], (getL l).2.2⟩)) := Lib.hid (by unfold numberS; rw [if_pos rfl])
    have hok := getG_ok l 0 0 (by omega) (by omega)
    change (getL l).2.2 = 0 → _ < (getL l).2.1 ∧ (getL l).2.1 ≤ _ ∧ (getL l).2.1 ≤ _ ∧ (getL l).1 < _ at hok
    generalize getL l = G at *
    obtain ⟨v, to', er⟩ := G
    simp only at hok HN HGT
    clear hg hs hd
    go_enter Tryz.func96, Tryz.ntmps96
    by_cases he : er = 0
    case neg =>
      rw [if_neg he] at HN
      have e1 : (er == 0) = false := by simp [he]
      have e2 : (er != 0) = true := by simp [he]
      clear hok
      go_wp2_with (first
        | (go_at_call 145; refine HGT.out.mono ?_; rintro e' w1 ⟨rfl, hb1⟩)
        | fail)
      go_at_call 97
      refine (rfail_any g ⟨l, 0⟩ er w1 (HW.out.keep hb1)).mono ?_
      rintro e' w2 ⟨rfl, hr2, hb2⟩
      have HR2 := Lib.hid hr2
      have HB2 := Lib.hid ((But.of_below (g := g) hb1).trans hb2)
      clear hr2 hb2 hb1
      go_wp2_with fail
      go_ret
      exact ⟨by rw [HN.out]; rfl, by rw [HN.out]; exact HR2.out, HB2.out⟩
    case pos =>
      subst he
      rw [if_pos rfl] at HN
      obtain ⟨h1, h2, h3, h4⟩ := hok rfl
      have hcut := run_cut (P := Tryz.prog) 34 5 A l.length c to' 1 Tryz.underlying34 Tryz.sizeOf5 (by omega)
      obtain ⟨A', hA⟩ : ∃ A', cutA A c to' 1 = A' := ⟨_, rfl⟩
      rw [hA] at hcut
      have HA := Lib.hid hA
      clear hok hA
      go_wp2_with (go_at_call 145; refine HGT.out.mono ?_; rintro e' w1 ⟨rfl, hb1⟩; have y0 := cell_keep hb1 x0; have z0 : w1.frozen? ⟨g, 0, none⟩ = false := (by simp [World.frozen?, hb1.block g hlt, HG.out]); have HB1 := Lib.hid hb1; clear hb1)
      go_ret
      refine ⟨by rw [HN.out]; rfl, ?_, but_set (But.of_below HB1.out) _ _⟩
      rw [HN.out]
      have hne : ∀ a, A' = some a → 0 < (l.drop to').length → a.block < g := fun a ha hp => (by rw [← HA.out] at ha; exact cut_block (fun a h => HD.out a h (by rw [List.length_drop] at hp; omega)) a ha)
      refine ⟨A', c - to', ?_, slc_set _ (by rw [← HA.out]; exact (HS.out.keep RB.keeps HB1.out).dropN to' (by omega)) hne, hne⟩
      refine (prw_put0 _ ((HB1.out.block g hlt).trans HG.out)).trans ?_
      simp [List.length_drop]
end Go.Proofs.YtbnljlpefpllcaaGreatDoor
namespace Go.Proofs.YtbnljlpefpllcaaGreatDoor
open Go.RowKit
/-- The type of a component of t: its index and an error. -/
def prT (t : Ty) (x : Pj) : Int × Int :=
  if x.kind = 0 ∧ t.kind = 3 then (t.elem, 0)
  else if x.kind = 1 ∧ t.kind = 4 then (if x.field < t.flds.length then (t.flds.getD x.field.toNat 0, 0) else (0, 3))
  else (0, 22)
set_option maxHeartbeats 2000000 in
theorem project_any (ts : List Ty) (i : Nat) (t : Ty) (x : Pj) (A : Option Addr) (c : Nat) (w : World) (hx : Slc 5 RTy w A c ts) (hi : i < ts.length) (ht : ts[i] = t) (hf : x.kind = 1 → 0 ≤ x.field) :
    Calls Tryz.prog 234 #[.slice A ts.length c, .int .i64 i, .agg #[.int .i64 x.kind, .int .i64 x.field]] w fun e w' => e = .returned (.agg #[.int .i64 (prT t x).1, .int .i64 (prT t x).2]) ∧ Below w.heap.size w w' := by
  obtain ⟨hs, hle, hbig⟩ := hx
  obtain ⟨b, off, rfl, hb, hr⟩ := hs.at_ hi
  rw [ht] at hr
  clear ht hs
  obtain ⟨g1, g2, g3, g4, A2, c2, g5, hl2, hm2, hs2⟩ := hr
  by_cases h0 : x.kind = 0
  · have t1 : (x.kind == 0) = true := by simp [h0]
    have t1' : (x.kind == 1) = false := by simp [h0]
    by_cases h1 : t.kind = 3
    · have e1 : Hid ((prT t x).1 = t.elem) := Lib.hid (by simp [prT, h0, h1])
      have e2 : Hid ((prT t x).2 = 0) := Lib.hid (by simp [prT, h0, h1])
      have t2 : (t.kind == 3) = true := by simp [h1]
      clear h0 h1 hs2 hf
      go_enter Tryz.func234, Tryz.ntmps234
      go_wp2
      exact bodyPost_ret (by simp [results, Tryz.results234, go_sem]; rfl) rfl ⟨by rw [e1.out, e2.out], by (repeat (first | exact Below.refl _ _ | assumption | refine Below.alloc ?_ (by first | omega | (simp; done) | (simp; omega)) _ | refine below_drewN ?_ _ | refine Below.drew ?_ | refine Below.setCell ?_ (by first | omega | (simp; done) | (simp; omega)) _))⟩
    · have e1 : Hid ((prT t x).1 = 0) := Lib.hid (by simp [prT, h0, h1])
      have e2 : Hid ((prT t x).2 = 22) := Lib.hid (by simp [prT, h0, h1])
      have t2 : (t.kind == 3) = false := by simp [h1]
      clear h0 h1 hs2 hf
      go_enter Tryz.func234, Tryz.ntmps234
      go_wp2
      exact bodyPost_ret (by simp [results, Tryz.results234, go_sem]; rfl) rfl ⟨by rw [e1.out, e2.out], by (repeat (first | exact Below.refl _ _ | assumption | refine Below.alloc ?_ (by first | omega | (simp; done) | (simp; omega)) _ | refine below_drewN ?_ _ | refine Below.drew ?_ | refine Below.setCell ?_ (by first | omega | (simp; done) | (simp; omega)) _))⟩
  · have t1 : (x.kind == 0) = false := by simp [h0]
    by_cases h1 : x.kind = 1
    · have t1' : (x.kind == 1) = true := by simp [h1]
      have hf0 := hf h1
      by_cases h2 : t.kind = 4
      · have t2 : (t.kind == 4) = true := by simp [h2]
        by_cases h3 : x.field < t.flds.length
        · obtain ⟨kd, fd⟩ := x
          simp only [] at *
          obtain ⟨j, rfl⟩ := Int.eq_ofNat_of_zero_le hf0
          have h4 : j < t.flds.length := by omega
          obtain ⟨b3, off3, rfl, hb3, hr3⟩ := hs2.at_ h4
          have e1 : Hid ((prT t ⟨kd, j⟩).1 = t.flds[j]) := Lib.hid (by simp [prT, h1, h2, h4])
          have e2 : Hid ((prT t ⟨kd, j⟩).2 = 0) := Lib.hid (by simp [prT, h1, h2, h4])
          generalize t.flds[j] = y at *
          unfold RInt at hr3
          rw [Nat.mul_one] at hr3
          have hbs := lt_steps hb3
          clear h0 h1 h2 hs2 hf hf0
          go_enter Tryz.func234, Tryz.ntmps234
          go_wp2
          exact bodyPost_ret (by simp [results, Tryz.results234, go_sem]; rfl) rfl ⟨by rw [e1.out, e2.out], by (repeat (first | exact Below.refl _ _ | assumption | refine Below.alloc ?_ (by first | omega | (simp; done) | (simp; omega)) _ | refine below_drewN ?_ _ | refine Below.drew ?_ | refine Below.setCell ?_ (by first | omega | (simp; done) | (simp; omega)) _))⟩
        · have e1 : Hid ((prT t x).1 = 0) := Lib.hid (by simp [prT, h1, h2, h3])
          have e2 : Hid ((prT t x).2 = 3) := Lib.hid (by simp [prT, h1, h2, h3])
          have hd : decide (x.field < (t.flds.length : Int)) = false := by simpa using h3
          clear h0 h1 h2 hs2 hf
          go_enter Tryz.func234, Tryz.ntmps234
          go_wp2
          exact bodyPost_ret (by simp [results, Tryz.results234, go_sem]; rfl) rfl ⟨by rw [e1.out, e2.out], by (repeat (first | exact Below.refl _ _ | assumption | refine Below.alloc ?_ (by first | omega | (simp; done) | (simp; omega)) _ | refine below_drewN ?_ _ | refine Below.drew ?_ | refine Below.setCell ?_ (by first | omega | (simp; done) | (simp; omega)) _))⟩
      · have e1 : Hid ((prT t x).1 = 0) := Lib.hid (by simp [prT, h1, h2])
        have e2 : Hid ((prT t x).2 = 22) := Lib.hid (by simp [prT, h1, h2])
        have t2 : (t.kind == 4) = false := by simp [h2]
        clear h0 h1 h2 hs2 hf
        go_enter Tryz.func234, Tryz.ntmps234
        go_wp2
        exact bodyPost_ret (by simp [results, Tryz.results234, go_sem]; rfl) rfl ⟨by rw [e1.out, e2.out], by (repeat (first | exact Below.refl _ _ | assumption | refine Below.alloc ?_ (by first | omega | (simp; done) | (simp; omega)) _ | refine below_drewN ?_ _ | refine Below.drew ?_ | refine Below.setCell ?_ (by first | omega | (simp; done) | (simp; omega)) _))⟩
    · have t1' : (x.kind == 1) = false := by simp [h1]
      have e1 : Hid ((prT t x).1 = 0) := Lib.hid (by simp [prT, h1, h0])
      have e2 : Hid ((prT t x).2 = 22) := Lib.hid (by simp [prT, h1, h0])
      clear h0 h1 hs2 hf
      go_enter Tryz.func234, Tryz.ntmps234
      go_wp2
      exact bodyPost_ret (by simp [results, Tryz.results234, go_sem]; rfl) rfl ⟨by rw [e1.out, e2.out], by (repeat (first | exact Below.refl _ _ | assumption | refine Below.alloc ?_ (by first | omega | (simp; done) | (simp; omega)) _ | refine below_drewN ?_ _ | refine Below.drew ?_ | refine Below.setCell ?_ (by first | omega | (simp; done) | (simp; omega)) _))⟩
end Go.Proofs.YtbnljlpefpllcaaGreatDoor
namespace Go.Proofs.YtbnljlpefpllcaaGreatDoor
open Go Go.RowKit
theorem and7 (y : Nat) (hy : y < 256) : bits .and .u8 (y : Int) 127 = ((y % 128 : Nat) : Int) := by
  have h1 : (BitVec.ofInt 8 (y : Int)).toNat = y := by
    rw [BitVec.ofInt_natCast, BitVec.toNat_ofNat]; exact Nat.mod_eq_of_lt (by omega)
  have hx : y &&& 127 = y % 128 := Nat.and_two_pow_sub_one_eq_mod y 7
  have h2 : (BitVec.ofInt 8 127).toNat = 127 := rfl
  show IntKind.u8.wrap ((BitVec.ofInt 8 (y : Int) &&& BitVec.ofInt 8 127).toNat : Int) = _
  rw [BitVec.toNat_and, h1, h2, hx, show ∀ n : Int, IntKind.u8.wrap n = n % 256 from fun n => by simp [IntKind.wrap, IntKind.bits, IntKind.signed]]
  omega
theorem or_low (m y i : Nat) (hm : m < 2 ^ i) : m ||| (y * 2 ^ i) = m + y * 2 ^ i := by
  rw [← Nat.shiftLeft_eq, Nat.or_comm, ← Nat.shiftLeft_add_eq_or_of_lt hm, Nat.add_comm]
theorem or_step (m y i : Nat) (hm : m < 2 ^ i) (h1 : m < 2 ^ 64) (h2 : y * 2 ^ i < 2 ^ 64) : bits .or .u64 (m : Int) (((y * 2 ^ i : Nat)) : Int) = ((m + y * 2 ^ i : Nat) : Int) := by
  rw [bits_or_u64_nat _ _ h1 h2, or_low m y i hm]
/-- The groups of an encoding, with their indices. -/
def grpL : Nat → List UInt8 → List (Nat × UInt8)
  | _, [] => []
  | k, c :: r => (k, c) :: (if c.toNat < 128 then [] else grpL (k + 1) r)
theorem grpL_cons (k : Nat) (c : UInt8) (r : List UInt8) : grpL k (c :: r) = (k, c) :: (if c.toNat < 128 then [] else grpL (k + 1) r) := rfl
end Go.Proofs.YtbnljlpefpllcaaGreatDoor
namespace Go.Proofs.YtbnljlpefpllcaaGreatDoor
open Go Go.RowKit
theorem RRd.err {w : World} {g : Nat} {s : Rs} (h : RRd w g s) : w.cell? ⟨g, 1, none⟩ = some (.int .i64 s.err) := by
  obtain ⟨A, c, hg, _, _⟩ := h
  simp [World.cell?, hg]
theorem uint_number (most : Nat) (s : Rs) : uintS most s = if (numberS s).2.err = 0 ∧ most < (numberS s).1 then (0, ⟨[], 15⟩) else numberS s := by
  unfold uintS numberS
  by_cases h : s.err = 0
  · rw [if_pos h, if_pos h]
    by_cases h2 : (getL s.rest).2.2 = 0
    · rw [if_pos h2, if_pos h2]
      by_cases h3 : most < (getL s.rest).1
      · rw [if_pos h3, if_pos ⟨rfl, h3⟩]
      · rw [if_neg h3, if_neg (by simp only; omega)]
    · rw [if_neg h2, if_neg h2, if_neg (by simp only; omega)]
  · rw [if_neg h, if_neg h, if_neg (by simp only; omega)]
set_option maxRecDepth 100000 in
set_option maxHeartbeats 4000000 in
theorem ruint_any (g : Nat) (s : Rs) (most : Nat) (w : World) (hr : RRd w g s) (hl : s.rest.length ≤ 1000000) :
    Calls Tryz.prog 94 #[.pointer (some ⟨g, 0, none⟩), .int .u64 most] w fun e' w' => e' = .returned (.int .u64 (uintS most s).1) ∧ RRd w' g (uintS most s).2 ∧ But g w w' := by
  have HN := Lib.hid (rnumber_any g s w hr hl)
  rw [uint_number]
  generalize numberS s = N at *
  obtain ⟨n, s1⟩ := N
  obtain ⟨l1, er⟩ := s1
  simp only at HN ⊢
  clear hr
  by_cases hc : er = 0 ∧ most < n
  · obtain ⟨rfl, hmn⟩ := hc
    rw [if_pos ⟨rfl, hmn⟩]
    go_enter Tryz.func94, Tryz.ntmps94
    go_wp2_with (go_at_call 96; refine HN.out.mono ?_; rintro e' w1 ⟨rfl, hr1, hb1⟩; have x1 := hr1.err; have HR1 := Lib.hid hr1; have HB1 := Lib.hid hb1; clear hr1 hb1)
    go_at_call 97
    refine (rfail_any g _ 15 w1 HR1.out).mono ?_
    rintro e' w2 ⟨rfl, hr2, hb2⟩
    have HR2 := Lib.hid hr2
    have HB2 := Lib.hid (HB1.out.trans hb2)
    clear hr2 hb2
    go_wp2_with fail
    go_ret
    exact ⟨rfl, HR2.out, HB2.out⟩
  · rw [if_neg hc]
    go_enter Tryz.func94, Tryz.ntmps94
    go_wp2_with (go_at_call 96; refine HN.out.mono ?_; rintro e' w1 ⟨rfl, hr1, hb1⟩; have x1 := hr1.err; have HR1 := Lib.hid hr1; have HB1 := Lib.hid hb1; clear hr1 hb1)
    all_goals first
      | (go_ret; exact ⟨rfl, HR1.out, HB1.out⟩)
      | (exfalso; exact hc (by constructor <;> omega))
end Go.Proofs.YtbnljlpefpllcaaGreatDoor
namespace Go.Proofs.YtbnljlpefpllcaaGreatDoor
open Go Go.RowKit
set_option maxRecDepth 100000 in
set_option maxHeartbeats 4000000 in
theorem rFail_any (g : Nat) (s : Rs) (e : Int) (he : e ≠ 0) (w : World) (hr : RRd w g s) :
    Calls Tryz.prog 95 #[.pointer (some ⟨g, 0, none⟩), .int .i64 e] w fun e' w' => e' = .returned (.tuple #[]) ∧ RRd w' g (failS e s) ∧ But g w w' := by
  have x1 := hr.err
  have HR := Lib.hid hr
  clear hr
  obtain ⟨l, er⟩ := s
  have e2 : (e == 0) = false := by simp [he]
  have e3 : (e != 0) = true := by simp [he]
  by_cases hc : er = 0
  · subst hc
    have HF : Hid (failS e ⟨l, 0⟩ = ⟨[], e⟩) := Lib.hid (by unfold failS; rw [if_pos rfl])
    go_enter Tryz.func95, Tryz.ntmps95
    go_wp2_with fail
    go_at_call 97
    refine (rfail_any g _ e w HR.out).mono ?_
    rintro e' w2 ⟨rfl, hr2, hb2⟩
    have HR2 := Lib.hid hr2
    have HB2 := Lib.hid hb2
    clear hr2 hb2
    go_wp2_with fail
    exact bodyPost_end (v := .tuple #[]) (by simp [results, Tryz.results95, go_sem] <;> rfl) rfl ⟨rfl, by rw [HF.out]; exact HR2.out, HB2.out⟩
  · have HF : Hid (failS e ⟨l, er⟩ = ⟨l, er⟩) := Lib.hid (by unfold failS; rw [if_neg hc])
    have e4 : (er == 0) = false := by simp [hc]
    clear hc
    go_enter Tryz.func95, Tryz.ntmps95
    go_wp2_with fail
    exact bodyPost_end (v := .tuple #[]) (by simp [results, Tryz.results95, go_sem] <;> rfl) rfl ⟨rfl, by rw [HF.out]; exact HR.out, But.refl _ _⟩
end Go.Proofs.YtbnljlpefpllcaaGreatDoor
