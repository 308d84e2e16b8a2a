/-
  Short names of lemmas.
-/
import Derived.Lib.Hide
import Derived.Below
import Derived.WalkSmall
import Derived.Laws.World
namespace Go.Proofs.YtkaigkfbkpinlaaGreatDoor
open Go Go.RowKit
theorem aB {α : Type _} {a : α} {l : List α} : (a :: l)[0]? = some a := by simp
abbrev aD (l : List Value) (X : World) (a : Nat) : Prop := ∀ i v, l[i]? = some v → X.cell? ⟨a, i, none⟩ = some v
abbrev aE (w : World) (l m : List Value) (X : World) : Prop := (∀ i v, l[i]? = some v → X.cell? ⟨w.heap.size, i, none⟩ = some v) ∧ (∀ i v, m[i]? = some v → X.cell? ⟨w.heap.size + 1, i, none⟩ = some v) ∧ Below w.heap.size w X
abbrev aF (w : World) (l m k : List Value) (X : World) : Prop := (∀ i v, l[i]? = some v → X.cell? ⟨w.heap.size, i, none⟩ = some v) ∧ (∀ i v, m[i]? = some v → X.cell? ⟨w.heap.size + 1, i, none⟩ = some v) ∧ (∀ i v, k[i]? = some v → X.cell? ⟨w.heap.size + 1 + 1, i, none⟩ = some v) ∧ Below w.heap.size w X
abbrev aG (w : World) (l m : List Value) (X : World) : Prop := Hid (∀ i v, l[i]? = some v → X.cell? ⟨w.heap.size, i, none⟩ = some v) ∧ Hid (∀ i v, m[i]? = some v → X.cell? ⟨w.heap.size + 1, i, none⟩ = some v) ∧ Hid (Below w.heap.size w X)
theorem aH {p : Prop} (h : p) : Hid p := Lib.hid h
theorem aI {B : Nat} {a w : World} (h : Below B a w) (n : Nat) : Below B a (w.drewN n) := h.trans ⟨rfl, rfl, rfl, Nat.le_refl _, fun _ _ => rfl⟩
theorem aJ {n : Nat} {w X : World} (h : Below n w X := by (repeat (first | exact Below.refl _ _ | assumption | refine Below.alloc ?_ (by first | omega | (simp <;> omega)) _ | refine aI ?_ _ | refine Below.drew ?_ | refine Below.setCell ?_ (by first | omega | (simp <;> omega)) _))) : Below n w X := h
theorem aK : (type_of% @List.getD_cons_zero.{0}) ∧ (type_of% @List.getD_cons_succ.{0}) ∧ (type_of% @List.getElem?_toArray.{0}) ∧ (type_of% @List.getElem?_cons_zero.{0}) ∧ (type_of% @List.getElem?_cons_succ.{0}) ∧ (type_of% @Option.getD_some.{0}) := ⟨@List.getD_cons_zero, @List.getD_cons_succ, @List.getElem?_toArray, @List.getElem?_cons_zero, @List.getElem?_cons_succ, @Option.getD_some⟩
theorem aL : (type_of% @List.getElem?_toArray.{0}) ∧ (type_of% @List.getElem?_cons_zero.{0}) ∧ (type_of% @List.getElem?_cons_succ.{0}) ∧ (type_of% @Option.getD_some.{0}) := ⟨@List.getElem?_toArray, @List.getElem?_cons_zero, @List.getElem?_cons_succ, @Option.getD_some⟩
theorem aM : (type_of% @List.setIfInBounds_toArray.{0}) ∧ (type_of% @List.set_cons_zero.{0}) ∧ (type_of% @List.set_cons_succ.{0}) := ⟨@List.setIfInBounds_toArray, @List.set_cons_zero, @List.set_cons_succ⟩
theorem aN : (type_of% @List.getElem_toArray.{0}) ∧ (type_of% @List.getElem_cons_zero.{0}) ∧ (type_of% @List.getElem_cons_succ.{0}) := ⟨@List.getElem_toArray, @List.getElem_cons_zero, @List.getElem_cons_succ⟩
theorem aO : (type_of% @List.getD_cons_zero.{0}) ∧ (type_of% @List.getD_cons_succ.{0}) ∧ (type_of% @List.getElem?_toArray.{0}) ∧ (type_of% @List.getElem?_cons_zero.{0}) ∧ (type_of% @List.getElem?_cons_succ.{0}) ∧ (type_of% @Option.getD_some.{0}) ∧ (type_of% @Act.put.eq_1) ∧ (type_of% @Act.put.eq_2) ∧ (type_of% @List.setIfInBounds_toArray.{0}) ∧ (type_of% @List.set_cons_zero.{0}) ∧ (type_of% @List.set_cons_succ.{0}) := ⟨@List.getD_cons_zero, @List.getD_cons_succ, @List.getElem?_toArray, @List.getElem?_cons_zero, @List.getElem?_cons_succ, @Option.getD_some, @Act.put.eq_1, @Act.put.eq_2, @List.setIfInBounds_toArray, @List.set_cons_zero, @List.set_cons_succ⟩
theorem aP {a0 a1 : Value} {l : List Value} {X : World} {b : Nat} (h : ∀ i v, (a0 :: a1 :: l)[i]? = some v → X.cell? ⟨b, i, none⟩ = some v) : X.cell? ⟨b, 0, none⟩ = some a0 ∧ X.cell? ⟨b, 1, none⟩ = some a1 := ⟨h 0 _ rfl, h 1 _ rfl⟩
theorem aQ {a0 a1 a2 : Value} {l : List Value} {X : World} {b : Nat} (h : ∀ i v, (a0 :: a1 :: a2 :: l)[i]? = some v → X.cell? ⟨b, i, none⟩ = some v) : X.cell? ⟨b, 0, none⟩ = some a0 ∧ X.cell? ⟨b, 1, none⟩ = some a1 ∧ X.cell? ⟨b, 2, none⟩ = some a2 := ⟨h 0 _ rfl, h 1 _ rfl, h 2 _ rfl⟩
theorem aR {a0 a1 a2 a3 : Value} {l : List Value} {X : World} {b : Nat} (h : ∀ i v, (a0 :: a1 :: a2 :: a3 :: l)[i]? = some v → X.cell? ⟨b, i, none⟩ = some v) : X.cell? ⟨b, 0, none⟩ = some a0 ∧ X.cell? ⟨b, 1, none⟩ = some a1 ∧ X.cell? ⟨b, 2, none⟩ = some a2 ∧ X.cell? ⟨b, 3, none⟩ = some a3 := ⟨h 0 _ rfl, h 1 _ rfl, h 2 _ rfl, h 3 _ rfl⟩
theorem aS {a0 a1 a2 a3 a4 : Value} {l : List Value} {X : World} {b : Nat} (h : ∀ i v, (a0 :: a1 :: a2 :: a3 :: a4 :: l)[i]? = some v → X.cell? ⟨b, i, none⟩ = some v) : X.cell? ⟨b, 0, none⟩ = some a0 ∧ X.cell? ⟨b, 1, none⟩ = some a1 ∧ X.cell? ⟨b, 2, none⟩ = some a2 ∧ X.cell? ⟨b, 3, none⟩ = some a3 ∧ X.cell? ⟨b, 4, none⟩ = some a4 := ⟨h 0 _ rfl, h 1 _ rfl, h 2 _ rfl, h 3 _ rfl, h 4 _ rfl⟩
theorem aT {a0 a1 a2 a3 a4 a5 : Value} {l : List Value} {X : World} {b : Nat} (h : ∀ i v, (a0 :: a1 :: a2 :: a3 :: a4 :: a5 :: l)[i]? = some v → X.cell? ⟨b, i, none⟩ = some v) : X.cell? ⟨b, 0, none⟩ = some a0 ∧ X.cell? ⟨b, 1, none⟩ = some a1 ∧ X.cell? ⟨b, 2, none⟩ = some a2 ∧ X.cell? ⟨b, 3, none⟩ = some a3 ∧ X.cell? ⟨b, 4, none⟩ = some a4 ∧ X.cell? ⟨b, 5, none⟩ = some a5 := ⟨h 0 _ rfl, h 1 _ rfl, h 2 _ rfl, h 3 _ rfl, h 4 _ rfl, h 5 _ rfl⟩
theorem aU {a0 a1 a2 a3 a4 a5 a6 : Value} {l : List Value} {X : World} {b : Nat} (h : ∀ i v, (a0 :: a1 :: a2 :: a3 :: a4 :: a5 :: a6 :: l)[i]? = some v → X.cell? ⟨b, i, none⟩ = some v) : X.cell? ⟨b, 0, none⟩ = some a0 ∧ X.cell? ⟨b, 1, none⟩ = some a1 ∧ X.cell? ⟨b, 2, none⟩ = some a2 ∧ X.cell? ⟨b, 3, none⟩ = some a3 ∧ X.cell? ⟨b, 4, none⟩ = some a4 ∧ X.cell? ⟨b, 5, none⟩ = some a5 ∧ X.cell? ⟨b, 6, none⟩ = some a6 := ⟨h 0 _ rfl, h 1 _ rfl, h 2 _ rfl, h 3 _ rfl, h 4 _ rfl, h 5 _ rfl, h 6 _ rfl⟩
theorem aV {a0 a1 a2 a3 a4 a5 a6 a7 : Value} {l : List Value} {X : World} {b : Nat} (h : ∀ i v, (a0 :: a1 :: a2 :: a3 :: a4 :: a5 :: a6 :: a7 :: l)[i]? = some v → X.cell? ⟨b, i, none⟩ = some v) : X.cell? ⟨b, 0, none⟩ = some a0 ∧ X.cell? ⟨b, 1, none⟩ = some a1 ∧ X.cell? ⟨b, 2, none⟩ = some a2 ∧ X.cell? ⟨b, 3, none⟩ = some a3 ∧ X.cell? ⟨b, 4, none⟩ = some a4 ∧ X.cell? ⟨b, 5, none⟩ = some a5 ∧ X.cell? ⟨b, 6, none⟩ = some a6 ∧ X.cell? ⟨b, 7, none⟩ = some a7 := ⟨h 0 _ rfl, h 1 _ rfl, h 2 _ rfl, h 3 _ rfl, h 4 _ rfl, h 5 _ rfl, h 6 _ rfl, h 7 _ rfl⟩
theorem aW {a0 a1 a2 a3 a4 a5 a6 a7 a8 : Value} {l : List Value} {X : World} {b : Nat} (h : ∀ i v, (a0 :: a1 :: a2 :: a3 :: a4 :: a5 :: a6 :: a7 :: a8 :: l)[i]? = some v → X.cell? ⟨b, i, none⟩ = some v) : X.cell? ⟨b, 0, none⟩ = some a0 ∧ X.cell? ⟨b, 1, none⟩ = some a1 ∧ X.cell? ⟨b, 2, none⟩ = some a2 ∧ X.cell? ⟨b, 3, none⟩ = some a3 ∧ X.cell? ⟨b, 4, none⟩ = some a4 ∧ X.cell? ⟨b, 5, none⟩ = some a5 ∧ X.cell? ⟨b, 6, none⟩ = some a6 ∧ X.cell? ⟨b, 7, none⟩ = some a7 ∧ X.cell? ⟨b, 8, none⟩ = some a8 := ⟨h 0 _ rfl, h 1 _ rfl, h 2 _ rfl, h 3 _ rfl, h 4 _ rfl, h 5 _ rfl, h 6 _ rfl, h 7 _ rfl, h 8 _ rfl⟩
theorem aX {a0 a1 a2 a3 a4 a5 a6 a7 a8 a9 : Value} {l : List Value} {X : World} {b : Nat} (h : ∀ i v, (a0 :: a1 :: a2 :: a3 :: a4 :: a5 :: a6 :: a7 :: a8 :: a9 :: l)[i]? = some v → X.cell? ⟨b, i, none⟩ = some v) : X.cell? ⟨b, 0, none⟩ = some a0 ∧ X.cell? ⟨b, 1, none⟩ = some a1 ∧ X.cell? ⟨b, 2, none⟩ = some a2 ∧ X.cell? ⟨b, 3, none⟩ = some a3 ∧ X.cell? ⟨b, 4, none⟩ = some a4 ∧ X.cell? ⟨b, 5, none⟩ = some a5 ∧ X.cell? ⟨b, 6, none⟩ = some a6 ∧ X.cell? ⟨b, 7, none⟩ = some a7 ∧ X.cell? ⟨b, 8, none⟩ = some a8 ∧ X.cell? ⟨b, 9, none⟩ = some a9 := ⟨h 0 _ rfl, h 1 _ rfl, h 2 _ rfl, h 3 _ rfl, h 4 _ rfl, h 5 _ rfl, h 6 _ rfl, h 7 _ rfl, h 8 _ rfl, h 9 _ rfl⟩
theorem aY {a0 a1 a2 a3 a4 a5 a6 a7 a8 a9 a10 : Value} {l : List Value} {X : World} {b : Nat} (h : ∀ i v, (a0 :: a1 :: a2 :: a3 :: a4 :: a5 :: a6 :: a7 :: a8 :: a9 :: a10 :: l)[i]? = some v → X.cell? ⟨b, i, none⟩ = some v) : X.cell? ⟨b, 0, none⟩ = some a0 ∧ X.cell? ⟨b, 1, none⟩ = some a1 ∧ X.cell? ⟨b, 2, none⟩ = some a2 ∧ X.cell? ⟨b, 3, none⟩ = some a3 ∧ X.cell? ⟨b, 4, none⟩ = some a4 ∧ X.cell? ⟨b, 5, none⟩ = some a5 ∧ X.cell? ⟨b, 6, none⟩ = some a6 ∧ X.cell? ⟨b, 7, none⟩ = some a7 ∧ X.cell? ⟨b, 8, none⟩ = some a8 ∧ X.cell? ⟨b, 9, none⟩ = some a9 ∧ X.cell? ⟨b, 10, none⟩ = some a10 := ⟨h 0 _ rfl, h 1 _ rfl, h 2 _ rfl, h 3 _ rfl, h 4 _ rfl, h 5 _ rfl, h 6 _ rfl, h 7 _ rfl, h 8 _ rfl, h 9 _ rfl, h 10 _ rfl⟩
theorem aZ : type_of% @Below.refl := @Below.refl
theorem bA : type_of% @Nat.le_refl := @Nat.le_refl
theorem bB : type_of% @if_neg := @if_neg
theorem bD : type_of% @if_pos := @if_pos
theorem bE : type_of% @List.length_append := @List.length_append
theorem bF : type_of% @List.getElem?_eq_getElem := @List.getElem?_eq_getElem
theorem bG : type_of% @List.drop_eq_nil_of_le := @List.drop_eq_nil_of_le
theorem bH : type_of% @List.take_succ_eq_append_getElem := @List.take_succ_eq_append_getElem
theorem bI : type_of% @Int.eq_ofNat_of_zero_le := @Int.eq_ofNat_of_zero_le
theorem bJ : type_of% @Below.heap_setCell := @Below.heap_setCell
theorem bK : type_of% @World.size_alloc := @World.size_alloc
theorem bM : type_of% @And.intro := @And.intro
theorem bN : type_of% @List.length_cons := @List.length_cons
theorem bO : type_of% @List.getElem_mem := @List.getElem_mem
theorem bP : type_of% @Nat.lt_of_lt_of_le := @Nat.lt_of_lt_of_le
theorem bQ : type_of% @List.length_nil := @List.length_nil
theorem bR : type_of% @Bool.and_eq_true := @Bool.and_eq_true
theorem bS : type_of% @Bool.eq_iff_iff := @Bool.eq_iff_iff
theorem bU : type_of% @List.mem_singleton := @List.mem_singleton
theorem bV : type_of% @List.map_append := @List.map_append
theorem bW : type_of% @List.eq_nil_of_length_eq_zero := @List.eq_nil_of_length_eq_zero
theorem bX : type_of% @Int.toNat_natCast := @Int.toNat_natCast
theorem bZ : type_of% @List.drop_zero := @List.drop_zero
theorem cA : type_of% @Nat.le_trans := @Nat.le_trans
theorem cB : type_of% @List.take_length := @List.take_length
theorem cC : type_of% @List.flatMap_append := @List.flatMap_append
theorem cD : type_of% @List.all_cons := @List.all_cons
theorem cE : type_of% @Nat.lt_of_succ_lt := @Nat.lt_of_succ_lt
theorem cF : type_of% @World.block_lt_of_cell? := @World.block_lt_of_cell?
theorem cG : type_of% @List.getElem?_eq_none := @List.getElem?_eq_none
theorem cH : type_of% @List.length_map := @List.length_map
theorem cI : type_of% @List.length_singleton := @List.length_singleton
theorem cJ : type_of% @List.drop_eq_getElem_cons := @List.drop_eq_getElem_cons
theorem cK : type_of% @Option.some.injEq := @Option.some.injEq
theorem cL : type_of% @List.mem_append := @List.mem_append
theorem cM : type_of% @List.mem_cons := @List.mem_cons
theorem cN : type_of% @List.mem_map := @List.mem_map
theorem cO : type_of% @List.length_take := @List.length_take
theorem cP : type_of% @List.getElem?_map := @List.getElem?_map
end Go.Proofs.YtkaigkfbkpinlaaGreatDoor
