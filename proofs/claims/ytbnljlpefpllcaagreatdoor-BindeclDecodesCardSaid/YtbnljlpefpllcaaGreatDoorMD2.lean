/-
  Parts of the proof: Range W6 W7 W8 Region W9 Append.
-/
import Derived.Test.YtbnljlpefpllcaaGreatDoorMD1
import Derived.RangeFuncNested
import Derived.RangeFuncBound
import Derived.RangeFuncCalls
import Derived.RangeFuncLeaves
import Derived.OwnWalkIn
import Derived.TacticsInMore
import Derived.LoopNIn
import Derived.LoopIn
import Derived.StillTailTactics
import Derived.Shelf.Abstract
import Derived.OrdersHeld
import Derived.Deep.RegionHeld
import Derived.Maps.AppendAt
namespace Go.Proofs.YtbnljlpefpllcaaGreatDoor
open Go.RowKit
variable {F : Fence} {n : Nat} {P : Program}
/-- May the iterator turn this object? Whatever is no cells, and cells of the types T. -/
def lets (T : TypeId → Bool) : Obj → Bool
  | .cells _ e _ => T e
  | _ => true
/-- B is A, but for objects at or beyond D that the iterator may turn. -/
structure Turn (D : Nat) (T : TypeId → Bool) (A B : World) : Prop where
  os : B.os = A.os
  tape : B.tape = A.tape
  output : B.output = A.output
  size : A.heap.size ≤ B.heap.size
  low : ∀ k, k < D → k < A.heap.size → B.heap[k]? = A.heap[k]?
  same : ∀ (k : Nat) (o : Obj), A.heap[k]? = some o → lets T o = false → B.heap[k]? = some o
theorem Turn.refl (D : Nat) (T : TypeId → Bool) (A : World) : Turn D T A A := ⟨rfl, rfl, rfl, Nat.le_refl _, fun _ _ _ => rfl, fun _ _ h _ => h⟩
theorem Turn.trans {D : Nat} {T : TypeId → Bool} {A B C : World} (h : Turn D T A B) (k : Turn D T B C) : Turn D T A C :=
  ⟨k.os.trans h.os, k.tape.trans h.tape, k.output.trans h.output, Nat.le_trans h.size k.size, fun i hi hA => (k.low i hi (Nat.lt_of_lt_of_le hA h.size)).trans (h.low i hi hA), fun i o hA ho => k.same i o (h.same i o hA ho) ho⟩
theorem Turn.mono {D D' : Nat} {T : TypeId → Bool} {A B : World} (h : Turn D T A B) (hd : D' ≤ D) : Turn D' T A B := ⟨h.os, h.tape, h.output, h.size, fun k hk hA => h.low k (by omega) hA, h.same⟩
theorem Turn.of_below {D : Nat} {T : TypeId → Bool} {A B : World} (h : Below A.heap.size A B) : Turn D T A B :=
  ⟨h.os, h.tape, h.output, h.size, fun k _ hA => h.block k hA, fun k o hA _ => (h.block k (Array.getElem?_eq_some_iff.1 hA).1).trans hA⟩
theorem Turn.putObj {D : Nat} {T : TypeId → Bool} {A : World} {l : Nat} {o : Obj} (o' : Obj) (hl : A.heap[l]? = some o) (hD : D ≤ l) (ho : lets T o = true) : Turn D T A (A.putObj l o') :=
  ⟨rfl, rfl, rfl, by simp, fun k hk _ => World.putObj_heap_other (by omega), fun k o1 hA h1 => by
    refine (World.putObj_heap_other (fun e => ?_)).trans hA
    subst e
    rw [hl] at hA
    injection hA with hA
    rw [hA, h1] at ho
    cases ho⟩
theorem Turn.setCell {D : Nat} {T : TypeId → Bool} {A : World} {p : Addr} (u : Value) {cs : Array Value} {e : TypeId} {z : Nat × Nat} (hl : A.heap[p.block]? = some (.cells cs e z)) (hD : D ≤ p.block) (ho : T e = true) : Turn D T A (A.setCell p u) :=
  ⟨rfl, rfl, rfl, by simp, fun k hk _ => Below.heap_setCell A p u k (by omega), fun k o1 hA h1 => by
    refine (Below.heap_setCell A p u k (fun e' => ?_)).trans hA
    subst e'
    rw [hl] at hA
    injection hA with hA
    rw [← hA] at h1
    simp [lets, ho] at h1⟩
theorem Turn.below {D n₀ : Nat} {T : TypeId → Bool} {w A B : World} (h : Turn D T A B) (hn : n₀ ≤ D) (hs : n₀ ≤ A.heap.size) (hb : Below n₀ w A) : Below n₀ w B :=
  hb.trans ⟨h.os, h.tape, h.output, h.size, fun k hk => h.low k (by omega) (by omega)⟩
theorem Turn.block_low {D : Nat} {T : TypeId → Bool} {A B : World} (h : Turn D T A B) {k : Nat} {o : Obj} (hp : k < D) (hc : A.heap[k]? = some o) : B.heap[k]? = some o :=
  (h.low k hp (Array.getElem?_eq_some_iff.1 hc).1).trans hc
theorem Turn.grownBy {D : Nat} {T : TypeId → Bool} {A B : World} (h : Turn D T A B) {base : Nat} {e : TypeId} {size : Nat} {v : Value} {m : Nat} {xs : List Value} (hT : T e = false) (ho : A.ownsRow base e size v m xs) : B.ownsRow base e size v m xs := by
  refine ⟨ho.1, ?_⟩
  rcases ho.2 with hn | ⟨g, cap, cur, hv, hg, hh, rest⟩
  · exact .inl hn
  · exact .inr ⟨g, cap, cur, hv, hg, h.same g _ hh (by simpa [lets] using hT), rest⟩
/-- What a round keeps: the blocks of N; what the iterator may turn, from D on. -/
structure Kb (N : Nat → Prop) (D : Nat) (T : TypeId → Bool) (A B : World) : Prop where
  os : B.os = A.os
  tape : B.tape = A.tape
  output : B.output = A.output
  size : A.heap.size ≤ B.heap.size
  low : ∀ k, N k → k < A.heap.size → B.heap[k]? = A.heap[k]?
  same : ∀ (k : Nat) (o : Obj), D ≤ k → A.heap[k]? = some o → lets T o = true → B.heap[k]? = some o
section
variable {N : Nat → Prop} {D : Nat} {T : TypeId → Bool} {A B C : World}
theorem Kb.refl (N : Nat → Prop) (D : Nat) (T : TypeId → Bool) (A : World) : Kb N D T A A := ⟨rfl, rfl, rfl, Nat.le_refl _, fun _ _ _ => rfl, fun _ _ _ h _ => h⟩
theorem Kb.trans (h : Kb N D T A B) (k : Kb N D T B C) : Kb N D T A C :=
  ⟨k.os.trans h.os, k.tape.trans h.tape, k.output.trans h.output, Nat.le_trans h.size k.size, fun i hN hi => (k.low i hN (Nat.lt_of_lt_of_le hi h.size)).trans (h.low i hN hi), fun i o hD hA ho => k.same i o hD (h.same i o hD hA ho) ho⟩
theorem Kb.mono {D' : Nat} (h : Kb N D T A B) (hd : D ≤ D') : Kb N D' T A B := ⟨h.os, h.tape, h.output, h.size, h.low, fun k o hk => h.same k o (by omega)⟩
theorem Kb.below (h : Kb N D T A B) {n₀ : Nat} (hN : ∀ k, k < n₀ → N k) (hs : n₀ ≤ A.heap.size) : Below n₀ A B := ⟨h.os, h.tape, h.output, h.size, fun k hk => h.low k (hN k hk) (by omega)⟩
theorem Kb.of_below (h : Below A.heap.size A B) : Kb N D T A B := ⟨h.os, h.tape, h.output, h.size, fun k _ hA => h.block k hA, fun k o _ hA _ => (h.block k (Array.getElem?_eq_some_iff.1 hA).1).trans hA⟩
theorem Kb.setLow (h : Kb N D T A B) {p : Addr} (u : Value) (h0 : ¬ N p.block) (hD : p.block < D) : Kb N D T A (B.setCell p u) :=
  ⟨h.os, h.tape, h.output, by simpa using h.size, fun k hN hA => (Below.heap_setCell B p u k (fun e => h0 (e ▸ hN))).trans (h.low k hN hA), fun k o hk hA ho => (Below.heap_setCell B p u k (by omega)).trans (h.same k o hk hA ho)⟩
theorem Kb.alloc (h : Kb N D T A B) (o : Obj) : Kb N D T A (B.alloc o) := h.trans (Kb.of_below ((Below.refl _ _).alloc (Nat.le_refl _) _))
theorem Kb.drewN (h : Kb N D T A B) (m : Nat) : Kb N D T A (B.drewN m) := ⟨h.os, h.tape, h.output, h.size, h.low, h.same⟩
theorem Kb.drew (h : Kb N D T A B) : Kb N D T A B.drew := ⟨h.os, h.tape, h.output, h.size, h.low, h.same⟩
theorem Kb.grown (h : Kb N D T A B) {row : Option Nat} (hg : B.grownBy C row) (hr : ∀ k, row = some k → (¬ N k ∨ A.heap.size ≤ k) ∧ (k < D ∨ A.heap.size ≤ k ∨ ∃ cs e z, B.heap[k]? = some (.cells cs e z) ∧ T e = false)) : Kb N D T A C :=
  ⟨hg.os.trans h.os, hg.tape.trans h.tape, hg.output.trans h.output, Nat.le_trans h.size hg.size, fun k hN hA => (hg.block k (Nat.lt_of_lt_of_le hA h.size) (fun e' => (hr k e'.symm).1.elim (fun h1 => h1 hN) (fun h1 => by omega))).trans (h.low k hN hA), fun k o hk hA ho => by
    have hB := h.same k o hk hA ho
    refine (hg.block k (Array.getElem?_eq_some_iff.1 hB).1 (fun e' => ?_)).trans hB
    have hlt := (Array.getElem?_eq_some_iff.1 hA).1
    rcases (hr k e'.symm).2 with h1 | h1 | ⟨cs, e, z, h1, hT⟩
    · omega
    · omega
    · rw [h1] at hB
      injection hB with hB
      rw [← hB] at ho
      simp [lets, hT] at ho⟩
end
/-- Only the loop's own record has turned. -/
structure Rec (l : Nat) (A B : World) : Prop where
  os : B.os = A.os
  tape : B.tape = A.tape
  output : B.output = A.output
  size : B.heap.size = A.heap.size
  block : ∀ k, k ≠ l → B.heap[k]? = A.heap[k]?
  was : ∃ r, A.heap[l]? = some (.loop r)
  now : ∃ r, B.heap[l]? = some (.loop r)
theorem Rec.cells {l : Nat} {A B : World} (h : Rec l A B) {k : Nat} {cs : Array Value} {e : TypeId} {z : Nat × Nat} (hk : A.heap[k]? = some (.cells cs e z)) : B.heap[k]? = some (.cells cs e z) :=
  (h.block k (fun e' => by subst e'; obtain ⟨r, hr⟩ := h.was; rw [hk] at hr; cases hr)).trans hk
theorem Rec.cell {l : Nat} {A B : World} (h : Rec l A B) {p : Addr} {v : Value} (hc : A.cell? p = some v) : B.cell? p = some v := by
  refine (World.cell?_of_block (h.block p.block (fun e => ?_))).trans hc
  obtain ⟨r, hr⟩ := h.was
  unfold World.cell? at hc
  rw [e, hr] at hc
  cases hc
theorem Rec.turn {l D : Nat} {T : TypeId → Bool} {A B : World} (h : Rec l A B) (hD : D ≤ l) : Turn D T A B :=
  ⟨h.os, h.tape, h.output, by rw [h.size]; exact Nat.le_refl _, fun k hk _ => h.block k (by omega), fun k o hA ho => (h.block k (fun e => by subst e; obtain ⟨r, hr⟩ := h.was; rw [hr] at hA; injection hA with hA; rw [← hA] at ho; cases ho)).trans hA⟩
/-- The contract of an iterator that hands out the elements of L in order, and stops where a round says so. -/
def SeqL {α : Type} (F : Fence) (n : Nat) (P : Program) (g : Nat) (lb : Array Value) (encs : α → Array Value) (T : TypeId → Bool) (N : Nat → Prop) (L : List α) (w : World) : Prop :=
  ∀ (l : Nat) (J Jx : List α → World → Prop) (W : World), Below w.heap.size w W →
    (∀ s A B, J s A → Turn W.heap.size T A B → J s B) → (∀ s A B, Jx s A → Turn W.heap.size T A B → Jx s B) →
    (∀ pre x post W1, L = pre ++ x :: post → J pre W1 → YieldAt F (n - 1) P l (encs x) W1 fun e W' =>
      (e = .returned (.bool true) ∧ J (pre ++ [x]) W' ∧ Kb N W.heap.size T W1 W') ∨ (e = .returned (.bool false) ∧ Jx (pre ++ [x]) W')) →
    J [] W →
    CallsIn F n P g (#[.func (.yield l) #[] #[]] ++ lb) W fun e W' => (∃ v, e = .returned v) ∧ (J L W' ∨ ∃ pre x post, L = pre ++ x :: post ∧ Jx (pre ++ [x]) W')
/-- How the body of a round may be left. -/
def rPost {α : Type} (N : Nat → Prop) (D : Nat) (T : TypeId → Bool) (I : List α → World → Prop) (Ix : Code → List α → World → Prop) (xs : List α) (W : World) : Exit → Act → World → Prop
  | .normal, _, W' => Kb N D T W W' ∧ I xs W'
  | .ret, _, W' => Kb N D T W W' ∧ Ix .ret xs W'
  | .exit id, _, W' => Kb N D T W W' ∧ Ix (.exit id) xs W'
  | .goto t, _, W' => Kb N D T W W' ∧ Ix (.goto t) xs W'
  | .panic _, _, _ => False
  | .outgrown, _, _ => False
theorem rec_put {W : World} {l : Nat} {r : Loop} (r' : Loop) (hl : W.heap[l]? = some (.loop r)) : Rec l W (W.putObj l (.loop r')) :=
  ⟨rfl, rfl, rfl, by simp, fun k hk => World.putObj_heap_other hk, ⟨r, hl⟩, ⟨r', World.putObj_heap_same (Array.getElem?_eq_some_iff.1 hl).1⟩⟩
/-- The statement 'for .. := range seq' over such an iterator, outside every round. -/
theorem wpIn_range {α : Type} {g : Operand} {ps : Array Tmp} {assign body : Code} {Q : Exit → Act → World → Prop} {a : Act} {w : World}
    (hro : F.round = none) (h1 : 1 ≤ n) {gf : Nat} {lb : Array Value} (hg : a.eval g = .func (.func gf) #[] lb) (hFg : F.fn gf) (eg : ∀ args w, (callFunc gf args).run P w = .ok (.enter gf args) w)
    {encs : α → Array Value} {T : TypeId → Bool} {N : Nat → Prop} {L : List α} {w0 : World} (hseq : SeqL F (n - 1) P gf lb encs T N L w0) (hb0 : Below w0.heap.size w0 w) (hNl : ∀ k, N k → k < w.heap.size) (hps : ∀ x, (encs x).size = ps.size)
    (I : List α → World → Prop) (Ix : Code → List α → World → Prop) (hI : ∀ s A B, I s A → Turn w.heap.size T A B → I s B) (hIx : ∀ c s A B, Ix c s A → Turn w.heap.size T A B → Ix c s B) (h0 : I [] w)
    (hround : ∀ (l : Nat) (pre : List α) (x : α) (post : List α) (W : World), L = pre ++ x :: post → w.heap.size ≤ l → (∃ r, W.heap[l]? = some (.loop r)) → w.heap.size ≤ W.heap.size → I pre W →
      assign.wpIn (F.inRound l) (n - 1 - 1) P (Exit.then (fun a' W' => Kb N w.heap.size T W W' ∧ ∀ W'', Rec l W' W'' → body.wpIn (F.inRound l) (n - 1 - 1) P (rPost N w.heap.size T I Ix (pre ++ [x]) W'') a' W'') (fun _ _ _ => False))
        { tmps := (ps.zip (encs x)).foldl (fun t (p, v) => t.setIfInBounds p v) a.tmps, defers := [] } W)
    (hdone : ∀ (D : Nat) (W : World), w.heap.size ≤ D → I L W → W.heap[D]? = some (.deferred (some [])) → Q .normal { a with defers := { target := .collected D, args := #[] } :: a.defers } W)
    (hstop : ∀ (D : Nat) (c : Code) (pre : List α) (x : α) (post : List α) (W : World), w.heap.size ≤ D → L = pre ++ x :: post → Ix c (pre ++ [x]) W → W.heap[D]? = some (.deferred (some [])) → c.wpIn F n P Q { a with defers := { target := .collected D, args := #[] } :: a.defers } W) :
    (Code.rangeFunc g ps assign body).wpIn F n P Q a w := by
  refine wpIn_rangeFunc ?_
  intro fn hfn
  rw [hro]
  obtain ⟨rec, hrec⟩ : ∃ rec : LoopState → Option Code → Loop, rec = fun st pe => { state := st, pending := pe, fn, tmps := a.tmps, params := ps, assign, body, defers := w.heap.size } := ⟨_, rfl⟩
  obtain ⟨W1, hW1⟩ : ∃ W1, (w.alloc (.deferred (some []))).alloc (.loop (rec .ready none)) = W1 := ⟨_, rfl⟩
  have hL1 : W1.heap[w.heap.size + 1]? = some (.loop (rec .ready none)) := by
    rw [← hW1]; have := World.alloc_heap_new (w.alloc (.deferred (some []))) (.loop (rec .ready none)); rwa [World.size_alloc] at this
  have hK1 : W1.heap[w.heap.size]? = some (.deferred (some [])) := by
    rw [← hW1]; exact (Below.heap_alloc _ _ _ (by simp)).trans (World.alloc_heap_new w _)
  have hbw : Below w.heap.size w W1 := by rw [← hW1]; exact ((Below.refl _ w).alloc (Nat.le_refl _) _).alloc (by simp) _
  have hI1 : I [] W1 := hI _ _ _ h0 (Turn.of_below hbw)
  have hb1 : Below w0.heap.size w0 W1 := hb0.trans (hbw.mono hb0.size)
  have hsz : W1.heap.size = w.heap.size + 2 := by rw [← hW1]; simp
  refine ⟨w.heap.size + 1, [{ target := .collected w.heap.size, args := #[] }], W1, { target := .fn (.func gf) lb, args := #[.func (.yield (w.heap.size + 1)) #[] #[]] }, W1, gf,
    #[.func (.yield (w.heap.size + 1)) #[] #[]] ++ lb, W1, ?_, ?_, ?_, ?_, fun _ => h1, ?_⟩
  · rw [← hW1, hrec]; exact run_enterLoop_outer _ _ _ _ _
  · simp only [resolve, hg]
    simp [go_sem]
  · intro f' hf'; simp [Target.leads] at hf'; subst hf'; exact hFg
  · simp [invoke, go_sem, eg]
  · refine (hseq (w.heap.size + 1)
      (fun pre W => I pre W ∧ W.heap[w.heap.size + 1]? = some (.loop (rec .ready none)) ∧ W.heap[w.heap.size]? = some (.deferred (some [])) ∧ w.heap.size + 2 ≤ W.heap.size)
      (fun pre W => ∃ c, Ix c pre W ∧ W.heap[w.heap.size + 1]? = some (.loop (rec .done (some c))) ∧ W.heap[w.heap.size]? = some (.deferred (some [])))
      W1 hb1
      (fun s A B hs ht => ⟨hI s A B hs.1 (ht.mono (by omega)), ht.block_low (by omega) hs.2.1, ht.block_low (by omega) hs.2.2.1, Nat.le_trans hs.2.2.2 ht.size⟩)
      (fun s A B hs ht => by
        obtain ⟨c, hc, hl, hk⟩ := hs
        exact ⟨c, hIx c s A B hc (ht.mono (by omega)), ht.block_low (by omega) hl, ht.block_low (by omega) hk⟩)
      ?_ ⟨hI1, hL1, hK1, by omega⟩).mono ?_
    · rintro pre x post W hL ⟨hi, hl, hk, hws⟩
      have hy := run_yield (P := P) (args := encs x) hl (by rw [hrec]; exact hps x)
      rw [hrec] at hy
      refine ⟨fn, _, assign, body, hy, roundIn_of_wpIn hfn (wpIn_mono (hround _ pre x post W hL (by omega) ⟨_, hl⟩ (by omega) hi) ?_)⟩
      clear hy
      rintro e a1 Wa hq
      cases e with
      | normal =>
        obtain ⟨hka, hbody⟩ := hq
        have hla := hka.same _ _ (by omega) hl rfl
        have hkk := hka.same _ _ (Nat.le_refl _) hk rfl
        refine ⟨_, run_beginRound hla (by rw [hrec]), wpIn_mono (hbody _ (rec_put _ hla)) ?_⟩
        have hlb : (Wa.putObj (w.heap.size + 1) (.loop { rec .ready none with state := .busy })).heap[w.heap.size + 1]? = some (.loop { rec .ready none with state := .busy }) := World.putObj_heap_same (Array.getElem?_eq_some_iff.1 hla).1
        have hkb : (Wa.putObj (w.heap.size + 1) (.loop { rec .ready none with state := .busy })).heap[w.heap.size]? = some (.deferred (some [])) := (World.putObj_heap_other (by omega)).trans hkk
        have hsb : w.heap.size + 2 ≤ (Wa.putObj (w.heap.size + 1) (.loop { rec .ready none with state := .busy })).heap.size := by simp; exact Nat.le_trans hws hka.size
        have fin : ∀ (jump : Option Code) (W3 : World), Kb N w.heap.size T (Wa.putObj (w.heap.size + 1) (.loop { rec .ready none with state := .busy })) W3 →
            (Instr.endRound (w.heap.size + 1) jump).run P W3 = .ok (.bool jump.isNone) (W3.putObj (w.heap.size + 1) (.loop (rec (if jump.isNone then .ready else .done) jump))) ∧
            W3.heap[w.heap.size + 1]? = some (.loop { rec .ready none with state := .busy }) ∧
            (W3.putObj (w.heap.size + 1) (.loop (rec (if jump.isNone then .ready else .done) jump))).heap[w.heap.size + 1]? = some (.loop (rec (if jump.isNone then .ready else .done) jump)) ∧
            (W3.putObj (w.heap.size + 1) (.loop (rec (if jump.isNone then .ready else .done) jump))).heap[w.heap.size]? = some (.deferred (some [])) ∧
            Kb N W1.heap.size T W (W3.putObj (w.heap.size + 1) (.loop (rec (if jump.isNone then .ready else .done) jump))) ∧
            w.heap.size + 2 ≤ (W3.putObj (w.heap.size + 1) (.loop (rec (if jump.isNone then .ready else .done) jump))).heap.size := fun jump W3 hk3 => by
          have hl3 := hk3.same _ _ (by omega) hlb rfl
          have hr := run_endRound (P := P) jump hl3
          rw [hrec] at hr hl3 ⊢
          have kput : ∀ (X : World) (o o' : Obj), X.heap[w.heap.size + 1]? = some o → Kb N W1.heap.size T X (X.putObj (w.heap.size + 1) o') := fun X o o' hX =>
            ⟨rfl, rfl, rfl, by simp, fun k hk _ => World.putObj_heap_other (by have := hNl k hk; omega), fun k o1 hk hX1 _ => (World.putObj_heap_other (by omega)).trans hX1⟩
          rw [hrec] at hk3 hla
          refine ⟨hr, hl3, World.putObj_heap_same (Array.getElem?_eq_some_iff.1 hl3).1, (World.putObj_heap_other (by omega)).trans (hk3.same _ _ (Nat.le_refl _) (by rw [hrec] at hkb; exact hkb) rfl), ?_, ?_⟩
          · exact (((hka.mono (by omega)).trans (kput _ _ _ hla)).trans (hk3.mono (by omega))).trans (kput _ _ _ hl3)
          · have h5 := hk3.size
            rw [World.putObj_size] at h5 ⊢
            exact Nat.le_trans (by rw [World.putObj_size] at hsb; exact hsb) h5
        rintro e a3 W3 hp
        cases e with
        | normal =>
          obtain ⟨hk3, hi3⟩ := hp
          obtain ⟨hr, hl3, hl4, hk4, hk5, hs5⟩ := fin none W3 hk3
          exact ⟨_, _, hr, .inl ⟨rfl, ⟨hI _ _ _ hi3 (Turn.putObj _ hl3 (by omega) rfl), hl4, hk4, hs5⟩, hk5⟩⟩
        | ret =>
          obtain ⟨hk3, hi3⟩ := hp
          obtain ⟨hr, hl3, hl4, hk4, hk5, hs5⟩ := fin (some .ret) W3 hk3
          exact ⟨_, _, hr, .inr ⟨rfl, .ret, hIx _ _ _ _ hi3 (Turn.putObj _ hl3 (by omega) rfl), hl4, hk4⟩⟩
        | exit id =>
          obtain ⟨hk3, hi3⟩ := hp
          obtain ⟨hr, hl3, hl4, hk4, hk5, hs5⟩ := fin (some (.exit id)) W3 hk3
          exact ⟨_, _, hr, .inr ⟨rfl, .exit id, hIx _ _ _ _ hi3 (Turn.putObj _ hl3 (by omega) rfl), hl4, hk4⟩⟩
        | goto t =>
          obtain ⟨hk3, hi3⟩ := hp
          obtain ⟨hr, hl3, hl4, hk4, hk5, hs5⟩ := fin (some (.goto t)) W3 hk3
          exact ⟨_, _, hr, .inr ⟨rfl, .goto t, hIx _ _ _ _ hi3 (Turn.putObj _ hl3 (by omega) rfl), hl4, hk4⟩⟩
        | panic ch => exact hp.elim
        | outgrown => exact hp.elim
      | exit id => exact hq.elim
      | goto t => exact hq.elim
      | ret => exact hq.elim
      | panic chain => exact hq.elim
      | outgrown => exact hq.elim
    · rintro e W2 ⟨⟨v, rfl⟩, (⟨hi, hl, hk, _⟩ | ⟨pre, x, post, hL, c, hi, hl, hk⟩)⟩
      · exact ⟨none, _, by have := run_endLoop (P := P) hl (by rw [hrec]; simp); rw [hrec] at this; exact this, hdone _ _ (Nat.le_refl _) (hI _ _ _ hi (Turn.putObj _ hl (by omega) rfl)) ((World.putObj_heap_other (by omega)).trans hk)⟩
      · exact ⟨some c, _, by have := run_endLoop (P := P) hl (by rw [hrec]; simp); rw [hrec] at this; exact this, hstop _ c pre x post _ (Nat.le_refl _) hL (hIx c _ _ _ hi (Turn.putObj _ hl (by omega) rfl)) ((World.putObj_heap_other (by omega)).trans hk)⟩
/-! A region within a round, walked by the plain words. -/
def noDefer (ops : Array Oper) : Bool := ops.all fun o => match o.op with | .defer _ => false | _ => true
theorem noDefer_spec {ops : Array Oper} (h : noDefer ops = true) {i : Nat} {o : Oper} (hi : ops[i]? = some o) : ∀ c, o.op ≠ .defer c := by
  intro c hc
  unfold noDefer at h
  rw [Array.all_eq_true] at h
  obtain ⟨hlt, he⟩ := Array.getElem?_eq_some_iff.1 hi
  have := h i hlt
  rw [he, hc] at this
  cases this
theorem wpOpsIn_of_wpOps {ops : Array Oper} {Q : Exit → Act → World → Prop} {r m : Nat} (hnd : noDefer ops = true) (hout : ¬ LetsOut Q) :
    ∀ (l : List Nat) (a : Act) (w : World), wpOps P ops Q l a w → wpOpsIn (Fence.wide.inRound r) m P ops Q l a w := by
  intro l
  induction l with
  | nil => intro a w h; exact h
  | cons i rest ih =>
    intro a w h
    simp only [wpOps, wpOpsIn] at h ⊢
    cases ho : ops[i]? with
    | none => simp only [ho] at h ⊢; exact ih _ _ h
    | some o =>
      simp only [ho] at h ⊢
      by_cases hw : Region.wanted o (yielded ops a.tmps) = true
      · rw [if_pos hw] at h ⊢
        rcases h with h | h
        · refine ⟨fun _ _ => trivial, ?_⟩
          show o.uponIn _ m P a _ Q ((o.semAt (some r) a.eval).run P w)
          rw [Oper.semAt_some r a.eval o (noDefer_spec hnd ho)]
          unfold Oper.wp at h
          generalize (execOp a.eval o).run P w = res at h ⊢
          cases res with
          | ok nx w' =>
            cases nx with
            | value v => exact ih _ _ h
            | skip => exact ih _ _ h
            | defer d => exact ih _ _ h
            | enter f args =>
              refine ⟨(fun h0 => nomatch h0), callsIn_wide.2 (Calls.mono h fun e w'' he => ?_)⟩
              cases e with
              | returned v => exact ih _ _ he
              | panicked c => exact he
              | outgrown => exact he
            | row row args =>
              refine ⟨(fun h0 => nomatch h0), fun c cs _ => ?_⟩
              obtain ⟨v, w'', hR, hs⟩ := h c cs
              exact ⟨v, w'', ih _ _ hR, stepsIn_wide.2 hs⟩
            | _ => exact h.elim
          | halt x w' =>
            cases x with
            | panic v => exact h
            | _ => exact h.elim
        · exact absurd h.2 hout
      · rw [if_neg hw] at h ⊢
        exact ⟨fun _ _ => trivial, ih _ _ h⟩
theorem wpInR_any {ops : Array Oper} {Q : Exit → Act → World → Prop} {r m : Nat} {id : Nat} {a : Act} {w : World} (hm : P.follows .mixedOrders = true) (hnd : noDefer ops = true) (hout : ¬ LetsOut Q)
    (h : wpAny P .any ops Q ops.size (Array.replicate ops.size false) a { w with drawn := w.drawn + 1 }) : (Code.region id ops true).wpIn (Fence.wide.inRound r) m P Q a w :=
  wpIn_region_draw fun t => by
    simp only [Region.schedule, hm, Bool.true_or, if_true]
    exact wpOpsIn_of_wpOps hnd hout _ _ _ (wpAny_sound ops.size t _ a _ h)
/-- A region of a round that draws its order, all but the last operations quiet. -/
theorem wpInR_still_tail {id : Nat} {Q : Exit → Act → World → Prop} {a : Act} {w : World} {r m : Nat} {l : List Oper} (n : Nat) (hm : P.follows .mixedOrders = true) (hnd : noDefer l.toArray = true) (hout : ¬ LetsOut Q) (hB : Region.lexTailB .any l.toArray n = true)
    (h : wpStill P l.toArray { w with drawn := w.drawn + 1 } (fun a' => wpList P l.toArray Q (l.drop n) a' { w with drawn := w.drawn + 1 }) (l.take n) a) : (Code.region id l.toArray true).wpIn (Fence.wide.inRound r) m P Q a w := by
  simp only [Region.lexTailB, Bool.and_eq_true, decide_eq_true_eq] at hB
  obtain ⟨⟨⟨⟨hsel, hn⟩, hs⟩, hc⟩, hlex⟩ := hB
  have hn' : n < l.length := by simpa using hn
  have htl : (l.take n).length = n := by simp; omega
  have hdl : (l.drop n).length = l.toArray.size - n := by simp
  have inv0 : HeadInv .any l.toArray n (Array.replicate l.toArray.size false) :=
    ⟨by simp, fun j oj _ hl => (by rw [getD_replicate_false] at hl; cases hl), fun t _ ht => getD_in (by simpa using ht) (getD_replicate_false _ _)⟩
  have H := wpAnyL_lex (md := .any) (g := l.toArray.size - n) hsel hs hc hn (l.take n) 0 _ a (fun j hj => by
    have hj' : j < n := by rw [htl] at hj; exact hj
    simp [hj']) (by simpa using htl) inv0 (by rw [htl]; exact hlex) h
  refine wpInR_any hm hnd hout ?_
  have := wpAny_of_head (Q' := Q) (g := l.toArray.size - n) (fun listed a' hL => by
    have := wpAny_of_seq (md := .any) (Q' := Q) (l.drop n) n listed a' { w with drawn := w.drawn + 1 } (fun j => by simp [List.getElem?_drop]) (by rw [hdl]; exact hL.1) hL.2
    rwa [hdl] at this) _ _ _ H
  rw [htl, show n + (l.toArray.size - n) = l.toArray.size by omega] at this
  exact this
end Go.Proofs.YtbnljlpefpllcaaGreatDoor
namespace Go.Proofs.YtbnljlpefpllcaaGreatDoor
open Go.RowKit
attribute [local go_sem] Oper.semAt_some
/-- The element that a path hands out: its number, a type's index, an error. -/
structure Stp where
  num : Nat
  idx : Int
  err : Int
def encS (s : Stp) : Array Value := #[.int .i64 s.num, .agg #[.int .i64 s.idx, .int .i64 s.err]]
def T54 : TypeId → Bool := fun e => e == 288
/-- The types from a type on along projections. -/
def walkS (ts : List Ty) : Int → Nat → List Pj → List Stp
  | i, k, [] => [⟨k, i, 0⟩]
  | i, k, x :: r =>
    ⟨k, i, 0⟩ :: match ts[i.toNat]? with
      | none => []
      | some t => if (prT t x).2 = 0 then walkS ts (prT t x).1 (k + 1) r else [⟨k + 1, (prT t x).1, (prT t x).2⟩]
/-- All that a path hands out. -/
def pth (ts : List Ty) (ls : List Lc) (l : Int) (ps : List Pj) : List Stp :=
  if chk l ps ≠ 0 then [⟨0, 0, chk l ps⟩] else
  match ls[l.toNat]? with
  | none => [⟨0, 0, 3⟩]
  | some x => walkS ts x.type 0 ps
/-- Types and locals refer to types of the list. -/
structure Okay (ts : List Ty) (ls : List Lc) : Prop where
  elem : ∀ t ∈ ts, t.kind = 3 → 0 ≤ t.elem ∧ t.elem < ts.length
  flds : ∀ t ∈ ts, ∀ f ∈ t.flds, 0 ≤ f ∧ f < ts.length
  loc : ∀ x ∈ ls, 0 ≤ x.type ∧ x.type < ts.length
theorem prT_ok {ts : List Ty} {ls : List Lc} (h : Okay ts ls) {t : Ty} (ht : t ∈ ts) (x : Pj) (h0 : (prT t x).2 = 0) : 0 ≤ (prT t x).1 ∧ (prT t x).1 < ts.length := by
  unfold prT at h0 ⊢
  split
  · rename_i h1; exact h.elem t ht h1.2
  · split
    · rename_i h1 h2
      rw [if_neg h1, if_pos h2] at h0
      split
      · rename_i h3
        by_cases h4 : x.field.toNat < t.flds.length
        · simp only [List.getD_eq_getElem?_getD, List.getElem?_eq_getElem h4, Option.getD_some]
          exact h.flds t ht _ (List.getElem_mem h4)
        · simp only [List.getD_eq_getElem?_getD, List.getElem?_eq_none (Nat.le_of_not_lt h4), Option.getD_none]
          exact ⟨by omega, by have := List.length_pos_of_mem ht; omega⟩
      · rename_i h3; rw [if_neg h3] at h0; simp at h0
    · rename_i h1 h2; rw [if_neg h1, if_neg h2] at h0; simp at h0
theorem chkP_field : ∀ (ps : List Pj), chkP ps = 0 → ∀ x ∈ ps, 0 ≤ x.field
  | [], _, _, h => by cases h
  | y :: r, h0, x, hx => by
    rw [chkP] at h0
    split at h0
    · cases h0
    · split at h0
      · cases h0
      · split at h0
        · cases h0
        · rcases List.mem_cons.1 hx with rfl | hx
          · omega
          · exact chkP_field r h0 x hx
set_option maxHeartbeats 400000 in
theorem path_any (A B C : Option Addr) (n c m d k e : Nat) (l : Int) (w : World) :
    Calls Tryz.prog 219 #[.slice A n c, .slice B m d, .agg #[.int .i64 l, .slice C k e]] w fun e' w' => e' = .returned (.func (.func 232) #[] #[.pointer (some ⟨w.heap.size + 1 + 1, 0, none⟩), .pointer (some ⟨w.heap.size + 1, 0, none⟩), .pointer (some ⟨w.heap.size, 0, none⟩)]) ∧
      w' = ((w.alloc (.cells #[.slice A n c] 24)).alloc (.cells #[.slice B m d] 25)).alloc (.cells #[.int .i64 l, .slice C k e] 55) := by
  go_enter Tryz.func219, Tryz.ntmps219
  go_wp2
  go_ret
  exact ⟨rfl, rfl⟩
set_option maxRecDepth 100000 in
set_option maxHeartbeats 2000000 in
theorem path_seq0 (n : Nat) (hn : 1 ≤ n) (ts : List Ty) (ls : List Lc) (l : Int) (ps : List Pj) (A B C : Option Addr) (c d e bp bl bt : Nat) (w0 w : World) (hw : Below w0.heap.size w0 w) (h1 : w.cell? ⟨bt, 0, none⟩ = some (.slice A ts.length c)) (h2 : w.cell? ⟨bl, 0, none⟩ = some (.slice B ls.length d)) (h3 : w.cell? ⟨bp, 0, none⟩ = some (.int .i64 l)) (h4 : w.cell? ⟨bp, 1, none⟩ = some (.slice C ps.length e)) (hts : Slc 5 RTy w0 A c ts) (hls : Slc 2 RLc w0 B d ls) (hps : Slc 2 RPj w0 C e ps) (hok : Okay ts ls) (hbad : chk l ps ≠ 0) :
    SeqL Fence.wide n Tryz.prog 232 #[.pointer (some ⟨bp, 0, none⟩), .pointer (some ⟨bl, 0, none⟩), .pointer (some ⟨bt, 0, none⟩)] encS T54 (fun k => k < w0.heap.size ∨ k = bt ∨ k = bl ∨ k = bp) (pth ts ls l ps) w := by
  intro lp J Jx W hW hJ hJx hY h0
  have hL : pth ts ls l ps = [⟨0, 0, chk l ps⟩] := by rw [pth, if_pos hbad]
  rw [hL] at hY ⊢
  have g3 := cell_keep hW h3
  have g4 := cell_keep hW h4
  have hC := Lib.hid (check_any l C e ps W (hps.keep RPj.keeps (hw.trans (hW.mono hw.size))))
  have hne : (chk l ps != 0) = true := by simp [hbad]
  clear hps hts hls h1 h2 h3 h4 hok hL hbad
  generalize chk l ps = r at *
  (refine callsIn_of_wp Tryz.func232 rfl trivial ?_ rfl; simp only [Tryz.ntmps232, List.size_toArray, List.length_cons, List.length_nil, Nat.reduceAdd, Nat.reduceSub, Array.replicate_succ, Array.replicate_zero, List.push_toArray, List.append_toArray, List.nil_append, List.cons_append])
  gi_wp2_with (refine ⟨trivial, ?_⟩; gi_at_call 233; refine (callsIn_wide.2 hC.out).mono ?_; rintro e w1 ⟨rfl, hb1⟩)
  obtain ⟨fn, tmps, assign, body, hy, hR⟩ := hY [] ⟨0, 0, r⟩ [] w1 rfl (hJ _ _ _ h0 (Turn.of_below hb1))
  rw [show encS ⟨0, 0, r⟩ = #[.int .i64 0, .agg #[.int .i64 0, .int .i64 r]] from rfl] at hy
  gi_wp2
  rw [hy]
  gi_wp2
  refine hR.mono ?_
  rintro e W3 (⟨rfl, hJ3, _⟩ | ⟨rfl, hJx3⟩)
  · gi_wp2
    refine bodyPost_ret (results_none rfl _ _ _) rfl ?_
    exact ⟨⟨_, rfl⟩, .inl hJ3⟩
  · gi_wp2
    refine bodyPost_ret (results_none rfl _ _ _) rfl ?_
    exact ⟨⟨_, rfl⟩, .inr ⟨[], _, [], rfl, hJx3⟩⟩
set_option maxRecDepth 100000 in
set_option maxHeartbeats 2000000 in
theorem path_seq1 (n : Nat) (hn : 1 ≤ n) (ts : List Ty) (ls : List Lc) (l : Int) (ps : List Pj) (A B C : Option Addr) (c d e bp bl bt : Nat) (w0 w : World) (hw : Below w0.heap.size w0 w) (h1 : w.cell? ⟨bt, 0, none⟩ = some (.slice A ts.length c)) (h2 : w.cell? ⟨bl, 0, none⟩ = some (.slice B ls.length d)) (h3 : w.cell? ⟨bp, 0, none⟩ = some (.int .i64 l)) (h4 : w.cell? ⟨bp, 1, none⟩ = some (.slice C ps.length e)) (hts : Slc 5 RTy w0 A c ts) (hls : Slc 2 RLc w0 B d ls) (hps : Slc 2 RPj w0 C e ps) (hok : Okay ts ls) (hgood : chk l ps = 0) (hbad : (ls.length : Int) ≤ l) :
    SeqL Fence.wide n Tryz.prog 232 #[.pointer (some ⟨bp, 0, none⟩), .pointer (some ⟨bl, 0, none⟩), .pointer (some ⟨bt, 0, none⟩)] encS T54 (fun k => k < w0.heap.size ∨ k = bt ∨ k = bl ∨ k = bp) (pth ts ls l ps) w := by
  intro lp J Jx W hW hJ hJx hY h0
  have hl : 0 ≤ l := by
    unfold chk at hgood
    split at hgood
    · cases hgood
    · omega
  have hL : pth ts ls l ps = [⟨0, 0, 3⟩] := by
    rw [pth, if_neg (by simp [hgood]), List.getElem?_eq_none (by omega)]
  rw [hL] at hY ⊢
  have g2 := cell_keep hW h2
  have g3 := cell_keep hW h3
  have g4 := cell_keep hW h4
  have hC := check_any l C e ps W (hps.keep RPj.keeps (hw.trans (hW.mono hw.size)))
  rw [hgood] at hC
  have HC := Lib.hid hC
  have hbig := hls.le
  have hbig2 := hls.big
  clear hC hps hts hls h1 h2 h3 h4 hok hL hgood
  (refine callsIn_of_wp Tryz.func232 rfl trivial ?_ rfl; simp only [Tryz.ntmps232, List.size_toArray, List.length_cons, List.length_nil, Nat.reduceAdd, Nat.reduceSub, Array.replicate_succ, Array.replicate_zero, List.push_toArray, List.append_toArray, List.nil_append, List.cons_append])
  gi_wp2_with (refine ⟨trivial, ?_⟩; gi_at_call 233; refine (callsIn_wide.2 HC.out).mono ?_; rintro e w1 ⟨rfl, hb1⟩; have q2 := cell_keep hb1 g2; have q3 := cell_keep hb1 g3)
  obtain ⟨fn, tmps, assign, body, hy, hR⟩ := hY [] ⟨0, 0, 3⟩ [] w1 rfl (hJ _ _ _ h0 (Turn.of_below hb1))
  rw [show encS ⟨0, 0, 3⟩ = #[.int .i64 0, .agg #[.int .i64 0, .int .i64 3]] from rfl] at hy
  gi_wp2
  rw [hy]
  gi_wp2
  refine hR.mono ?_
  rintro e W3 (⟨rfl, hJ3, _⟩ | ⟨rfl, hJx3⟩)
  · gi_wp2
    refine bodyPost_ret (results_none rfl _ _ _) rfl ?_
    exact ⟨⟨_, rfl⟩, .inl hJ3⟩
  · gi_wp2
    refine bodyPost_ret (results_none rfl _ _ _) rfl ?_
    exact ⟨⟨_, rfl⟩, .inr ⟨[], _, [], rfl, hJx3⟩⟩
end Go.Proofs.YtbnljlpefpllcaaGreatDoor
namespace Go.Proofs.YtbnljlpefpllcaaGreatDoor
open Go.RowKit
attribute [local go_sem] Oper.semAt_some
/-- What the loop knows of its place: the elements handed out, the one at hand, those to come. -/
structure At (ts : List Ty) (ps : List Pj) (L pre : List Stp) (k : Nat) (idx err : Int) (rest : List Stp) : Prop where
  all : L = pre ++ ⟨k, idx, err⟩ :: rest
  le : k ≤ ps.length
  good : err = 0 → 0 ≤ idx ∧ idx < ts.length ∧ (⟨k, idx, err⟩ :: rest : List Stp) = walkS ts idx k (ps.drop k)
  bad : err ≠ 0 → rest = []
theorem At.next {ts : List Ty} {ls : List Lc} (hok : Okay ts ls) {ps : List Pj} {L pre : List Stp} {k : Nat} {idx : Int} {rest : List Stp} (h : At ts ps L pre k idx 0 rest) (hk : k < ps.length) {t : Ty} (hi : ts[idx.toNat]? = some t) :
    ∃ rest', At ts ps L (pre ++ [⟨k, idx, 0⟩]) (k + 1) (prT t ps[k]).1 (prT t ps[k]).2 rest' := by
  obtain ⟨hall, hle, hg, _⟩ := h
  obtain ⟨h0, h1, h2⟩ := hg rfl
  have hmem : t ∈ ts := List.mem_of_getElem? hi
  rw [List.drop_eq_getElem_cons hk, walkS, hi] at h2
  simp only [List.cons.injEq, true_and] at h2
  by_cases he : (prT t ps[k]).2 = 0
  · rw [if_pos he] at h2
    have hx := prT_ok hok hmem ps[k] he
    generalize prT t ps[k] = y at *
    obtain ⟨y1, y2⟩ := y
    simp only [] at he
    subst he
    cases hr : rest with
    | nil =>
      rw [hr] at h2
      cases hd : ps.drop (k + 1) with
      | nil => rw [hd, walkS] at h2; cases h2
      | cons a r => rw [hd, walkS] at h2; cases h2
    | cons s r =>
      have hs : s = ⟨k + 1, y1, 0⟩ := by
        rw [hr] at h2
        cases hd : ps.drop (k + 1) with
        | nil => rw [hd, walkS] at h2; simp at h2; exact h2.1
        | cons a r => rw [hd, walkS] at h2; simp at h2; exact h2.1
      subst hs
      refine ⟨r, ⟨by rw [hall, hr]; simp, by omega, fun _ => ⟨hx.1, hx.2, by rw [← hr]; exact h2⟩, fun h => absurd rfl h⟩⟩
  · rw [if_neg he] at h2
    exact ⟨[], ⟨by rw [hall, h2]; simp, by omega, fun h => absurd h he, fun _ => rfl⟩⟩
theorem walkS_head (ts : List Ty) (i : Int) (k : Nat) : ∀ ps : List Pj, ∃ rest, walkS ts i k ps = ⟨k, i, 0⟩ :: rest
  | [] => ⟨_, by rw [walkS]⟩
  | _ :: _ => ⟨_, by rw [walkS]⟩
theorem blk2 {w : World} {k : Nat} {a b : Value} {t : TypeId} (h : w.heap[k]? = some (.cells #[a, b] t (0, 0))) :
    w.cell? ⟨k, 0, none⟩ = some a ∧ w.cell? ⟨k, 1, none⟩ = some b ∧ w.frozen? ⟨k, 0, none⟩ = false ∧ w.frozen? ⟨k, 1, none⟩ = false :=
  ⟨by rw [cell_of_row w _ 0 _ _ _ h]; rfl, by rw [cell_of_row w _ 1 _ _ _ h]; rfl, by simp [World.frozen?, h], by simp [World.frozen?, h]⟩
theorem blk_keep {w w' : World} {k : Nat} {o : Obj} (hb : Below w.heap.size w w') (h : w.heap[k]? = some o) : w'.heap[k]? = some o :=
  (hb.block k (Array.getElem?_eq_some_iff.1 h).1).trans h
theorem blk2_set {w : World} {k : Nat} {a b : Value} {t : TypeId} (x y : Value) (h : w.heap[k]? = some (.cells #[a, b] t (0, 0))) :
    ((w.setCell ⟨k, 0, none⟩ x).setCell ⟨k, 1, none⟩ y).heap[k]? = some (.cells #[x, y] t (0, 0)) := by
  simp [World.setCell, Array.getElem?_modify, h]
theorem blk1_set {w : World} {k : Nat} {a b : Value} {t : TypeId} (x : Value) (h : w.heap[k]? = some (.cells #[a, b] t (0, 0))) :
    (w.setCell ⟨k, 0, none⟩ x).heap[k]? = some (.cells #[x, b] t (0, 0)) := by
  simp [World.setCell, Array.getElem?_modify, h]
theorem turn_set2 {D : Nat} {T : TypeId → Bool} {w : World} {k : Nat} {a b : Value} {t : TypeId} (x y : Value) (h : w.heap[k]? = some (.cells #[a, b] t (0, 0))) (hD : D ≤ k) (hT : T t = true) :
    Turn D T w ((w.setCell ⟨k, 0, none⟩ x).setCell ⟨k, 1, none⟩ y) :=
  (Turn.setCell (p := ⟨k, 0, none⟩) x h hD hT).trans (Turn.setCell (p := ⟨k, 1, none⟩) y (blk1_set x h) hD hT)
set_option maxRecDepth 100000 in
set_option maxHeartbeats 4000000 in
theorem path_seq2 (n : Nat) (hn : 1 ≤ n) (ts : List Ty) (ls : List Lc) (l : Int) (ps : List Pj) (A B C : Option Addr) (c d e bp bl bt : Nat) (w0 w : World) (hw : Below w0.heap.size w0 w) (h1 : w.cell? ⟨bt, 0, none⟩ = some (.slice A ts.length c)) (h2 : w.cell? ⟨bl, 0, none⟩ = some (.slice B ls.length d)) (h3 : w.cell? ⟨bp, 0, none⟩ = some (.int .i64 l)) (h4 : w.cell? ⟨bp, 1, none⟩ = some (.slice C ps.length e)) (hts : Slc 5 RTy w0 A c ts) (hls : Slc 2 RLc w0 B d ls) (hps : Slc 2 RPj w0 C e ps) (hok : Okay ts ls) (hgood : chk l ps = 0) (j : Nat) (hj : l = j) (hlt : j < ls.length) :
    SeqL Fence.wide n Tryz.prog 232 #[.pointer (some ⟨bp, 0, none⟩), .pointer (some ⟨bl, 0, none⟩), .pointer (some ⟨bt, 0, none⟩)] encS T54 (fun k => k < w0.heap.size ∨ k = bt ∨ k = bl ∨ k = bp) (pth ts ls l ps) w := by
  intro lp J Jx W hW hJ hJx hY h0
  have hL : pth ts ls l ps = walkS ts ls[j].type 0 ps := by
    rw [pth, if_neg (by simp [hgood]), hj, Int.toNat_natCast, List.getElem?_eq_getElem hlt]
  have hty := hok.loc ls[j] (List.getElem_mem hlt)
  have hfld := Lib.hid (chkP_field ps (by
    unfold chk at hgood
    split at hgood
    · cases hgood
    · split at hgood
      · cases hgood
      · exact hgood))
  obtain ⟨bL, oL, rfl, hbL, r1, r2⟩ := hls.sl.at_ hlt
  have r2 := (hw.cell (p := ⟨bL, oL + j * 2 + 1, none⟩) hbL).trans r2
  have hat0 : ∃ rest, At ts ps (pth ts ls l ps) [] 0 ls[j].type 0 rest := by
    rw [hL]
    obtain ⟨rest, hr⟩ := walkS_head ts ls[j].type 0 ps
    exact ⟨rest, ⟨by rw [hr]; rfl, by simp, fun _ => ⟨hty.1, hty.2, by rw [List.drop_zero, hr]⟩, fun h => absurd rfl h⟩⟩
  generalize ls[j].type = ti at *
  have HA0 := Lib.hid hat0
  generalize pth ts ls l ps = L at *
  clear hL hat0 r1
  subst hj
  have hC := check_any j C e ps W (hps.keep RPj.keeps (hw.trans (hW.mono hw.size)))
  rw [hgood] at hC
  have HC := Lib.hid hC
  have q1 := cell_keep hW h1
  have q2 := cell_keep hW h2
  have q3 := cell_keep hW h3
  have q4 := cell_keep hW h4
  have q5 := cell_keep hW r2
  have l1 := World.block_lt_of_cell? w _ h1
  have l3 := World.block_lt_of_cell? w _ h3
  have hle := hls.le
  have hbig := hls.big
  have hd0 : decide (ls.length ≤ j) = false := by simpa using hlt
  clear hC hgood hls h2 hty
  (refine callsIn_of_wp Tryz.func232 rfl trivial ?_ rfl; simp only [Tryz.ntmps232, List.size_toArray, List.length_cons, List.length_nil, Nat.reduceAdd, Nat.reduceSub, Array.replicate_succ, Array.replicate_zero, List.push_toArray, List.append_toArray, List.nil_append, List.cons_append])
  gi_wp2_with (refine ⟨trivial, ?_⟩; gi_at_call 233; refine (callsIn_wide.2 HC.out).mono ?_; rintro e w1 ⟨rfl, hb1⟩; have z2 := cell_keep hb1 q2; have z3 := cell_keep hb1 q3; have z5 := cell_keep hb1 q5; have hb1' := hb1.size)
  gi_wp2
  gi_loopw [7] (fun v wr => ∃ (k : Nat) (pre rest : List Stp) (idx err : Int), v = .int .i64 k ∧ wr.heap[w1.heap.size]? = some (.cells #[.int .i64 idx, .int .i64 err] 288 (0, 0)) ∧ wr.heap[bt]? = w.heap[bt]? ∧ wr.heap[bp]? = w.heap[bp]? ∧ Below w0.heap.size w0 wr ∧ J pre wr ∧ Hid (At ts ps L pre k idx err rest)) (fun v _ => ps.length + 1 - (intOf v).toNat)
  case atStart =>
    obtain ⟨rest, hA⟩ := HA0.out
    have hwn : w.heap.size ≤ w1.heap.size := Nat.le_trans hW.size hb1'
    have hww := ((hW.trans (hb1.mono hW.size)).alloc hwn (.cells #[.int .i64 ti, .int .i64 0] 288))
    exact ⟨0, [], rest, ti, 0, rfl, heap_alloc_new w1 _, hww.block _ l1, hww.block _ l3, hw.trans (hww.mono hw.size), hJ _ _ _ h0 (Turn.trans (Turn.of_below hb1) (Turn.of_below ((Below.refl _ _).alloc (Nat.le_refl _) _))), Lib.hid hA⟩
  case round =>
    obtain ⟨k, pre, rest, idx, err, rfl, hbk, hbt, hbp, hB, hJp, hA⟩ := hrel
    have hBs : w.heap.size ≤ wr.heap.size := by have := (Array.getElem?_eq_some_iff.1 hbk).1; have := hW.size; omega
    obtain ⟨fn, tmps, assign, body, hy, hR⟩ := hY pre ⟨k, idx, err⟩ rest wr hA.out.all hJp
    rw [show encS ⟨k, idx, err⟩ = #[.int .i64 (k : Int), .agg #[.int .i64 idx, .int .i64 err]] from rfl] at hy
    have c0 : wr.cell? ⟨w1.heap.size, 0, none⟩ = some (.int .i64 idx) := by rw [cell_of_row wr _ 0 _ _ _ hbk]; rfl
    have c1 : wr.cell? ⟨w1.heap.size, 1, none⟩ = some (.int .i64 err) := by rw [cell_of_row wr _ 1 _ _ _ hbk]; rfl
    gi_wp2
    refine hR.mono ?_
    clear hy hR c0 c1
    rintro e W3 (⟨rfl, hJ3, hk3⟩ | ⟨rfl, hJx3⟩)
    · have hbk3 := hk3.same _ _ hb1' hbk rfl
      have hB3 := hB.trans (hk3.below (n₀ := w0.heap.size) (fun k hk => .inl hk) hB.size)
      have hbt3 := (hk3.low bt (.inr (.inl rfl)) (by omega)).trans hbt
      have hbp3 := (hk3.low bp (.inr (.inr (.inr rfl))) (by omega)).trans hbp
      have c0 : W3.cell? ⟨w1.heap.size, 0, none⟩ = some (.int .i64 idx) := by rw [cell_of_row W3 _ 0 _ _ _ hbk3]; rfl
      have c1 : W3.cell? ⟨w1.heap.size, 1, none⟩ = some (.int .i64 err) := by rw [cell_of_row W3 _ 1 _ _ _ hbk3]; rfl
      have y4 := (World.cell?_of_block (a := ⟨bp, 1, none⟩) hbp3).trans h4
      have hpl := hps.le
      have hpb := hps.big
      have hsz3 := hk3.size
      have hwn' : w.heap.size ≤ w1.heap.size := Nat.le_trans hW.size hb1'
      have hbtW : bt < W3.heap.size := by omega
      have hbpW : bp < W3.heap.size := by omega
      have hbtn := Lib.hid (show bt ≠ w1.heap.size by omega)
      have hbpn := Lib.hid (show bp ≠ w1.heap.size by omega)
      have hw0n := Lib.hid (show w0.heap.size ≤ w1.heap.size by have := hw.size; omega)
      have hbtH := Lib.hid hbt3
      have hbpH := Lib.hid hbp3
      clear q1 q2 q3 q4 q5 hB hbk hk3 hJp z2 z3 z5 h0 hbt hbp hbt3 hbp3
      by_cases herr : err = 0
      · have e1 : (err == 0) = true := by simp [herr]
        by_cases hk : k < ps.length
        · have hn0 := (hA.out.good herr).1
          have hn1 := (hA.out.good herr).2.1
          obtain ⟨ij, rfl⟩ := Int.eq_ofNat_of_zero_le hn0
          have hij : ij < ts.length := by omega
          obtain ⟨bC, oC, rfl, hbC, hrC⟩ := hps.sl.at_ hk
          obtain ⟨y5, y6⟩ := RPj.keeps _ _ _ w0.heap.size _ _ _ (Nat.le_refl _) hbC hB3 hrC
          have y1 := (World.cell?_of_block (a := ⟨bt, 0, none⟩) hbtH.out).trans h1
          have HP := Lib.hid (fun (X : World) (hb : Below w0.heap.size w0 X) => project_any ts ij _ ps[k] A c X (hts.keep RTy.keeps hb) hij rfl (fun _ => hfld.out _ (List.getElem_mem hk)))
          have HN := Lib.hid (At.next hok (by rw [herr] at hA; exact hA.out) hk (t := ts[ij]) (by rw [Int.toNat_natCast]; exact List.getElem?_eq_getElem hij))
          obtain ⟨rest', hA'⟩ := HN.out
          have HA' := Lib.hid hA'
          clear HN hA'
          have hwn : w.heap.size ≤ w1.heap.size := Nat.le_trans hW.size hb1'
          generalize prT ts[ij] ps[k] = y at *
          generalize ps[k] = x at *
          subst herr
          clear hA hts hps hn0 hrC
          gi_wp2
          refine wpIn_wide.2 ?_
          go_still_tail 8, (by kernel_rfl)
          change wpList _ _ _ _ _ W3.drew
          go_wp2_with (go_at_call 234; refine (HP.out _ hB3.drew).mono ?_; rintro e w4 ⟨rfl, hb4⟩; have hbk4 := blk_keep hb4 (show W3.drew.heap[w1.heap.size]? = _ from hbk3); obtain ⟨v0, v1, v2, v3⟩ := blk2 hbk4)
          gi_wp2
          go_roundw
          case rel => exact ⟨k + 1, pre ++ [⟨k, ij, 0⟩], rest', y.1, y.2, by go_num, blk2_set _ _ hbk4, (((Below.heap_setCell _ _ _ bt hbtn.out).trans (Below.heap_setCell _ _ _ bt hbtn.out)).trans (hb4.block bt hbtW)).trans hbtH.out, (((Below.heap_setCell _ _ _ bp hbpn.out).trans (Below.heap_setCell _ _ _ bp hbpn.out)).trans (hb4.block bp hbpW)).trans hbpH.out, ((hB3.drew.trans (hb4.mono hB3.drew.size)).setCell (p := ⟨w1.heap.size, 0, none⟩) hw0n.out _).setCell (p := ⟨w1.heap.size, 1, none⟩) hw0n.out _, hJ _ _ _ hJ3 ((Turn.of_below (A := W3) ⟨hb4.os, hb4.tape, hb4.output, hb4.size, hb4.block⟩).trans (turn_set2 _ _ hbk4 hb1' rfl)), HA'⟩
          case measure => simp [intOf]; omega
        · have hrest : Hid (L = pre ++ [⟨k, idx, err⟩]) := Lib.hid (by
            obtain ⟨a1, a2, a3, a4⟩ := hA.out
            obtain ⟨_, _, a5⟩ := a3 herr
            rw [List.drop_eq_nil_of_le (by omega), walkS] at a5
            rw [a1, a5, herr])
          clear hA herr
          gi_wp2
          go_end0
          exact ⟨⟨_, rfl⟩, .inl (by rw [hrest.out]; exact hJ3)⟩
      · have e1 : (err == 0) = false := by simp [herr]
        have hrest : Hid (L = pre ++ [⟨k, idx, err⟩]) := Lib.hid (by rw [hA.out.all, hA.out.bad herr])
        clear hA herr
        gi_wp2
        go_end0
        exact ⟨⟨_, rfl⟩, .inl (by rw [hrest.out]; exact hJ3)⟩
    · gi_wp2
      go_end0
      exact ⟨⟨_, rfl⟩, .inr ⟨pre, _, rest, hA.out.all, hJx3⟩⟩
end Go.Proofs.YtbnljlpefpllcaaGreatDoor
namespace Go.Proofs.YtbnljlpefpllcaaGreatDoor
open Go.RowKit Go.Shelf
attribute [local go_sem] Oper.semAt_some
theorem path_seq (n : Nat) (hn : 1 ≤ n) (ts : List Ty) (ls : List Lc) (l : Int) (ps : List Pj) (A B C : Option Addr) (c d e bp bl bt : Nat) (w0 w : World) (hw : Below w0.heap.size w0 w) (h1 : w.cell? ⟨bt, 0, none⟩ = some (.slice A ts.length c)) (h2 : w.cell? ⟨bl, 0, none⟩ = some (.slice B ls.length d)) (h3 : w.cell? ⟨bp, 0, none⟩ = some (.int .i64 l)) (h4 : w.cell? ⟨bp, 1, none⟩ = some (.slice C ps.length e)) (hts : Slc 5 RTy w0 A c ts) (hls : Slc 2 RLc w0 B d ls) (hps : Slc 2 RPj w0 C e ps) (hok : Okay ts ls) :
    SeqL Fence.wide n Tryz.prog 232 #[.pointer (some ⟨bp, 0, none⟩), .pointer (some ⟨bl, 0, none⟩), .pointer (some ⟨bt, 0, none⟩)] encS T54 (fun k => k < w0.heap.size ∨ k = bt ∨ k = bl ∨ k = bp) (pth ts ls l ps) w := by
  by_cases hg : chk l ps = 0
  · have hl : 0 ≤ l := by
      unfold chk at hg
      split at hg
      · cases hg
      · omega
    by_cases hlt : l < ls.length
    · exact path_seq2 n hn ts ls l ps A B C c d e bp bl bt w0 w hw h1 h2 h3 h4 hts hls hps hok hg l.toNat (by omega) (by omega)
    · exact path_seq1 n hn ts ls l ps A B C c d e bp bl bt w0 w hw h1 h2 h3 h4 hts hls hps hok hg (by omega)
  · exact path_seq0 n hn ts ls l ps A B C c d e bp bl bt w0 w hw h1 h2 h3 h4 hts hls hps hok hg
theorem below_put {n : Nat} {w W : World} {D : Nat} {o : Obj} (h : Below n w W) (hD : n ≤ D) : Below n w (W.putObj D o) :=
  h.trans ⟨rfl, rfl, rfl, by simp, fun k hk => World.putObj_heap_other (by omega)⟩
/-- The index and the error of the last element. -/
def lastS (l : List Stp) : Int × Int := match l.getLast? with
  | none => (0, 0)
  | some s => (s.idx, s.err)
theorem lastS_snoc (l : List Stp) (s : Stp) : lastS (l ++ [s]) = (s.idx, s.err) := by simp [lastS]
/-- What TypeOf answers. -/
def tyOf (ts : List Ty) (ls : List Lc) (l : Int) (ps : List Pj) : Int × Int := lastS (pth ts ls l ps)
set_option maxRecDepth 100000 in
set_option maxHeartbeats 4000000 in
theorem typeOf_any (ts : List Ty) (ls : List Lc) (l : Int) (ps : List Pj) (A B C : Option Addr) (c d e : Nat) (w : World) (hts : Slc 5 RTy w A c ts) (hls : Slc 2 RLc w B d ls) (hps : Slc 2 RPj w C e ps) (hok : Okay ts ls) :
    Calls Tryz.prog 182 #[.slice A ts.length c, .slice B ls.length d, .agg #[.int .i64 l, .slice C ps.length e]] w fun e' w' => e' = .returned (.tuple #[.int .i64 (tyOf ts ls l ps).1, .int .i64 (tyOf ts ls l ps).2]) ∧ Below w.heap.size w w' := by
  refine (callsIn_wide (n := 5)).1 ?_
  refine callsIn_of_wp_marks Tryz.func182 rfl trivial ?_ rfl
  simp only [Tryz.ntmps182, List.size_toArray, List.length_cons, List.length_nil, Nat.reduceAdd, Nat.reduceSub, Array.replicate_succ, Array.replicate_zero, List.push_toArray, List.append_toArray, List.nil_append, List.cons_append]
  gi_wp2_with (refine ⟨trivial, ?_⟩; gi_at_call 219; refine (callsIn_wide.2 (path_any _ _ _ _ _ _ _ _ _ _ _)).mono ?_; rintro e' w' ⟨rfl, rfl⟩)
  obtain ⟨W0, hW0⟩ : ∃ W0, ((((w.alloc (.cells #[.int .i64 l, .slice C ps.length e] 55)).alloc (.cells #[.int .i64 0, .int .i64 0] 288)).alloc (.cells #[.slice A ts.length c] 24)).alloc (.cells #[.slice B ls.length d] 25)).alloc (.cells #[.int .i64 l, .slice C ps.length e] 55) = W0 := ⟨_, rfl⟩
  rw [hW0]
  have hB0 : Below w.heap.size w W0 := by rw [← hW0]; (repeat (first | exact Below.refl _ _ | assumption | refine Below.alloc ?_ (by first | omega | (simp; done) | (simp; omega)) _ | refine below_drewN ?_ _ | refine Below.drew ?_ | refine Below.setCell ?_ (by first | omega | (simp; done) | (simp; omega)) _))
  have hz0 : W0.heap.size = w.heap.size + 1 + 1 + 1 + 1 + 1 := by subst hW0; simp
  have z1 : W0.heap[w.heap.size + 1]? = some (.cells #[.int .i64 0, .int .i64 0] 288 (0, 0)) := by
    subst hW0
    rw [Below.heap_alloc _ _ _ (by simp), Below.heap_alloc _ _ _ (by simp), Below.heap_alloc _ _ _ (by simp)]
    have := heap_alloc_new (w.alloc (.cells #[.int .i64 l, .slice C ps.length e] 55)) (.cells #[.int .i64 0, .int .i64 0] 288)
    rwa [World.size_alloc] at this
  have z2 : W0.cell? ⟨w.heap.size + 1 + 1, 0, none⟩ = some (.slice A ts.length c) := by subst hW0; go_simp
  have z3 : W0.cell? ⟨w.heap.size + 1 + 1 + 1, 0, none⟩ = some (.slice B ls.length d) := by subst hW0; go_simp
  have z4 : W0.cell? ⟨w.heap.size + 1 + 1 + 1 + 1, 0, none⟩ = some (.int .i64 l) := by subst hW0; go_simp
  have z5 : W0.cell? ⟨w.heap.size + 1 + 1 + 1 + 1, 1, none⟩ = some (.slice C ps.length e) := by subst hW0; go_simp
  have hseq := path_seq (5 - 1) (by omega) ts ls l ps A B C c d e _ _ _ w W0 hB0 z2 z3 z4 z5 hts hls hps hok
  clear hW0 z2 z3 z4 z5 hts hls hps hok
  refine wpIn_range rfl (by omega) (gf := 232) (lb := #[.pointer (some ⟨w.heap.size + 1 + 1 + 1 + 1, 0, none⟩), .pointer (some ⟨w.heap.size + 1 + 1 + 1, 0, none⟩), .pointer (some ⟨w.heap.size + 1 + 1, 0, none⟩)]) rfl trivial (enters_of Tryz.func232 (by kernel_rfl) rfl)
    hseq (Below.refl _ _) (by intro k hk; omega) (fun _ => rfl)
    (fun pre W => W.heap[w.heap.size + 1]? = some (.cells #[.int .i64 (lastS pre).1, .int .i64 (lastS pre).2] 288 (0, 0)) ∧ Below w.heap.size w W)
    (fun _ _ _ => False)
    (fun s A B hs ht => ⟨ht.block_low (by omega) hs.1, ht.below (by omega) (by have := hs.2.size; omega) hs.2⟩) (fun _ _ _ _ hs _ => hs)
    ⟨z1, hB0⟩ ?round ?done ?stop
  case round =>
    rintro lr pre x post W hL hlr ⟨r, hr⟩ hWs ⟨hb, hB⟩
    clear z1
    simp only [encS, List.zip_toArray, List.zip_cons_cons]
    gi_wp2
    refine ⟨(Kb.refl _ _ _ _).alloc _, fun W2 hrec => ?_⟩
    have hb2 := hrec.cells ((Below.heap_alloc W (.cells #[.int .i64 x.idx, .int .i64 x.err] 288) _ (Array.getElem?_eq_some_iff.1 hb).1).trans hb)
    have hn2 := hrec.cells (heap_alloc_new W (.cells #[.int .i64 x.idx, .int .i64 x.err] 288))
    obtain ⟨v0, v1, v2, v3⟩ := blk2 hb2
    obtain ⟨y0, y1, y2, y3⟩ := blk2 hn2
    have hB2 : Below w.heap.size w W2 := (hB.alloc hB.size (.cells #[.int .i64 x.idx, .int .i64 x.err] 288)).trans ⟨hrec.os, hrec.tape, hrec.output, by rw [hrec.size]; exact Nat.le_refl _, fun k hk => hrec.block k (by omega)⟩
    gi_wp2
    exact ⟨((Kb.refl _ _ _ _).setLow (p := ⟨w.heap.size + 1, 0, none⟩) _ (by simp) (by simp; omega)).setLow (p := ⟨w.heap.size + 1, 1, none⟩) _ (by simp) (by simp; omega), by rw [lastS_snoc]; exact blk2_set _ _ hb2, (hB2.setCell (p := ⟨w.heap.size + 1, 0, none⟩) (by simp) _).setCell (p := ⟨w.heap.size + 1, 1, none⟩) (by simp) _⟩
  case done =>
    rintro D W hD ⟨hb, hB⟩ hK
    obtain ⟨v0, v1, v2, v3⟩ := blk2 hb
    gi_wp2
    refine wpIn_wide.2 ?_
    go_quiet (fail)
    gi_wp2
    refine ⟨by simp, .inl ⟨_, _, rfl, run_takeDeferred (w := W.drewN _) hK, ?_⟩⟩
    exact ⟨_, results_tmp2 rfl _ _ _, rfl, below_put (below_drewN hB _) (by omega)⟩
  case stop => exact fun _ _ _ _ _ _ _ _ h => h.elim
end Go.Proofs.YtbnljlpefpllcaaGreatDoor
namespace Go.Proofs.YtbnljlpefpllcaaGreatDoor
open Go.RowKit
section
variable {P : Program} {ops : Array Oper} {Q : Exit → Act → World → Prop} {md : Region.Mode} {S : World → Prop} {t : Nat}
/-- Whatever order is picked from here on; S holds behind every operation below number t. -/
def wpAnyM (P : Program) (md : Region.Mode) (ops : Array Oper) (Q : Exit → Act → World → Prop) (S : World → Prop) (t : Nat) : Nat → Array Bool → Act → World → Prop
  | 0, listed, a, w => Region.ready md ops listed = [] ∧ Q .normal a w
  | fuel + 1, listed, a, w =>
    (Region.ready md ops listed = [] → Q .normal a w) ∧
    ∀ i ∈ Region.ready md ops listed, wpOp P ops Q i (fun a' w' => (i < t → S w') ∧ wpAnyM P md ops Q S t fuel (listed.setIfInBounds i true) a' w') a w
theorem wpAny_of_m : ∀ (fuel : Nat) (listed : Array Bool) (a : Act) (w : World), wpAnyM P md ops Q S t fuel listed a w → wpAny P md ops Q fuel listed a w
  | 0, _, _, _, h => h
  | fuel + 1, _, _, _, h => ⟨h.1, fun i hi => wpOp_mono (fun a' w' h' => wpAny_of_m fuel _ a' w' h'.2) (h.2 i hi)⟩
theorem wpAnyM_first {i : Nat} {oi : Oper} {v : Value} (hi : ops[i]? = some oi) (hsel : ∀ (j : Nat) (o : Oper) cs b, ops[j]? = some o → o.op ≠ .select cs b)
    (hQ : ∀ c a w, Q (.panic c) (a.put oi.dst v) w → Q (.panic c) a w) :
    ∀ (fuel : Nat) (listed : Array Bool) (a : Act) (w : World),
      (∀ j oj, ops[j]? = some oj → j ≠ i → listed.getD j true = false → (∀ e ∈ oj.after, Region.binds md e = true → e.on ≠ i) → oi.apart ops oj = true ∧ j < t) →
      i ∈ Region.ready md ops listed → YieldsIf P ops S oi v a → S w →
      wpAnyM P md ops Q S t fuel (listed.setIfInBounds i true) (a.put oi.dst v) w → wpAnyM P md ops Q S t (fuel + 1) listed a w := by
  intro fuel
  induction fuel with
  | zero =>
    intro listed a w _ hr hy hS H
    refine ⟨fun h => (by rw [h] at hr; cases hr), fun j hj => ?_⟩
    by_cases hji : j = i
    · subst hji; exact hy.wpOp hi hS ⟨fun _ => hS, H⟩
    · have := ready_mono hj hji
      rw [H.1] at this
      cases this
  | succ fuel ih =>
    intro listed a w hfree hr hy hS H
    refine ⟨fun h => (by rw [h] at hr; cases hr), fun j hj => ?_⟩
    by_cases hji : j = i
    · subst hji; exact hy.wpOp hi hS ⟨fun _ => hS, H⟩
    · have h1 := H.2 j (ready_mono hj hji)
      obtain ⟨hjun, oj, hoj, hall⟩ := mem_ready.1 hj
      have hnot : ∀ e ∈ oj.after, Region.binds md e = true → e.on ≠ i := fun e he hb heq => by
        have h1 := hall e he hb
        have h0 := (mem_ready.1 hr).1
        rw [heq] at h1
        rcases Nat.lt_or_ge i listed.size with h' | h'
        · simp [h'] at h0 h1; rw [h0] at h1; cases h1
        · simp [Array.getElem?_eq_none h'] at h1
      have h2 := wpOp_putIf hoj (hfree j oj hoj hji hjun hnot).1 (fun cs b => hsel i oi cs b hi) (fun cs b => hsel j oj cs b hoj) hQ hy h1
      have hjt := (hfree j oj hoj hji hjun hnot).2
      have hfree' : ∀ k ok, ops[k]? = some ok → k ≠ i → (listed.setIfInBounds j true).getD k true = false →
          (∀ e ∈ ok.after, Region.binds md e = true → e.on ≠ i) → oi.apart ops ok = true ∧ k < t := fun k ok hk hki hun hno => by
        refine hfree k ok hk hki ?_ hno
        by_cases hjk : j = k
        · subst hjk; exact hjun
        · rw [getD_set_ne true hjk] at hun; exact hun
      refine wpOp_mono (fun a' w' h3 => ⟨h3.2.1, ih (listed.setIfInBounds j true) a' w' hfree' (ready_mono hr (Ne.symm hji)) h3.1 (h3.2.1 hjt) ?_⟩) h2
      rw [Array.setIfInBounds_comm _ _ hji]
      exact h3.2.2
/-- Every operation from t on waits for number i, or has come up. -/
def lateB (md : Region.Mode) (ops : Array Oper) (t : Nat) (listed : Array Bool) (i : Nat) : Bool :=
  (List.range ops.size).all fun j => decide (j < t) || listed.getD j true || match ops[j]? with
    | some oj => oj.after.any (fun e => Region.binds md e && e.on == i)
    | none => true
theorem wpAnyM_take {i : Nat} {oi : Oper} {v : Value} {fuel : Nat} {listed : Array Bool} {a : Act} {w : World} (hi : ops[i]? = some oi)
    (hs : Region.noSelect ops = true) (hf : Region.free md ops listed i = true) (hl : lateB md ops t listed i = true) (hr : (Region.ready md ops listed).contains i = true)
    (hQ : ∀ c a w, Q (.panic c) (a.put oi.dst v) w → Q (.panic c) a w) (hy : YieldsIf P ops S oi v a) (hS : S w)
    (h : wpAnyM P md ops Q S t fuel (listed.setIfInBounds i true) (a.put oi.dst v) w) : wpAnyM P md ops Q S t (fuel + 1) listed a w :=
  wpAnyM_first hi (Region.noSelect_spec hs) hQ fuel listed a w (fun j oj hj hne hun hno => ⟨Region.free_spec hi hf j oj hj hne hun hno, by
    have h1 := List.all_eq_true.1 hl j (List.mem_range.2 (Array.getElem?_eq_some_iff.1 hj).1)
    simp only [hj, hun, Bool.or_false, Bool.or_eq_true, decide_eq_true_eq] at h1
    rcases h1 with h1 | h1
    · exact h1
    · obtain ⟨e, he, hb⟩ := Array.any_eq_true'.1 h1
      simp only [Bool.and_eq_true, beq_iff_eq] at hb
      exact absurd hb.2 (hno e he hb.1)⟩) (by simpa using hr) hy hS h
/-- The one operation that may come up is carried out. -/
theorem wpAnyM_one {i : Nat} {o : Oper} {fuel : Nat} {listed : Array Bool} {a : Act} {w : World} (hr : Region.ready md ops listed = [i]) (ho : ops[i]? = some o)
    (h : ∀ K' : Act → World → Prop, Shut (∀ a w, (i < t → S w) → wpAnyM P md ops Q S t fuel (listed.setIfInBounds i true) a w → K' a w) → if Region.wanted o (yielded ops a.tmps) = true then Oper.wp P o a w K' Q else K' (a.put o.dst undef) w) :
    wpAnyM P md ops Q S t (fuel + 1) listed a w :=
  ⟨fun h0 => (by rw [hr] at h0; cases h0), fun j hj => by
    rw [hr, List.mem_singleton] at hj
    subst hj
    exact wpOp_step ho (fun K' hK => h K' (fun a w hS hW => hK a w ⟨hS, hW⟩))⟩
theorem wpAnyM_done {listed : Array Bool} {a : Act} {w : World} (hr : Region.ready md ops listed = []) (h : Q .normal a w) : ∀ fuel, wpAnyM P md ops Q S t fuel listed a w
  | 0 => ⟨hr, h⟩
  | _ + 1 => ⟨fun _ => h, by rw [hr]; simp⟩
theorem wp_region_m {id : Nat} {a : Act} {w : World} (hm : P.follows .mixedOrders = true) (h : wpAnyM P .any ops Q S t ops.size (Array.replicate ops.size false) a w.drew) : (Code.region id ops true).wp P Q a w :=
  wp_region_any hm (wpAny_of_m _ _ _ _ h)
theorem wpInR_m {id : Nat} {a : Act} {w : World} {r m : Nat} (hm : P.follows .mixedOrders = true) (hnd : noDefer ops = true) (hout : ¬ LetsOut Q) (h : wpAnyM P .any ops Q S t ops.size (Array.replicate ops.size false) a w.drew) :
    (Code.region id ops true).wpIn (Fence.wide.inRound r) m P Q a w :=
  wpInR_any hm hnd hout (wpAny_of_m _ _ _ _ h)
end
end Go.Proofs.YtbnljlpefpllcaaGreatDoor
namespace Go.Proofs.YtbnljlpefpllcaaGreatDoor
open Go.RowKit Go.Shelf
attribute [local go_sem] Oper.semAt_some
/-- A type with where its fields lie. -/
structure TH where
  t : Ty
  A : Option Addr
  c : Nat
def cellsH (y : TH) : List Value := [.int .i64 y.t.kind, .bool y.t.mu, .int .i64 y.t.reg, .int .i64 y.t.elem, .slice y.A y.t.flds.length y.c]
def GoodH (w : World) (y : TH) : Prop := Sl 1 RInt w w.heap.size y.A y.t.flds ∧ y.t.flds.length ≤ y.c ∧ y.c ≤ 9223372036854775807
theorem GoodH.keep {w w' : World} {y : TH} (h : GoodH w y) (hb : Below w.heap.size w w') : GoodH w' y := ⟨h.1.keep RInt.keeps hb.size hb, h.2⟩
theorem flat_get {α : Type} {k : Nat} (f : α → List Value) (hf : ∀ y, (f y).length = k) : ∀ (ys : List α) (i : Nat) (y : α), ys[i]? = some y → ∀ j, j < k → (ys.flatMap f)[i * k + j]? = (f y)[j]?
  | [], i, y, h, _, _ => by simp at h
  | z :: zs, 0, y, h, j, hj => by
    simp only [List.getElem?_cons_zero, Option.some.injEq] at h
    subst h
    rw [List.flatMap_cons, Nat.zero_mul, Nat.zero_add, List.getElem?_append_left (by rw [hf]; exact hj)]
  | z :: zs, i + 1, y, h, j, hj => by
    rw [List.getElem?_cons_succ] at h
    rw [List.flatMap_cons, List.getElem?_append_right (by rw [hf, Nat.add_mul]; omega), hf, show (i + 1) * k + j - k = i * k + j by rw [Nat.add_mul]; omega]
    exact flat_get f hf zs i y h j hj
/-- An owned row of types reads as a slice of types. -/
theorem slc_of_rows {W : World} {base : Nat} {e : TypeId} {v : Value} {ys : List TH} (h : W.ownsRow base e 5 v ys.length (ys.flatMap cellsH)) (hg : ∀ y ∈ ys, GoodH W y) :
    ∃ A c, v = .slice A ys.length c ∧ Slc 5 RTy W A c (ys.map (·.t)) := by
  rcases h.2 with ⟨rfl, hn⟩ | ⟨g, cap, cur, rfl, hb, hh, hnc, hm, _, _⟩
  · have : ys = [] := List.eq_nil_of_length_eq_zero hn
    subst this
    exact ⟨none, 0, rfl, Sl.nil, by simp, by omega⟩
  · refine ⟨some ⟨g, 0, none⟩, cap, rfl, ⟨fun _ => ⟨g, 0, rfl, (Array.getElem?_eq_some_iff.1 hh).1, fun i x hx => ?_⟩, by simpa using hnc, by simp only [maxLen] at hm; omega⟩⟩
    rw [List.getElem?_map] at hx
    obtain ⟨y, hy, rfl⟩ := Option.map_eq_some_iff.1 hx
    have hc := fun j hj u hu => h.cells (g := g) rfl (i * 5 + j) u ((flat_get cellsH (fun _ => rfl) ys i y hy j hj).trans hu)
    have hadd : ∀ n, (⟨g, 0, none⟩ : Addr).add n = ⟨g, n, none⟩ := fun n => by unfold Addr.add; split <;> simp_all
    simp only [hadd] at hc
    have hgd := hg y (List.mem_of_getElem? hy)
    refine ⟨?_, ?_, ?_, ?_, y.A, y.c, ?_, hgd.2.1, hgd.2.2, hgd.1⟩
    · simpa using hc 0 (by omega) _ rfl
    · simpa using hc 1 (by omega) _ rfl
    · simpa using hc 2 (by omega) _ rfl
    · simpa using hc 3 (by omega) _ rfl
    · simpa using hc 4 (by omega) _ rfl
theorem infoTy : (Tryz.prog.info? 83).map (fun i => (i.zero, i.size, i.bytes)) = some (some (.agg #[.int .i64 0, .bool false, .int .i64 0, .int .i64 0, .slice none 0 0]), 5, 56) := by kernel_rfl
/-- What an element of the path adds to the references. -/
def refStep (ts : List Ty) (ps : List Pj) (s : Stp) : List Ty := match ps[s.num]? with
  | none => []
  | some x => if x.kind = 0 then (match ts[s.idx.toNat]? with | none => [] | some t => [t]) else []
def refsL (ts : List Ty) (ps : List Pj) (L : List Stp) : List Ty := L.flatMap (refStep ts ps)
theorem refsL_snoc (ts : List Ty) (ps : List Pj) (L : List Stp) (s : Stp) : refsL ts ps (L ++ [s]) = refsL ts ps L ++ refStep ts ps s := by simp [refsL]
theorem walkS_ok {ts : List Ty} {ls : List Lc} (hok : Okay ts ls) : ∀ (ps : List Pj) (i : Int) (k : Nat), 0 ≤ i → i < ts.length → ∀ s ∈ walkS ts i k ps, s.err = 0 → 0 ≤ s.idx ∧ s.idx < ts.length
  | [], i, k, h0, h1, s, hs, _ => by
    rw [walkS, List.mem_singleton] at hs
    subst hs
    exact ⟨h0, h1⟩
  | x :: r, i, k, h0, h1, s, hs, he => by
    rw [walkS, List.mem_cons] at hs
    rcases hs with rfl | hs
    · exact ⟨h0, h1⟩
    · have hi : i.toNat < ts.length := by omega
      rw [List.getElem?_eq_getElem hi] at hs
      simp only [] at hs
      split at hs
      · rename_i h2
        have h3 := prT_ok hok (List.getElem_mem hi) x h2
        exact walkS_ok hok r _ _ h3.1 h3.2 s hs he
      · rename_i h2
        rw [List.mem_singleton] at hs
        subst hs
        exact absurd he h2
theorem walkS_len (ts : List Ty) : ∀ (ps : List Pj) (i : Int) (k : Nat), (walkS ts i k ps).length ≤ ps.length + 1
  | [], i, k => by simp [walkS]
  | x :: r, i, k => by
    rw [walkS, List.length_cons, List.length_cons]
    split
    · simp
    · split
      · have := walkS_len ts r ((prT ‹Ty› x).1) (k + 1); omega
      · simp
theorem pth_ok {ts : List Ty} {ls : List Lc} (hok : Okay ts ls) (l : Int) (ps : List Pj) : ∀ s ∈ pth ts ls l ps, s.err = 0 → 0 ≤ s.idx ∧ s.idx < ts.length := by
  intro s hs he
  unfold pth at hs
  split at hs
  · rename_i h
    rw [List.mem_singleton] at hs
    subst hs
    exact absurd he h
  · split at hs
    · rw [List.mem_singleton] at hs
      subst hs
      cases he
    · rename_i x hx
      have := hok.loc x (List.mem_of_getElem? hx)
      exact walkS_ok hok ps _ _ this.1 this.2 s hs he
theorem pth_len (ts : List Ty) (ls : List Lc) (l : Int) (ps : List Pj) : (pth ts ls l ps).length ≤ 33 := by
  unfold pth
  split
  · simp
  · rename_i h
    have hp : ps.length ≤ 32 := by
      unfold chk at h
      split at h
      · simp at h
      · split at h
        · simp at h
        · omega
    split
    · simp
    · have := walkS_len ts ps (‹Lc› : Lc).type 0; omega
/-- What references hands back: the types, and whether there was no error. -/
def refsOf (ts : List Ty) (ls : List Lc) (l : Int) (ps : List Pj) : List Ty × Bool :=
  if (pth ts ls l ps).any (fun s => s.err != 0) then ([], false) else (refsL ts ps (pth ts ls l ps), true)
end Go.Proofs.YtbnljlpefpllcaaGreatDoor
namespace Go.Proofs.YtbnljlpefpllcaaGreatDoor
open Go.RowKit
theorem wpO_append {P : Program} {o : Oper} {a : Act} {w : World} {K : Act → World → Prop} {Q : Exit → Act → World → Prop} (s x : Operand) (t : TypeId)
    (ho : o.op = .call { callee := .builtin .append, args := #[s, x], argTypes := #[t, t] })
    (base : Nat) (e : TypeId) (i : TypeInfo) (z : Value) (size bytes : Nat) (ht : P.underlying t = some (.slice e)) (hi : P.info? e = some i) (hz : i.zero = some z)
    (hsize : i.size = size) (hby : i.bytes = bytes) (hzs : z.cells.size = size) (hsz : 0 < size)
    (v : Value) (n : Nat) (xs : List Value) (hs : a.eval s = v) (hown : w.ownsRow base e size v n xs)
    (ad : Addr) (m c : Nat) (news : List Value) (hx : a.eval x = .slice (some ad) m c) (hl : news.length = m * size) (hnews : ∀ j u, news[j]? = some u → w.cell? (ad.add j) = some u) (h1 : ∀ u ∈ news, u.oneCell' = true)
    (h63 : n + m ≤ maxLen) (hbytes : (n + m) * bytes ≤ 140737488355328) (hbase : base ≤ w.heap.size)
    (h : ∀ v' w', w'.ownsRow base e size v' (n + m) (xs ++ news) → w.grownBy w' v.ownBlock → (v'.ownBlock = v.ownBlock ∨ v'.ownBlock = some w.heap.size) → K (a.put o.dst v') w') : o.wp P a w K Q := by
  obtain ⟨v', w', hrun, h2, h3, _, h5⟩ := run_append_own_at (P := P) w base t o.type e i z size bytes ht hi hz hsize hby hzs hsz v n xs hown ad m c news hl hnews h1 h63 hbytes hbase
  unfold Oper.wp execOp
  simp only [ho, resolve, invoke, builtin, Sem.run_bind, Sem.run_pure, Result.andThen_ok, List.map_toArray, List.map_cons, List.map_nil, hs, hx, hrun]
  exact h v' w' h2 h3 h5
theorem own_ne {w : World} {base : Nat} {e t : TypeId} {size n g : Nat} {v : Value} {xs : List Value} {cs : Array Value} {z : Nat × Nat} (h : w.ownsRow base e size v n xs) (hg : w.heap[g]? = some (.cells cs t z)) (hne : e ≠ t) : some g ≠ v.ownBlock := by
  rcases h.2 with ⟨rfl, _⟩ | ⟨g', cap, cur, rfl, _, hh, _⟩
  · simp [Value.ownBlock]
  · intro he
    have : g = g' := by simpa [Value.ownBlock] using he
    subst this
    rw [hh] at hg
    injection hg with hg
    injection hg with _ ht
    exact hne ht
theorem own_ne_low {w : World} {base : Nat} {e : TypeId} {size n g : Nat} {v : Value} {xs : List Value} (h : w.ownsRow base e size v n xs) (hg : g < base) : some g ≠ v.ownBlock := fun he => by
  have := (h.lt g he.symm).1
  omega
end Go.Proofs.YtbnljlpefpllcaaGreatDoor
