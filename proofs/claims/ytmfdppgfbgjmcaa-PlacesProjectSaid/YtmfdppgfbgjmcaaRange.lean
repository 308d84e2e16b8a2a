/-
  A range over a function whose list of elements is known: a law for the statement, for an iterator that also writes variables of its own (blocks of the types T).
  The proof of the law follows the library's own law on such loops.
-/
import Derived.Test.YtmfdppgfbgjmcaaBase
import Derived.RangeFuncNested
import Derived.RangeFuncBound
import Derived.RangeFuncCalls
import Derived.RangeFuncLeaves
import Derived.OwnWalkIn
import Derived.TacticsInMore
import Derived.LoopNIn
import Derived.LoopIn
import Derived.StillTailTactics
namespace Go.Proofs.Ytmfdppgfbgjmcaa
open Go.RowKit
variable {F : Fence} {n : Nat} {P : Program}

/-- May the iterator turn this object? Whatever is no cells, and cells of the types T. -/
def lets (T : TypeId → Bool) : Obj → Bool
  | .cells _ e _ => T e
  | _ => true

/-- B is A, but for objects at or beyond D that the iterator may turn. -/
structure Turn (D : Nat) (T : TypeId → Bool) (A B : World) : Prop where
  os : B.os = A.os
  tape : B.tape = A.tape
  output : B.output = A.output
  size : A.heap.size ≤ B.heap.size
  low : ∀ k, k < D → k < A.heap.size → B.heap[k]? = A.heap[k]?
  same : ∀ (k : Nat) (o : Obj), A.heap[k]? = some o → lets T o = false → B.heap[k]? = some o

theorem Turn.refl (D : Nat) (T : TypeId → Bool) (A : World) : Turn D T A A := ⟨rfl, rfl, rfl, Nat.le_refl _, fun _ _ _ => rfl, fun _ _ h _ => h⟩
theorem Turn.trans {D : Nat} {T : TypeId → Bool} {A B C : World} (h : Turn D T A B) (k : Turn D T B C) : Turn D T A C :=
  ⟨k.os.trans h.os, k.tape.trans h.tape, k.output.trans h.output, Nat.le_trans h.size k.size, fun i hi hA => (k.low i hi (Nat.lt_of_lt_of_le hA h.size)).trans (h.low i hi hA), fun i o hA ho => k.same i o (h.same i o hA ho) ho⟩
theorem Turn.mono {D D' : Nat} {T : TypeId → Bool} {A B : World} (h : Turn D T A B) (hd : D' ≤ D) : Turn D' T A B := ⟨h.os, h.tape, h.output, h.size, fun k hk hA => h.low k (by omega) hA, h.same⟩
theorem Turn.of_below {D : Nat} {T : TypeId → Bool} {A B : World} (h : Below A.heap.size A B) : Turn D T A B :=
  ⟨h.os, h.tape, h.output, h.size, fun k _ hA => h.block k hA, fun k o hA _ => (h.block k (Array.getElem?_eq_some_iff.1 hA).1).trans hA⟩
theorem Turn.putObj {D : Nat} {T : TypeId → Bool} {A : World} {l : Nat} {o : Obj} (o' : Obj) (hl : A.heap[l]? = some o) (hD : D ≤ l) (ho : lets T o = true) : Turn D T A (A.putObj l o') :=
  ⟨rfl, rfl, rfl, by simp, fun k hk _ => World.putObj_heap_other (by omega), fun k o1 hA h1 => by
    refine (World.putObj_heap_other (fun e => ?_)).trans hA
    subst e
    rw [hl] at hA
    injection hA with hA
    rw [hA, h1] at ho
    cases ho⟩
theorem Turn.setCell {D : Nat} {T : TypeId → Bool} {A : World} {p : Addr} (u : Value) {cs : Array Value} {e : TypeId} {z : Nat × Nat} (hl : A.heap[p.block]? = some (.cells cs e z)) (hD : D ≤ p.block) (ho : T e = true) : Turn D T A (A.setCell p u) :=
  ⟨rfl, rfl, rfl, by simp, fun k hk _ => Below.heap_setCell A p u k (by omega), fun k o1 hA h1 => by
    refine (Below.heap_setCell A p u k (fun e' => ?_)).trans hA
    subst e'
    rw [hl] at hA
    injection hA with hA
    rw [← hA] at h1
    simp [lets, ho] at h1⟩
theorem Turn.below {D n₀ : Nat} {T : TypeId → Bool} {w A B : World} (h : Turn D T A B) (hn : n₀ ≤ D) (hs : n₀ ≤ A.heap.size) (hb : Below n₀ w A) : Below n₀ w B :=
  hb.trans ⟨h.os, h.tape, h.output, h.size, fun k hk => h.low k (by omega) (by omega)⟩
theorem Turn.cell_low {D : Nat} {T : TypeId → Bool} {A B : World} (h : Turn D T A B) {p : Addr} {v : Value} (hp : p.block < D) (hc : A.cell? p = some v) : B.cell? p = some v :=
  (World.cell?_of_block (h.low p.block hp (World.block_lt_of_cell? A p hc))).trans hc
theorem Turn.block_low {D : Nat} {T : TypeId → Bool} {A B : World} (h : Turn D T A B) {k : Nat} {o : Obj} (hp : k < D) (hc : A.heap[k]? = some o) : B.heap[k]? = some o :=
  (h.low k hp (Array.getElem?_eq_some_iff.1 hc).1).trans hc
theorem Turn.grownBy {D : Nat} {T : TypeId → Bool} {A B : World} (h : Turn D T A B) {base : Nat} {e : TypeId} {size : Nat} {v : Value} {m : Nat} {xs : List Value} (hT : T e = false) (ho : A.ownsRow base e size v m xs) : B.ownsRow base e size v m xs := by
  refine ⟨ho.1, ?_⟩
  rcases ho.2 with hn | ⟨g, cap, cur, hv, hg, hh, rest⟩
  · exact .inl hn
  · exact .inr ⟨g, cap, cur, hv, hg, h.same g _ hh (by simpa [lets] using hT), rest⟩

/-- What a round keeps: the blocks of N; what the iterator may turn, from D on. -/
structure Kb (N : Nat → Prop) (D : Nat) (T : TypeId → Bool) (A B : World) : Prop where
  os : B.os = A.os
  tape : B.tape = A.tape
  output : B.output = A.output
  size : A.heap.size ≤ B.heap.size
  low : ∀ k, N k → k < A.heap.size → B.heap[k]? = A.heap[k]?
  same : ∀ (k : Nat) (o : Obj), D ≤ k → A.heap[k]? = some o → lets T o = true → B.heap[k]? = some o

section
variable {N : Nat → Prop} {D : Nat} {T : TypeId → Bool} {A B C : World}
theorem Kb.refl (N : Nat → Prop) (D : Nat) (T : TypeId → Bool) (A : World) : Kb N D T A A := ⟨rfl, rfl, rfl, Nat.le_refl _, fun _ _ _ => rfl, fun _ _ _ h _ => h⟩
theorem Kb.trans (h : Kb N D T A B) (k : Kb N D T B C) : Kb N D T A C :=
  ⟨k.os.trans h.os, k.tape.trans h.tape, k.output.trans h.output, Nat.le_trans h.size k.size, fun i hN hi => (k.low i hN (Nat.lt_of_lt_of_le hi h.size)).trans (h.low i hN hi), fun i o hD hA ho => k.same i o hD (h.same i o hD hA ho) ho⟩
theorem Kb.mono {D' : Nat} (h : Kb N D T A B) (hd : D ≤ D') : Kb N D' T A B := ⟨h.os, h.tape, h.output, h.size, h.low, fun k o hk => h.same k o (by omega)⟩
theorem Kb.below (h : Kb N D T A B) {n₀ : Nat} (hN : ∀ k, k < n₀ → N k) (hs : n₀ ≤ A.heap.size) : Below n₀ A B := ⟨h.os, h.tape, h.output, h.size, fun k hk => h.low k (hN k hk) (by omega)⟩
theorem Kb.of_below (h : Below A.heap.size A B) : Kb N D T A B := ⟨h.os, h.tape, h.output, h.size, fun k _ hA => h.block k hA, fun k o _ hA _ => (h.block k (Array.getElem?_eq_some_iff.1 hA).1).trans hA⟩
theorem Kb.setLow (h : Kb N D T A B) {p : Addr} (u : Value) (h0 : ¬ N p.block) (hD : p.block < D) : Kb N D T A (B.setCell p u) :=
  ⟨h.os, h.tape, h.output, by simpa using h.size, fun k hN hA => (Below.heap_setCell B p u k (fun e => h0 (e ▸ hN))).trans (h.low k hN hA), fun k o hk hA ho => (Below.heap_setCell B p u k (by omega)).trans (h.same k o hk hA ho)⟩
theorem Kb.set_ (h : Kb N D T A B) {p : Addr} (u : Value) (h0 : ¬ N p.block) {cs : Array Value} {e : TypeId} {z : Nat × Nat} (hl : B.heap[p.block]? = some (.cells cs e z)) (hT : T e = false) : Kb N D T A (B.setCell p u) :=
  ⟨h.os, h.tape, h.output, by simpa using h.size, fun k hN hA => (Below.heap_setCell B p u k (fun e => h0 (e ▸ hN))).trans (h.low k hN hA), fun k o hk hA ho => by
    have hB := h.same k o hk hA ho
    refine (Below.heap_setCell B p u k (fun e' => ?_)).trans hB
    subst e'
    rw [hl] at hB
    injection hB with hB
    rw [← hB] at ho
    simp [lets, hT] at ho⟩
theorem Kb.alloc (h : Kb N D T A B) (o : Obj) : Kb N D T A (B.alloc o) := h.trans (Kb.of_below ((Below.refl _ _).alloc (Nat.le_refl _) _))
theorem Kb.then_ (h : Kb N D T A B) (hb : Below B.heap.size B C) : Kb N D T A C := h.trans (Kb.of_below hb)
theorem Kb.drewN (h : Kb N D T A B) (m : Nat) : Kb N D T A (B.drewN m) := ⟨h.os, h.tape, h.output, h.size, h.low, h.same⟩
theorem Kb.drew (h : Kb N D T A B) : Kb N D T A B.drew := ⟨h.os, h.tape, h.output, h.size, h.low, h.same⟩
theorem Kb.grown (h : Kb N D T A B) {row : Option Nat} (hg : B.grownBy C row) (hr : ∀ k, row = some k → (¬ N k ∨ A.heap.size ≤ k) ∧ (k < D ∨ A.heap.size ≤ k ∨ ∃ cs e z, B.heap[k]? = some (.cells cs e z) ∧ T e = false)) : Kb N D T A C :=
  ⟨hg.os.trans h.os, hg.tape.trans h.tape, hg.output.trans h.output, Nat.le_trans h.size hg.size, fun k hN hA => (hg.block k (Nat.lt_of_lt_of_le hA h.size) (fun e' => (hr k e'.symm).1.elim (fun h1 => h1 hN) (fun h1 => by omega))).trans (h.low k hN hA), fun k o hk hA ho => by
    have hB := h.same k o hk hA ho
    refine (hg.block k (Array.getElem?_eq_some_iff.1 hB).1 (fun e' => ?_)).trans hB
    have hlt := (Array.getElem?_eq_some_iff.1 hA).1
    rcases (hr k e'.symm).2 with h1 | h1 | ⟨cs, e, z, h1, hT⟩
    · omega
    · omega
    · rw [h1] at hB
      injection hB with hB
      rw [← hB] at ho
      simp [lets, hT] at ho⟩
end

/-- Only the loop's own record has turned. -/
structure Rec (l : Nat) (A B : World) : Prop where
  os : B.os = A.os
  tape : B.tape = A.tape
  output : B.output = A.output
  size : B.heap.size = A.heap.size
  block : ∀ k, k ≠ l → B.heap[k]? = A.heap[k]?
  was : ∃ r, A.heap[l]? = some (.loop r)
  now : ∃ r, B.heap[l]? = some (.loop r)
theorem Rec.cells {l : Nat} {A B : World} (h : Rec l A B) {k : Nat} {cs : Array Value} {e : TypeId} {z : Nat × Nat} (hk : A.heap[k]? = some (.cells cs e z)) : B.heap[k]? = some (.cells cs e z) :=
  (h.block k (fun e' => by subst e'; obtain ⟨r, hr⟩ := h.was; rw [hk] at hr; cases hr)).trans hk
theorem Rec.cell {l : Nat} {A B : World} (h : Rec l A B) {p : Addr} {v : Value} (hc : A.cell? p = some v) : B.cell? p = some v := by
  refine (World.cell?_of_block (h.block p.block (fun e => ?_))).trans hc
  obtain ⟨r, hr⟩ := h.was
  unfold World.cell? at hc
  rw [e, hr] at hc
  cases hc
theorem Rec.frozen {l : Nat} {A B : World} (h : Rec l A B) (p : Addr) : B.frozen? p = A.frozen? p := by
  by_cases e : p.block = l
  · obtain ⟨r, hr⟩ := h.was
    obtain ⟨r', hr'⟩ := h.now
    simp [World.frozen?, e, hr, hr']
  · exact World.frozen?_of_block (h.block _ e)
theorem Rec.turn {l D : Nat} {T : TypeId → Bool} {A B : World} (h : Rec l A B) (hD : D ≤ l) : Turn D T A B :=
  ⟨h.os, h.tape, h.output, by rw [h.size]; exact Nat.le_refl _, fun k hk _ => h.block k (by omega), fun k o hA ho => (h.block k (fun e => by subst e; obtain ⟨r, hr⟩ := h.was; rw [hr] at hA; injection hA with hA; rw [← hA] at ho; cases ho)).trans hA⟩

/-- The contract of an iterator that hands out the elements of L in order, and stops where a round says so. -/
def SeqL {α : Type} (F : Fence) (n : Nat) (P : Program) (g : Nat) (lb : Array Value) (encs : α → Array Value) (T : TypeId → Bool) (N : Nat → Prop) (L : List α) (w : World) : Prop :=
  ∀ (l : Nat) (J Jx : List α → World → Prop) (W : World), Below w.heap.size w W →
    (∀ s A B, J s A → Turn W.heap.size T A B → J s B) → (∀ s A B, Jx s A → Turn W.heap.size T A B → Jx s B) →
    (∀ pre x post W1, L = pre ++ x :: post → J pre W1 → YieldAt F (n - 1) P l (encs x) W1 fun e W' =>
      (e = .returned (.bool true) ∧ J (pre ++ [x]) W' ∧ Kb N W.heap.size T W1 W') ∨ (e = .returned (.bool false) ∧ Jx (pre ++ [x]) W')) →
    J [] W →
    CallsIn F n P g (#[.func (.yield l) #[] #[]] ++ lb) W fun e W' => (∃ v, e = .returned v) ∧ (J L W' ∨ ∃ pre x post, L = pre ++ x :: post ∧ Jx (pre ++ [x]) W')

/-- How the body of a round may be left. -/
def rPost {α : Type} (N : Nat → Prop) (D : Nat) (T : TypeId → Bool) (I : List α → World → Prop) (Ix : Code → List α → World → Prop) (xs : List α) (W : World) : Exit → Act → World → Prop
  | .normal, _, W' => Kb N D T W W' ∧ I xs W'
  | .ret, _, W' => Kb N D T W W' ∧ Ix .ret xs W'
  | .exit id, _, W' => Kb N D T W W' ∧ Ix (.exit id) xs W'
  | .goto t, _, W' => Kb N D T W W' ∧ Ix (.goto t) xs W'
  | .panic _, _, _ => False
  | .outgrown, _, _ => False

theorem rec_put {W : World} {l : Nat} {r : Loop} (r' : Loop) (hl : W.heap[l]? = some (.loop r)) : Rec l W (W.putObj l (.loop r')) :=
  ⟨rfl, rfl, rfl, by simp, fun k hk => World.putObj_heap_other hk, ⟨r, hl⟩, ⟨r', World.putObj_heap_same (Array.getElem?_eq_some_iff.1 hl).1⟩⟩

/-- The statement 'for .. := range seq' over such an iterator, outside every round. -/
theorem wpIn_range {α : Type} {g : Operand} {ps : Array Tmp} {assign body : Code} {Q : Exit → Act → World → Prop} {a : Act} {w : World}
    (hro : F.round = none) (h1 : 1 ≤ n) {gf : Nat} {lb : Array Value} (hg : a.eval g = .func (.func gf) #[] lb) (hFg : F.fn gf) (eg : ∀ args w, (callFunc gf args).run P w = .ok (.enter gf args) w)
    {encs : α → Array Value} {T : TypeId → Bool} {N : Nat → Prop} {L : List α} {w0 : World} (hseq : SeqL F (n - 1) P gf lb encs T N L w0) (hb0 : Below w0.heap.size w0 w) (hNl : ∀ k, N k → k < w.heap.size) (hps : ∀ x, (encs x).size = ps.size)
    (I : List α → World → Prop) (Ix : Code → List α → World → Prop) (hI : ∀ s A B, I s A → Turn w.heap.size T A B → I s B) (hIx : ∀ c s A B, Ix c s A → Turn w.heap.size T A B → Ix c s B) (h0 : I [] w)
    (hround : ∀ (l : Nat) (pre : List α) (x : α) (post : List α) (W : World), L = pre ++ x :: post → w.heap.size ≤ l → (∃ r, W.heap[l]? = some (.loop r)) → w.heap.size ≤ W.heap.size → I pre W →
      assign.wpIn (F.inRound l) (n - 1 - 1) P (Exit.then (fun a' W' => Kb N w.heap.size T W W' ∧ ∀ W'', Rec l W' W'' → body.wpIn (F.inRound l) (n - 1 - 1) P (rPost N w.heap.size T I Ix (pre ++ [x]) W'') a' W'') (fun _ _ _ => False))
        { tmps := (ps.zip (encs x)).foldl (fun t (p, v) => t.setIfInBounds p v) a.tmps, defers := [] } W)
    (hdone : ∀ (D : Nat) (W : World), w.heap.size ≤ D → I L W → W.heap[D]? = some (.deferred (some [])) → Q .normal { a with defers := { target := .collected D, args := #[] } :: a.defers } W)
    (hstop : ∀ (D : Nat) (c : Code) (pre : List α) (x : α) (post : List α) (W : World), w.heap.size ≤ D → L = pre ++ x :: post → Ix c (pre ++ [x]) W → W.heap[D]? = some (.deferred (some [])) → c.wpIn F n P Q { a with defers := { target := .collected D, args := #[] } :: a.defers } W) :
    (Code.rangeFunc g ps assign body).wpIn F n P Q a w := by
  refine wpIn_rangeFunc ?_
  intro fn hfn
  rw [hro]
  obtain ⟨rec, hrec⟩ : ∃ rec : LoopState → Option Code → Loop, rec = fun st pe => { state := st, pending := pe, fn, tmps := a.tmps, params := ps, assign, body, defers := w.heap.size } := ⟨_, rfl⟩
  obtain ⟨W1, hW1⟩ : ∃ W1, (w.alloc (.deferred (some []))).alloc (.loop (rec .ready none)) = W1 := ⟨_, rfl⟩
  have hL1 : W1.heap[w.heap.size + 1]? = some (.loop (rec .ready none)) := by
    rw [← hW1]; have := World.alloc_heap_new (w.alloc (.deferred (some []))) (.loop (rec .ready none)); rwa [World.size_alloc] at this
  have hK1 : W1.heap[w.heap.size]? = some (.deferred (some [])) := by
    rw [← hW1]; exact (Below.heap_alloc _ _ _ (by simp)).trans (World.alloc_heap_new w _)
  have hbw : Below w.heap.size w W1 := by rw [← hW1]; exact ((Below.refl _ w).alloc (Nat.le_refl _) _).alloc (by simp) _
  have hI1 : I [] W1 := hI _ _ _ h0 (Turn.of_below hbw)
  have hb1 : Below w0.heap.size w0 W1 := hb0.trans (hbw.mono hb0.size)
  have hsz : W1.heap.size = w.heap.size + 2 := by rw [← hW1]; simp
  refine ⟨w.heap.size + 1, [{ target := .collected w.heap.size, args := #[] }], W1, { target := .fn (.func gf) lb, args := #[.func (.yield (w.heap.size + 1)) #[] #[]] }, W1, gf,
    #[.func (.yield (w.heap.size + 1)) #[] #[]] ++ lb, W1, ?_, ?_, ?_, ?_, fun _ => h1, ?_⟩
  · rw [← hW1, hrec]; exact run_enterLoop_outer _ _ _ _ _
  · simp only [resolve, hg]
    simp [go_sem]
  · intro f' hf'; simp [Target.leads] at hf'; subst hf'; exact hFg
  · simp [invoke, go_sem, eg]
  · refine (hseq (w.heap.size + 1)
      (fun pre W => I pre W ∧ W.heap[w.heap.size + 1]? = some (.loop (rec .ready none)) ∧ W.heap[w.heap.size]? = some (.deferred (some [])) ∧ w.heap.size + 2 ≤ W.heap.size)
      (fun pre W => ∃ c, Ix c pre W ∧ W.heap[w.heap.size + 1]? = some (.loop (rec .done (some c))) ∧ W.heap[w.heap.size]? = some (.deferred (some [])))
      W1 hb1
      (fun s A B hs ht => ⟨hI s A B hs.1 (ht.mono (by omega)), ht.block_low (by omega) hs.2.1, ht.block_low (by omega) hs.2.2.1, Nat.le_trans hs.2.2.2 ht.size⟩)
      (fun s A B hs ht => by
        obtain ⟨c, hc, hl, hk⟩ := hs
        exact ⟨c, hIx c s A B hc (ht.mono (by omega)), ht.block_low (by omega) hl, ht.block_low (by omega) hk⟩)
      ?_ ⟨hI1, hL1, hK1, by omega⟩).mono ?_
    · rintro pre x post W hL ⟨hi, hl, hk, hws⟩
      have hy := run_yield (P := P) (args := encs x) hl (by rw [hrec]; exact hps x)
      rw [hrec] at hy
      refine ⟨fn, _, assign, body, hy, roundIn_of_wpIn hfn (wpIn_mono (hround _ pre x post W hL (by omega) ⟨_, hl⟩ (by omega) hi) ?_)⟩
      clear hy
      rintro e a1 Wa hq
      cases e with
      | normal =>
        obtain ⟨hka, hbody⟩ := hq
        have hla := hka.same _ _ (by omega) hl rfl
        have hkk := hka.same _ _ (Nat.le_refl _) hk rfl
        refine ⟨_, run_beginRound hla (by rw [hrec]), wpIn_mono (hbody _ (rec_put _ hla)) ?_⟩
        have hlb : (Wa.putObj (w.heap.size + 1) (.loop { rec .ready none with state := .busy })).heap[w.heap.size + 1]? = some (.loop { rec .ready none with state := .busy }) := World.putObj_heap_same (Array.getElem?_eq_some_iff.1 hla).1
        have hkb : (Wa.putObj (w.heap.size + 1) (.loop { rec .ready none with state := .busy })).heap[w.heap.size]? = some (.deferred (some [])) := (World.putObj_heap_other (by omega)).trans hkk
        have hsb : w.heap.size + 2 ≤ (Wa.putObj (w.heap.size + 1) (.loop { rec .ready none with state := .busy })).heap.size := by simp; exact Nat.le_trans hws hka.size
        have fin : ∀ (jump : Option Code) (W3 : World), Kb N w.heap.size T (Wa.putObj (w.heap.size + 1) (.loop { rec .ready none with state := .busy })) W3 →
            (Instr.endRound (w.heap.size + 1) jump).run P W3 = .ok (.bool jump.isNone) (W3.putObj (w.heap.size + 1) (.loop (rec (if jump.isNone then .ready else .done) jump))) ∧
            W3.heap[w.heap.size + 1]? = some (.loop { rec .ready none with state := .busy }) ∧
            (W3.putObj (w.heap.size + 1) (.loop (rec (if jump.isNone then .ready else .done) jump))).heap[w.heap.size + 1]? = some (.loop (rec (if jump.isNone then .ready else .done) jump)) ∧
            (W3.putObj (w.heap.size + 1) (.loop (rec (if jump.isNone then .ready else .done) jump))).heap[w.heap.size]? = some (.deferred (some [])) ∧
            Kb N W1.heap.size T W (W3.putObj (w.heap.size + 1) (.loop (rec (if jump.isNone then .ready else .done) jump))) ∧
            w.heap.size + 2 ≤ (W3.putObj (w.heap.size + 1) (.loop (rec (if jump.isNone then .ready else .done) jump))).heap.size := fun jump W3 hk3 => by
          have hl3 := hk3.same _ _ (by omega) hlb rfl
          have hr := run_endRound (P := P) jump hl3
          rw [hrec] at hr hl3 ⊢
          have kput : ∀ (X : World) (o o' : Obj), X.heap[w.heap.size + 1]? = some o → Kb N W1.heap.size T X (X.putObj (w.heap.size + 1) o') := fun X o o' hX =>
            ⟨rfl, rfl, rfl, by simp, fun k hk _ => World.putObj_heap_other (by have := hNl k hk; omega), fun k o1 hk hX1 _ => (World.putObj_heap_other (by omega)).trans hX1⟩
          rw [hrec] at hk3 hla
          refine ⟨hr, hl3, World.putObj_heap_same (Array.getElem?_eq_some_iff.1 hl3).1, (World.putObj_heap_other (by omega)).trans (hk3.same _ _ (Nat.le_refl _) (by rw [hrec] at hkb; exact hkb) rfl), ?_, ?_⟩
          · exact (((hka.mono (by omega)).trans (kput _ _ _ hla)).trans (hk3.mono (by omega))).trans (kput _ _ _ hl3)
          · have h5 := hk3.size
            rw [World.putObj_size] at h5 ⊢
            exact Nat.le_trans (by rw [World.putObj_size] at hsb; exact hsb) h5
        rintro e a3 W3 hp
        cases e with
        | normal =>
          obtain ⟨hk3, hi3⟩ := hp
          obtain ⟨hr, hl3, hl4, hk4, hk5, hs5⟩ := fin none W3 hk3
          exact ⟨_, _, hr, .inl ⟨rfl, ⟨hI _ _ _ hi3 (Turn.putObj _ hl3 (by omega) rfl), hl4, hk4, hs5⟩, hk5⟩⟩
        | ret =>
          obtain ⟨hk3, hi3⟩ := hp
          obtain ⟨hr, hl3, hl4, hk4, hk5, hs5⟩ := fin (some .ret) W3 hk3
          exact ⟨_, _, hr, .inr ⟨rfl, .ret, hIx _ _ _ _ hi3 (Turn.putObj _ hl3 (by omega) rfl), hl4, hk4⟩⟩
        | exit id =>
          obtain ⟨hk3, hi3⟩ := hp
          obtain ⟨hr, hl3, hl4, hk4, hk5, hs5⟩ := fin (some (.exit id)) W3 hk3
          exact ⟨_, _, hr, .inr ⟨rfl, .exit id, hIx _ _ _ _ hi3 (Turn.putObj _ hl3 (by omega) rfl), hl4, hk4⟩⟩
        | goto t =>
          obtain ⟨hk3, hi3⟩ := hp
          obtain ⟨hr, hl3, hl4, hk4, hk5, hs5⟩ := fin (some (.goto t)) W3 hk3
          exact ⟨_, _, hr, .inr ⟨rfl, .goto t, hIx _ _ _ _ hi3 (Turn.putObj _ hl3 (by omega) rfl), hl4, hk4⟩⟩
        | panic ch => exact hp.elim
        | outgrown => exact hp.elim
      | exit id => exact hq.elim
      | goto t => exact hq.elim
      | ret => exact hq.elim
      | panic chain => exact hq.elim
      | outgrown => exact hq.elim
    · rintro e W2 ⟨⟨v, rfl⟩, (⟨hi, hl, hk, _⟩ | ⟨pre, x, post, hL, c, hi, hl, hk⟩)⟩
      · exact ⟨none, _, by have := run_endLoop (P := P) hl (by rw [hrec]; simp); rw [hrec] at this; exact this, hdone _ _ (Nat.le_refl _) (hI _ _ _ hi (Turn.putObj _ hl (by omega) rfl)) ((World.putObj_heap_other (by omega)).trans hk)⟩
      · exact ⟨some c, _, by have := run_endLoop (P := P) hl (by rw [hrec]; simp); rw [hrec] at this; exact this, hstop _ c pre x post _ (Nat.le_refl _) hL (hIx c _ _ _ hi (Turn.putObj _ hl (by omega) rfl)) ((World.putObj_heap_other (by omega)).trans hk)⟩

/-! A region within a round, walked by the plain words. -/

def noDefer (ops : Array Oper) : Bool := ops.all fun o => match o.op with | .defer _ => false | _ => true
theorem noDefer_spec {ops : Array Oper} (h : noDefer ops = true) {i : Nat} {o : Oper} (hi : ops[i]? = some o) : ∀ c, o.op ≠ .defer c := by
  intro c hc
  unfold noDefer at h
  rw [Array.all_eq_true] at h
  obtain ⟨hlt, he⟩ := Array.getElem?_eq_some_iff.1 hi
  have := h i hlt
  rw [he, hc] at this
  cases this

theorem wpOpsIn_of_wpOps {ops : Array Oper} {Q : Exit → Act → World → Prop} {r m : Nat} (hnd : noDefer ops = true) (hout : ¬ LetsOut Q) :
    ∀ (l : List Nat) (a : Act) (w : World), wpOps P ops Q l a w → wpOpsIn (Fence.wide.inRound r) m P ops Q l a w := by
  intro l
  induction l with
  | nil => intro a w h; exact h
  | cons i rest ih =>
    intro a w h
    simp only [wpOps, wpOpsIn] at h ⊢
    cases ho : ops[i]? with
    | none => simp only [ho] at h ⊢; exact ih _ _ h
    | some o =>
      simp only [ho] at h ⊢
      by_cases hw : Region.wanted o (yielded ops a.tmps) = true
      · rw [if_pos hw] at h ⊢
        rcases h with h | h
        · refine ⟨fun _ _ => trivial, ?_⟩
          show o.uponIn _ m P a _ Q ((o.semAt (some r) a.eval).run P w)
          rw [Oper.semAt_some r a.eval o (noDefer_spec hnd ho)]
          unfold Oper.wp at h
          generalize (execOp a.eval o).run P w = res at h ⊢
          cases res with
          | ok nx w' =>
            cases nx with
            | value v => exact ih _ _ h
            | skip => exact ih _ _ h
            | defer d => exact ih _ _ h
            | enter f args =>
              refine ⟨(fun h0 => nomatch h0), callsIn_wide.2 (Calls.mono h fun e w'' he => ?_)⟩
              cases e with
              | returned v => exact ih _ _ he
              | panicked c => exact he
              | outgrown => exact he
            | row row args =>
              refine ⟨(fun h0 => nomatch h0), fun c cs _ => ?_⟩
              obtain ⟨v, w'', hR, hs⟩ := h c cs
              exact ⟨v, w'', ih _ _ hR, stepsIn_wide.2 hs⟩
            | _ => exact h.elim
          | halt x w' =>
            cases x with
            | panic v => exact h
            | _ => exact h.elim
        · exact absurd h.2 hout
      · rw [if_neg hw] at h ⊢
        exact ⟨fun _ _ => trivial, ih _ _ h⟩

theorem wpInR_any {ops : Array Oper} {Q : Exit → Act → World → Prop} {r m : Nat} {id : Nat} {a : Act} {w : World} (hm : P.follows .mixedOrders = true) (hnd : noDefer ops = true) (hout : ¬ LetsOut Q)
    (h : wpAny P .any ops Q ops.size (Array.replicate ops.size false) a { w with drawn := w.drawn + 1 }) : (Code.region id ops true).wpIn (Fence.wide.inRound r) m P Q a w :=
  wpIn_region_draw fun t => by
    simp only [Region.schedule, hm, Bool.true_or, if_true]
    exact wpOpsIn_of_wpOps hnd hout _ _ _ (wpAny_sound ops.size t _ a _ h)

/-- A region of a round that draws its order, all but the last operations quiet. -/
theorem wpInR_still_tail {id : Nat} {Q : Exit → Act → World → Prop} {a : Act} {w : World} {r m : Nat} {l : List Oper} (n : Nat) (hm : P.follows .mixedOrders = true) (hnd : noDefer l.toArray = true) (hout : ¬ LetsOut Q) (hB : Region.lexTailB .any l.toArray n = true)
    (h : wpStill P l.toArray { w with drawn := w.drawn + 1 } (fun a' => wpList P l.toArray Q (l.drop n) a' { w with drawn := w.drawn + 1 }) (l.take n) a) : (Code.region id l.toArray true).wpIn (Fence.wide.inRound r) m P Q a w := by
  simp only [Region.lexTailB, Bool.and_eq_true, decide_eq_true_eq] at hB
  obtain ⟨⟨⟨⟨hsel, hn⟩, hs⟩, hc⟩, hlex⟩ := hB
  have hn' : n < l.length := by simpa using hn
  have htl : (l.take n).length = n := by simp; omega
  have hdl : (l.drop n).length = l.toArray.size - n := by simp
  have inv0 : HeadInv .any l.toArray n (Array.replicate l.toArray.size false) :=
    ⟨by simp, fun j oj _ hl => (by rw [getD_replicate_false] at hl; cases hl), fun t _ ht => getD_in (by simpa using ht) (getD_replicate_false _ _)⟩
  have H := wpAnyL_lex (md := .any) (g := l.toArray.size - n) hsel hs hc hn (l.take n) 0 _ a (fun j hj => by
    have hj' : j < n := by rw [htl] at hj; exact hj
    simp [hj']) (by simpa using htl) inv0 (by rw [htl]; exact hlex) h
  refine wpInR_any hm hnd hout ?_
  have := wpAny_of_head (Q' := Q) (g := l.toArray.size - n) (fun listed a' hL => by
    have := wpAny_of_seq (md := .any) (Q' := Q) (l.drop n) n listed a' { w with drawn := w.drawn + 1 } (fun j => by simp [List.getElem?_drop]) (by rw [hdl]; exact hL.1) hL.2
    rwa [hdl] at this) _ _ _ H
  rw [htl, show n + (l.toArray.size - n) = l.toArray.size by omega] at this
  exact this

/-- A region of a round in the order of the text. -/
theorem wpInR_list {id : Nat} {Q : Exit → Act → World → Prop} {a : Act} {w : World} {r m : Nat} {l : List Oper} (hnd : noDefer l.toArray = true) (hout : ¬ LetsOut Q)
    (h : wpList P l.toArray Q l a w) : (Code.region id l.toArray false).wpIn (Fence.wide.inRound r) m P Q a w :=
  wpIn_region (wpOpsIn_of_wpOps hnd hout _ _ _ (by
    rw [List.range_eq_range', ← Array.length_toList, wpOps_eq_wpList l.toArray.toList 0 (by simp)]
    simpa using h))

end Go.Proofs.Ytmfdppgfbgjmcaa
