/-
  Parts of the proof: Map T1 Memo.
-/
import Derived.Test.YtbnljlpefpllcaaGreatDoorMD1
import Derived.Maps.OwnSet
import Derived.Maps.OwnOps
import Derived.StringKeys
import Derived.Lib.SlicesCompact
import Derived.WideKeyPair
import Derived.WideKeyArr
namespace Go.Proofs.YtbnljlpefpllcaaGreatDoor
open Go Go.RowKit Go.Maps
def OwnB (P : Program) (k e : TypeId) (w : World) (b n : Nat) (f : Lit → Bool) : Prop :=
  ∃ D : DataW Unit, w.ownsMap P k (plainElem P e) b n D ∧ ∀ kl, D.atKey kl (.lit (.bool false)) = .lit (.bool (f kl))
def strF (g : List UInt8 → Bool) : Lit → Bool
  | .string l => g l
  | _ => false
section
variable {P : Program} {k e : TypeId} {w : World} {b n : Nat} {f : Lit → Bool}
theorem plainBool (he : P.underlying e = some .bool) (v : Bool) : plainElem (H := Unit) P e (.bool v) = some (.lit (.bool v), []) := plainElem_bool he v
theorem plainBool_inv (he : P.underlying e = some .bool) {v : Value} {z : DataW Unit × List MemPlace} (h : plainElem P e v = some z) : ∃ x, v = .bool x ∧ z = (.lit (.bool x), []) := by
  unfold plainElem at h
  rw [he] at h
  cases v <;> simp at h
  exact ⟨_, rfl, h.symm⟩
theorem OwnB.made (w : World) (P : Program) (k e : TypeId) : OwnB P k e (w.alloc (.map #[] 0)) w.heap.size 0 (fun _ => false) :=
  ⟨.map [], World.ownsMap_made w P k _, fun _ => rfl⟩
theorem OwnB.kept {w' : World} {row : Option Nat} (h : OwnB P k e w b n f) (hg : w.grownBy w' row) (hne : some b ≠ row) : OwnB P k e w' b n f := by
  obtain ⟨D, h1, h2⟩ := h
  exact ⟨D, h1.kept hg hne, h2⟩
theorem OwnB.alloc (h : OwnB P k e w b n f) (o : Obj) : OwnB P k e (w.alloc o) b n f := h.kept (World.grownBy_alloc w o none) (by simp)
theorem OwnB.lt (h : OwnB P k e w b n f) : b < w.heap.size := by
  obtain ⟨D, h1, _⟩ := h
  exact h1.lt
theorem OwnB.block {w' : World} (h : OwnB P k e w b n f) (hb : w'.heap[b]? = w.heap[b]?) : OwnB P k e w' b n f := by
  obtain ⟨D, ⟨es, clock, h1, h3, h4, h5⟩, h2⟩ := h
  exact ⟨D, ⟨es, clock, hb.trans h1, h3, h4, h5⟩, h2⟩
theorem OwnB.below {w' : World} (h : OwnB P k e w b n f) (hb : Below w.heap.size w w') : OwnB P k e w' b n f := h.block (hb.block b h.lt)
theorem OwnB.look {t : TypeId} (h : OwnB P k e w b n f) (K : Keyed P k) (ht : P.underlying t = some (.map k e)) (he : P.underlying e = some .bool) (hz : (zeroValue e).run P w = .ok (.bool false) w)
    {key : Value} {kl : Lit} (hkey : keyOf P k key = some kl) : (Instr.lookup t (.map (some b)) key false).run P w = .ok (.bool (f kl)) w := by
  obtain ⟨D, h1, h2⟩ := h
  obtain ⟨v, ps, hrun, hv⟩ := h1.lookup K ht hz (plainBool he false) hkey
  obtain ⟨x, rfl, hx⟩ := plainBool_inv he hv
  rw [h2] at hx
  injection hx with hx
  injection hx with hx
  injection hx with hx
  rw [hrun, hx]
theorem OwnB.store {t : TypeId} (h : OwnB P k e w b n f) (K : Keyed P k) (ht : P.underlying t = some (.map k e)) (he : P.underlying e = some .bool) (hn : n < maxLen)
    {key : Value} {kl : Lit} (hkey : keyOf P k key = some kl) (hk : WideAt.IsKeyLit kl) (v : Bool) {f' : Lit → Bool} (f1 : f' kl = v) (f2 : ∀ x, x ≠ kl → f' x = f x) :
    ∃ w', (Instr.mapUpdate t (.map (some b)) key (.bool v)).run P w = .ok () w' ∧ OwnB P k e w' b (n + 1) f' ∧ w.grownBy w' (some b) := by
  obtain ⟨D, h1, h2⟩ := h
  obtain ⟨w', hrun, h3, h4⟩ := h1.update K ht hn hkey (plainBool he v)
  refine ⟨w', hrun, ⟨_, h3, fun x => ?_⟩, h4⟩
  by_cases hx : x = kl
  · subst hx
    rw [atKey_put_same h1.isMap hk, f1]
  · rw [atKey_put_other hx, f2 x hx, h2]
end
theorem wpList_lookB {P : Program} (w : World) {ops : Array Oper} {rest : List Oper} {o : Oper} {a : Act} {Q : Exit → Act → World → Prop}
    (hg : o.guard = none) (m x : Operand) (t : TypeId) (hop : o.op = Op.lookup t m x false)
    (k e : TypeId) (K : Keyed P k) (ht : P.underlying t = some (.map k e)) (he : P.underlying e = some .bool) (hz : (zeroValue e).run P w = .ok (.bool false) w) (b n : Nat) (f : Lit → Bool)
    (hm : a.eval m = .map (some b)) (hown : OwnB P k e w b n f) (key : Value) (kl : Lit) (hx : a.eval x = key) (hkey : keyOf P k key = some kl)
    (hK : wpList P ops Q rest (a.put o.dst (.bool (f kl))) w) :
    wpList P ops Q (o :: rest) a w := by
  refine wpList_plain hg fun K' hK' => ?_
  unfold Oper.wp
  simp [execOp, hop, hm, hx, hown.look K ht he hz hkey, Result.andThen]
  exact hK' _ _ hK
theorem wpList_storeB {P : Program} (w : World) {ops : Array Oper} {rest : List Oper} {o : Oper} {a : Act} {Q : Exit → Act → World → Prop}
    (hg : o.guard = none) (m x v : Operand) (t : TypeId) (hop : o.op = Op.mapUpdate t m x v)
    (k e : TypeId) (K : Keyed P k) (ht : P.underlying t = some (.map k e)) (he : P.underlying e = some .bool) (b n : Nat) (f : Lit → Bool)
    (hm : a.eval m = .map (some b)) (hown : OwnB P k e w b n f) (hn : n < maxLen) (key : Value) (kl : Lit) (val : Bool) (hx : a.eval x = key) (hv : a.eval v = .bool val) (hkey : keyOf P k key = some kl) (hk : WideAt.IsKeyLit kl)
    (f' : Lit → Bool) (f1 : f' kl = val) (f2 : ∀ x, x ≠ kl → f' x = f x)
    (hK : ∀ w', OwnB P k e w' b (n + 1) f' → w.grownBy w' (some b) → wpList P ops Q rest (a.put o.dst undef) w') :
    wpList P ops Q (o :: rest) a w := by
  refine wpList_plain hg fun K' hK' => ?_
  obtain ⟨w', hrun, r1, r2⟩ := hown.store K ht he hn hkey hk val f1 f2
  unfold Oper.wp
  simp [execOp, hop, hm, hx, hv, hrun, Result.andThen]
  exact hK' _ _ (hK w' r1 r2)
/-- A map of the call's own, told by the very values that are kept; z where nothing is. -/
def OwnV (P : Program) (k : TypeId) (w : World) (b n : Nat) (f : Lit → Value) (z : Value) : Prop :=
  ∃ D : DataW Value, w.ownsMap P k (fun v => some (.held v, [])) b n D ∧ ∀ kl, D.atKey kl (.held z) = .held (f kl)
section
variable {P : Program} {k : TypeId} {w : World} {b n : Nat} {f : Lit → Value} {z : Value}
theorem OwnV.made (w : World) (P : Program) (k : TypeId) (z : Value) : OwnV P k (w.alloc (.map #[] 0)) w.heap.size 0 (fun _ => z) z :=
  ⟨.map [], World.ownsMap_made w P k _, fun _ => rfl⟩
theorem OwnV.lt (h : OwnV P k w b n f z) : b < w.heap.size := by
  obtain ⟨D, h1, _⟩ := h
  exact h1.lt
theorem OwnV.block {w' : World} (h : OwnV P k w b n f z) (hb : w'.heap[b]? = w.heap[b]?) : OwnV P k w' b n f z := by
  obtain ⟨D, ⟨es, clock, h1, h3, h4, h5⟩, h2⟩ := h
  exact ⟨D, ⟨es, clock, hb.trans h1, h3, h4, h5⟩, h2⟩
theorem OwnV.look {t e : TypeId} (h : OwnV P k w b n f z) (K : Keyed P k) (ht : P.underlying t = some (.map k e)) (hz : (zeroValue e).run P w = .ok z w)
    {key : Value} {kl : Lit} (hkey : keyOf P k key = some kl) : (Instr.lookup t (.map (some b)) key false).run P w = .ok (f kl) w := by
  obtain ⟨D, h1, h2⟩ := h
  obtain ⟨v, ps, hrun, hv⟩ := h1.lookup K ht hz rfl hkey
  rw [h2] at hv
  injection hv with hv
  injection hv with hv
  injection hv with hv
  rw [hrun, hv]
theorem OwnV.store {t e : TypeId} (h : OwnV P k w b n f z) (K : Keyed P k) (ht : P.underlying t = some (.map k e)) (hn : n < maxLen)
    {key : Value} {kl : Lit} (hkey : keyOf P k key = some kl) (hk : WideAt.IsKeyLit kl) (v : Value) {f' : Lit → Value} (f1 : f' kl = v) (f2 : ∀ x, x ≠ kl → f' x = f x) :
    ∃ w', (Instr.mapUpdate t (.map (some b)) key v).run P w = .ok () w' ∧ OwnV P k w' b (n + 1) f' z ∧ w.grownBy w' (some b) := by
  obtain ⟨D, h1, h2⟩ := h
  obtain ⟨w', hrun, h3, h4⟩ := h1.update K ht hn hkey (d := .held v) rfl
  refine ⟨w', hrun, ⟨_, h3, fun x => ?_⟩, h4⟩
  by_cases hx : x = kl
  · subst hx
    rw [atKey_put_same h1.isMap hk, f1]
  · rw [atKey_put_other hx, f2 x hx, h2]
end
/-- What a store in a block above base leaves. -/
theorem below_grown {w w' : World} {b n : Nat} (hg : w.grownBy w' (some b)) (hb : n ≤ b) (hs : n ≤ w.heap.size) : Below n w w' :=
  ⟨hg.os, hg.tape, hg.output, hg.size, fun k hk => hg.block k (by omega) (by simp; omega)⟩
end Go.Proofs.YtbnljlpefpllcaaGreatDoor
namespace Go.Proofs.YtbnljlpefpllcaaGreatDoor
open Go Go.RowKit
/-- Inserts a name into a sorted table, if it is not there. -/
def insN (s : List UInt8) : List (List UInt8) → List (List UInt8)
  | [] => [s]
  | x :: r => if s < x then s :: x :: r else if s = x then x :: r else x :: insN s r
def tabN : List (List UInt8) → List (List UInt8) → List (List UInt8)
  | acc, [] => acc
  | acc, s :: r => tabN (insN s acc) r
theorem lt_irr (a : List UInt8) : ¬ a < a := List.lt_irrefl a
theorem lt_trans' {a b c : List UInt8} (h : a < b) (h2 : b < c) : a < c := List.lt_trans h h2
theorem lt_tri (a b : List UInt8) : a < b ∨ a = b ∨ b < a := by
  by_cases h : a < b
  · exact .inl h
  · by_cases h2 : b < a
    · exact .inr (.inr h2)
    · exact .inr (.inl (List.le_antisymm (List.not_lt.1 h2) (List.not_lt.1 h)))
/-- Two strictly sorted lists with the same elements. -/
theorem sorted_same : ∀ {l m : List (List UInt8)}, l.Pairwise (· < ·) → m.Pairwise (· < ·) → (∀ x, x ∈ l ↔ x ∈ m) → l = m
  | [], [], _, _, _ => rfl
  | [], b :: m, _, _, h => absurd ((h b).2 (by simp)) (by simp)
  | a :: l, [], _, _, h => absurd ((h a).1 (by simp)) (by simp)
  | a :: l, b :: m, hl, hm, h => by
    obtain ⟨hl1, hl2⟩ := List.pairwise_cons.1 hl
    obtain ⟨hm1, hm2⟩ := List.pairwise_cons.1 hm
    have hab : a = b := by
      rcases List.mem_cons.1 ((h a).1 (by simp)) with e | e
      · exact e
      · rcases List.mem_cons.1 ((h b).2 (by simp)) with e2 | e2
        · exact e2.symm
        · exact absurd (lt_trans' (hm1 a e) (hl1 b e2)) (lt_irr _)
    subst hab
    rw [sorted_same hl2 hm2 (fun x => ?_)]
    constructor
    · intro hx
      rcases List.mem_cons.1 ((h x).1 (by simp [hx])) with e | e
      · exact absurd (e ▸ hl1 x hx) (lt_irr _)
      · exact e
    · intro hx
      rcases List.mem_cons.1 ((h x).2 (by simp [hx])) with e | e
      · exact absurd (e ▸ hm1 x hx) (lt_irr _)
      · exact e
theorem insN_mem (s x : List UInt8) : ∀ l, x ∈ insN s l ↔ x = s ∨ x ∈ l
  | [] => by simp [insN]
  | y :: r => by
    unfold insN
    split
    · simp
    · split
      · rename_i h
        subst h
        simp
      · simp only [List.mem_cons, insN_mem s x r]
        constructor
        · rintro (h | h | h) <;> simp [h]
        · rintro (h | h | h) <;> simp [h]
theorem insN_sorted (s : List UInt8) : ∀ {l}, l.Pairwise (· < ·) → (insN s l).Pairwise (· < ·)
  | [], _ => by simp [insN]
  | y :: r, h => by
    obtain ⟨h1, h2⟩ := List.pairwise_cons.1 h
    unfold insN
    split
    · rename_i hs
      refine List.pairwise_cons.2 ⟨fun x hx => ?_, h⟩
      rcases List.mem_cons.1 hx with e | e
      · exact e ▸ hs
      · exact lt_trans' hs (h1 x e)
    · rename_i hs
      split
      · exact h
      · rename_i hne
        refine List.pairwise_cons.2 ⟨fun x hx => ?_, insN_sorted s h2⟩
        rcases (insN_mem s x r).1 hx with e | e
        · subst e
          rcases lt_tri x y with e | e | e
          · exact absurd e hs
          · exact absurd e hne
          · exact e
        · exact h1 x e
theorem tabN_mem (x : List UInt8) : ∀ (l acc : List (List UInt8)), x ∈ tabN acc l ↔ x ∈ acc ∨ x ∈ l
  | [], acc => by simp [tabN]
  | s :: r, acc => by
    rw [tabN, tabN_mem x r, insN_mem]
    simp only [List.mem_cons]
    constructor
    · rintro ((h | h) | h) <;> simp [h]
    · rintro (h | h | h) <;> simp [h]
theorem tabN_sorted : ∀ (l : List (List UInt8)) {acc}, acc.Pairwise (· < ·) → (tabN acc l).Pairwise (· < ·)
  | [], _, h => h
  | s :: r, _, h => tabN_sorted r (insN_sorted s h)
/-! ## Striking doubles -/
open Go.Lib
theorem compact_mem (x : List UInt8) (zs : List (List UInt8)) : x ∈ compact zs ↔ x ∈ zs := by
  have key : ∀ m, m ≤ zs.length → (x ∈ compactUpTo zs.toArray m ↔ x ∈ zs.take m) := by
    intro m
    induction m with
    | zero => intro _; simp [compactUpTo]
    | succ m ih =>
      intro hm
      have hlt : m < zs.length := by omega
      have hg : zs.toArray[m]! = zs[m] := by simp [getElem!_pos, hlt]
      rw [compactUpTo_succ, List.mem_append, ih (by omega), List.take_succ_eq_append_getElem hlt, List.mem_append, List.mem_singleton]
      by_cases hk : keeps zs.toArray m = true
      · rw [if_pos hk, hg, List.mem_singleton]
      · rw [if_neg hk]
        constructor
        · rintro (h | h)
          · exact .inl h
          · simp at h
        · rintro (h | h)
          · exact .inl h
          · left
            have hm0 : 0 < m := by
              rcases Nat.eq_zero_or_pos m with e | e
              · subst e
                exact absurd (keeps_lt_one zs.toArray 0 (by omega)) hk
              · exact e
            have he : zs.toArray[m]! = zs.toArray[m - 1]! := by
              by_cases e : zs.toArray[m]! = zs.toArray[m - 1]!
              · exact e
              · exact absurd (keeps_pos e) hk
            have hlt2 : m - 1 < zs.length := by omega
            have hg2 : zs.toArray[m - 1]! = zs[m - 1] := by simp [getElem!_pos, hlt2]
            rw [h, ← hg, he, hg2]
            exact List.mem_take_iff_getElem.2 ⟨m - 1, by omega, rfl⟩
  have := key zs.length (Nat.le_refl _)
  rwa [List.take_length] at this
theorem compact_sorted (zs : List (List UInt8)) (h : zs.Pairwise (fun a b => a ≤ b)) : (compact zs).Pairwise (· < ·) := by
  have key : ∀ m, m ≤ zs.length → (compactUpTo zs.toArray m).Pairwise (· < ·) ∧ (∀ x ∈ compactUpTo zs.toArray m, x ∈ zs.take m) := by
    intro m
    induction m with
    | zero => intro _; simp [compactUpTo]
    | succ m ih =>
      intro hm
      obtain ⟨ih1, ih2⟩ := ih (by omega)
      have hlt : m < zs.length := by omega
      have hg : zs.toArray[m]! = zs[m] := by simp [getElem!_pos, hlt]
      rw [compactUpTo_succ]
      by_cases hk : keeps zs.toArray m = true
      · rw [if_pos hk, hg]
        refine ⟨List.pairwise_append.2 ⟨ih1, by simp, fun a ha b hb => ?_⟩, fun x hx => ?_⟩
        · rw [List.mem_singleton] at hb
          subst hb
          obtain ⟨i, hi, rfl⟩ := List.mem_take_iff_getElem.1 (ih2 a ha)
          have hi' : i < m := by omega
          have hm0 : 0 < m := by omega
          have hlt2 : m - 1 < zs.length := by omega
          have hg2 : zs.toArray[m - 1]! = zs[m - 1] := by simp [getElem!_pos, hlt2]
          have hne : zs[m] ≠ zs[m - 1] := by
            intro e
            rw [keeps_neg hm0 (by rw [hg, hg2, e])] at hk
            cases hk
          have hle : zs[m - 1] < zs[m] := by
            have := List.pairwise_iff_getElem.1 h (m - 1) m hlt2 hlt (by omega)
            rcases lt_tri zs[m - 1] zs[m] with e | e | e
            · exact e
            · exact absurd e.symm hne
            · exact absurd e (List.not_lt.2 this)
          rcases Nat.lt_or_ge i (m - 1) with e | e
          · have := List.pairwise_iff_getElem.1 h i (m - 1) (by omega) hlt2 e
            rcases lt_tri zs[i] zs[m - 1] with f | f | f
            · exact lt_trans' f hle
            · rw [f]; exact hle
            · exact absurd f (List.not_lt.2 this)
          · have : i = m - 1 := by omega
            subst this
            exact hle
        · rcases List.mem_append.1 hx with e | e
          · have := ih2 x e
            rw [List.take_succ_eq_append_getElem hlt]
            exact List.mem_append.2 (.inl this)
          · rw [List.mem_singleton] at e
            subst e
            rw [List.take_succ_eq_append_getElem hlt]
            exact List.mem_append.2 (.inr (by simp))
      · rw [if_neg hk, List.append_nil]
        refine ⟨ih1, fun x hx => ?_⟩
        rw [List.take_succ_eq_append_getElem hlt]
        exact List.mem_append.2 (.inl (ih2 x hx))
  exact (key zs.length (Nat.le_refl _)).1
/-- Sorting and striking doubles is inserting one by one. -/
theorem table_eq (l : List (List UInt8)) : compact (l.mergeSort (fun x y => decide (x ≤ y))) = tabN [] l := by
  refine sorted_same (compact_sorted _ ?_) (tabN_sorted l List.Pairwise.nil) (fun x => ?_)
  · have := List.pairwise_mergeSort (le := fun x y : List UInt8 => decide (x ≤ y)) (fun a b c h1 h2 => by simp only [decide_eq_true_eq] at *; exact List.le_trans h1 h2) (fun a b => by simp only [Bool.or_eq_true, decide_eq_true_eq]; exact List.le_total a b) l
    exact this.imp (fun h => by simpa using h)
  · rw [compact_mem, tabN_mem, List.mem_mergeSort]
    simp
end Go.Proofs.YtbnljlpefpllcaaGreatDoor
namespace Go.Proofs.YtbnljlpefpllcaaGreatDoor
open Go.RowKit Go.Maps Go.WideMaps
def pairL (s t : Int) : Lit := .string (keyBytes [.int .i64 s, .int .i64 t])
theorem pairL_inj {s t s' t' : Int} (h1 : (Lit.int .i64 s).wf = true) (h2 : (Lit.int .i64 t).wf = true) (h3 : (Lit.int .i64 s').wf = true) (h4 : (Lit.int .i64 t').wf = true) (h : pairL s t = pairL s' t') : s = s' ∧ t = t' := by
  unfold pairL at h
  injection h with h
  have := keyBytes_inj (l := [.int .i64 s, .int .i64 t]) (l' := [.int .i64 s', .int .i64 t']) (by simp [Alike, Lit.sameKind]) (by simp [Lit.keyWf, h1, h2]) (by simp [Lit.keyWf, h3, h4]) h
  simp at this
  exact this
/-- The memo in block b: exactly the pairs of ks are known, with the answers S. -/
def Memo (P : Program) (k : TypeId) (w : World) (b : Nat) (S : Int → Int → Bool) (ks : List (Int × Int)) : Prop :=
  ∃ D : DataW Value, w.ownsMap P k (fun v => some (.held v, [])) b ks.length D ∧
    (∀ s t, (Lit.int .i64 s).wf = true → (Lit.int .i64 t).wf = true → (s, t) ∈ ks → ∀ z, D.atKey (pairL s t) z = .held (.bool (S s t))) ∧
    (∀ s t, (Lit.int .i64 s).wf = true → (Lit.int .i64 t).wf = true → (s, t) ∉ ks → ∀ z, D.atKey (pairL s t) z = z) ∧
    (∀ p ∈ ks, (Lit.int .i64 p.1).wf = true ∧ (Lit.int .i64 p.2).wf = true)
section
variable {P : Program} {k : TypeId} {w : World} {b : Nat} {S : Int → Int → Bool} {ks : List (Int × Int)}
theorem Memo.made (w : World) (P : Program) (k : TypeId) (S : Int → Int → Bool) : Memo P k (w.alloc (.map #[] 0)) w.heap.size S [] :=
  ⟨.map [], World.ownsMap_made w P k _, fun _ _ _ _ h => absurd h (by simp), fun _ _ _ _ _ _ => rfl, by simp⟩
theorem Memo.lt (h : Memo P k w b S ks) : b < w.heap.size := by
  obtain ⟨D, h1, _⟩ := h
  exact h1.lt
theorem Memo.block {w' : World} (h : Memo P k w b S ks) (hb : w'.heap[b]? = w.heap[b]?) : Memo P k w' b S ks := by
  obtain ⟨D, ⟨es, clock, h1, h3, h4, h5⟩, h2⟩ := h
  exact ⟨D, ⟨es, clock, hb.trans h1, h3, h4, h5⟩, h2⟩
theorem Memo.below {w' : World} (h : Memo P k w b S ks) (hb : Below w.heap.size w w') : Memo P k w' b S ks := h.block (hb.block b h.lt)
theorem Memo.alloc (h : Memo P k w b S ks) (o : Obj) : Memo P k (w.alloc o) b S ks := h.below ((Below.refl _ _).alloc (Nat.le_refl _) _)
theorem Memo.drew (h : Memo P k w b S ks) : Memo P k w.drew b S ks := h
theorem Memo.look {t e : TypeId} (h : Memo P k w b S ks) (A : ArrKey P k e 2) (he : P.underlying e = some (.int .i64)) (hsz : ∃ m, P.types.size = m + 1) {te : TypeId} (ht : P.underlying t = some (.map k te)) (hz : (zeroValue te).run P w = .ok (.bool false) w)
    {x y : Int} (hx : (Lit.int .i64 x).wf = true) (hy : (Lit.int .i64 y).wf = true) :
    (Instr.lookup t (.map (some b)) (.agg #[.int .i64 x, .int .i64 y]) true).run P w = .ok (.tuple #[.bool (if (x, y) ∈ ks then S x y else false), .bool (decide ((x, y) ∈ ks))]) w := by
  obtain ⟨D, h1, h2, h3, h4⟩ := h
  obtain ⟨v, ps, hrun, hv⟩ := h1.look_ok (Keyed.of_law A.law) ht hz rfl (keyOf_pair A he hsz hx hy)
  change _ = some (D.atKey (pairL x y) _, ps) at hv
  rw [hrun]
  change Result.ok (Value.tuple #[v, .bool (has D (pairL x y))]) w = _
  by_cases hm : (x, y) ∈ ks
  · rw [h2 x y hx hy hm] at hv
    injection hv with hv
    injection hv with hv
    injection hv with hv
    rw [hv, has_true_of_atKey (h2 x y hx hy hm), if_pos hm]
    simp [hm]
  · rw [h3 x y hx hy hm] at hv
    injection hv with hv
    injection hv with hv
    injection hv with hv
    rw [hv, has_false_of_atKey (h3 x y hx hy hm), if_neg hm]
    simp [hm]
theorem Memo.store {t e : TypeId} (h : Memo P k w b S ks) (A : ArrKey P k e 2) (he : P.underlying e = some (.int .i64)) (hsz : ∃ m, P.types.size = m + 1) {te : TypeId} (ht : P.underlying t = some (.map k te)) (hn : ks.length < maxLen)
    {x y : Int} (hx : (Lit.int .i64 x).wf = true) (hy : (Lit.int .i64 y).wf = true) :
    ∃ w', (Instr.mapUpdate t (.map (some b)) (.agg #[.int .i64 x, .int .i64 y]) (.bool (S x y))).run P w = .ok () w' ∧ Memo P k w' b S ((x, y) :: ks) ∧ w.grownBy w' (some b) := by
  obtain ⟨D, h1, h2, h3, h4⟩ := h
  obtain ⟨w', hrun, g1, g2⟩ := h1.update (Keyed.of_law A.law) ht hn (keyOf_pair A he hsz hx hy) (d := .held (.bool (S x y))) rfl
  have hkl : WideAt.IsKeyLit (pairL x y) := trivial
  refine ⟨w', hrun, ⟨_, g1, ?_, ?_, ?_⟩, g2⟩
  · intro s t hs ht hm z
    by_cases hp : pairL s t = pairL x y
    · obtain ⟨rfl, rfl⟩ := pairL_inj hs ht hx hy hp
      exact atKey_put_same h1.isMap hkl _ _
    · have hne : ¬ (s = x ∧ t = y) := fun e => hp (by rw [e.1, e.2])
      refine (atKey_put_other hp _ _).trans (h2 s t hs ht ?_ z)
      rcases List.mem_cons.1 hm with e | hm
      · injection e with e1 e2
        exact absurd ⟨e1, e2⟩ hne
      · exact hm
  · intro s t hs ht hm z
    have hp : pairL s t ≠ pairL x y := fun e => hm (by obtain ⟨rfl, rfl⟩ := pairL_inj hs ht hx hy e; simp)
    exact (atKey_put_other hp _ _).trans (h3 s t hs ht (fun h => hm (List.mem_cons_of_mem _ h)) z)
  · intro p hp
    rcases List.mem_cons.1 hp with rfl | hp
    · exact ⟨hx, hy⟩
    · exact h4 p hp
end
theorem wpList_lookM {P : Program} (w : World) {ops : Array Oper} {rest : List Oper} {o : Oper} {a : Act} {Q : Exit → Act → World → Prop}
    (hg : o.guard = none) (m x : Operand) (t : TypeId) (hop : o.op = Op.lookup t m x true)
    (k e te : TypeId) (A : ArrKey P k e 2) (he : P.underlying e = some (.int .i64)) (hsz : ∃ m, P.types.size = m + 1) (ht : P.underlying t = some (.map k te)) (hz : (zeroValue te).run P w = .ok (.bool false) w) (b : Nat) (S : Int → Int → Bool) (ks : List (Int × Int))
    (hm : a.eval m = .map (some b)) (hown : Memo P k w b S ks) (s u : Int) (hx : a.eval x = .agg #[.int .i64 s, .int .i64 u]) (h1 : (Lit.int .i64 s).wf = true) (h2 : (Lit.int .i64 u).wf = true)
    (hK : wpList P ops Q rest (a.put o.dst (.tuple #[.bool (if (s, u) ∈ ks then S s u else false), .bool (decide ((s, u) ∈ ks))])) w) :
    wpList P ops Q (o :: rest) a w := by
  refine wpList_plain hg fun K' hK' => ?_
  unfold Oper.wp
  simp [execOp, hop, hm, hx, hown.look A he hsz ht hz h1 h2, Result.andThen]
  simp at hK
  exact hK' _ _ hK
theorem wpList_storeM {P : Program} (w : World) {ops : Array Oper} {rest : List Oper} {o : Oper} {a : Act} {Q : Exit → Act → World → Prop}
    (hg : o.guard = none) (m x v : Operand) (t : TypeId) (hop : o.op = Op.mapUpdate t m x v)
    (k e te : TypeId) (A : ArrKey P k e 2) (he : P.underlying e = some (.int .i64)) (hsz : ∃ m, P.types.size = m + 1) (ht : P.underlying t = some (.map k te)) (b : Nat) (S : Int → Int → Bool) (ks : List (Int × Int))
    (hm : a.eval m = .map (some b)) (hown : Memo P k w b S ks) (hn : ks.length < maxLen) (s u : Int) (hx : a.eval x = .agg #[.int .i64 s, .int .i64 u]) (h1 : (Lit.int .i64 s).wf = true) (h2 : (Lit.int .i64 u).wf = true) (hv : a.eval v = .bool (S s u))
    (hK : ∀ w', Memo P k w' b S ((s, u) :: ks) → w.grownBy w' (some b) → wpList P ops Q rest (a.put o.dst undef) w') :
    wpList P ops Q (o :: rest) a w := by
  refine wpList_plain hg fun K' hK' => ?_
  obtain ⟨w', hrun, r1, r2⟩ := hown.store A he hsz ht hn h1 h2
  unfold Oper.wp
  simp [execOp, hop, hm, hx, hv, hrun, Result.andThen]
  exact hK' _ _ (hK w' r1 r2)
/-- Pairs of numbers below n: there are at most n times n. -/
theorem pairs_len (n : Nat) (nodupL : ∀ (n : Nat) (l : List Int), l.Nodup → (∀ x ∈ l, 0 ≤ x ∧ x < n) → l.length ≤ n) (ks : List (Int × Int)) (h : ks.Nodup) (hr : ∀ p ∈ ks, 0 ≤ p.1 ∧ p.1 < (n : Int) ∧ 0 ≤ p.2 ∧ p.2 < (n : Int)) : ks.length ≤ n * n := by
  have h1 : (ks.map (fun p => p.1 * (n : Int) + p.2)).Nodup := by
    unfold List.Nodup
    rw [List.pairwise_map]
    refine List.Pairwise.imp_of_mem ?_ h
    intro a b ha hb hne heq
    obtain ⟨a1, a2, a3, a4⟩ := hr a ha
    obtain ⟨b1, b2, b3, b4⟩ := hr b hb
    have e2 : a.2 = b.2 := by
      have := congrArg (· % (n : Int)) heq
      simp only [Int.mul_add_emod_self_right] at this
      rwa [Int.emod_eq_of_lt a3 a4, Int.emod_eq_of_lt b3 b4] at this
    have e1 : a.1 = b.1 := by
      have hn : (n : Int) ≠ 0 := by omega
      have : a.1 * (n : Int) = b.1 * (n : Int) := by rw [e2] at heq; omega
      exact Int.eq_of_mul_eq_mul_right hn this
    exact hne (by cases a; cases b; simp_all)
  have := nodupL (n * n) _ h1 (fun x hx => by
    obtain ⟨p, hp, rfl⟩ := List.mem_map.1 hx
    obtain ⟨a1, a2, a3, a4⟩ := hr p hp
    have g1 : 0 ≤ p.1 * (n : Int) := Int.mul_nonneg a1 (by omega)
    have g2 : p.1 * (n : Int) ≤ ((n : Int) - 1) * (n : Int) := Int.mul_le_mul_of_nonneg_right (by omega) (by omega)
    have g3 : ((n : Int) - 1) * (n : Int) = (n : Int) * n - n := by rw [Int.sub_mul, Int.one_mul]
    refine ⟨by omega, ?_⟩
    push_cast
    omega)
  rwa [List.length_map] at this
end Go.Proofs.YtbnljlpefpllcaaGreatDoor
