/-
  Parts of the proof: Queue.
-/
import Derived.Test.YtbnljlpefpllcaaGreatDoorMD2
namespace Go.Proofs.YtbnljlpefpllcaaGreatDoor
open Go Go.RowKit
structure Qat (w : World) (base : Nat) (e : TypeId) (g p n cap : Nat) (cur : Array Value) (xs : List Value) : Prop where
  low : base ≤ g
  heap : w.heap[g]? = some (.cells cur e (0, 0))
  len : xs.length = n
  le : n ≤ cap
  big : cap ≤ 9223372036854775807
  fit : p + cap ≤ cur.size
  row : (cur.toList.drop p).take n = xs
/-- The value v is such a queue, holding xs. -/
def Qu (w : World) (base : Nat) (e : TypeId) (v : Value) (xs : List Value) : Prop :=
  (v = .slice none 0 0 ∧ xs = []) ∨ ∃ g p n cap cur, v = .slice (some ⟨g, p, none⟩) n cap ∧ Qat w base e g p n cap cur xs
theorem Qat.cell {w : World} {base g p n cap : Nat} {e : TypeId} {cur : Array Value} {xs : List Value} (h : Qat w base e g p n cap cur xs) (j : Nat) (u : Value) (hj : xs[j]? = some u) : w.cell? ⟨g, p + j, none⟩ = some u := by
  have hlt : j < n := by rw [← h.len]; exact (List.getElem?_eq_some_iff.1 hj).1
  rw [← h.row, List.getElem?_take, if_pos hlt, List.getElem?_drop] at hj
  simp only [World.cell?, h.heap]
  simpa using hj
theorem Qu.lt {w : World} {base : Nat} {e : TypeId} {v : Value} {xs : List Value} (h : Qu w base e v xs) : ∀ k, v.ownBlock = some k → base ≤ k ∧ k < w.heap.size := by
  rcases h with ⟨rfl, _⟩ | ⟨g, p, n, cap, cur, rfl, hq⟩
  · intro k hk; cases hk
  · intro k hk
    injection hk with hk
    subst hk
    exact ⟨hq.low, (Array.getElem?_eq_some_iff.1 hq.heap).1⟩
theorem Qu.block {w w' : World} {base : Nat} {e : TypeId} {v : Value} {xs : List Value} (h : Qu w base e v xs) (hb : ∀ k, v.ownBlock = some k → w'.heap[k]? = w.heap[k]?) : Qu w' base e v xs := by
  rcases h with ⟨rfl, hx⟩ | ⟨g, p, n, cap, cur, rfl, hq⟩
  · exact .inl ⟨rfl, hx⟩
  · exact .inr ⟨g, p, n, cap, cur, rfl, hq.low, (hb g rfl).trans hq.heap, hq.len, hq.le, hq.big, hq.fit, hq.row⟩
theorem Qu.below {w w' : World} {base : Nat} {e : TypeId} {v : Value} {xs : List Value} (h : Qu w base e v xs) (hb : Below w.heap.size w w') : Qu w' base e v xs :=
  h.block (fun k hk => hb.block k (h.lt k hk).2)
/-- Its shape. -/
theorem Qu.slice {w : World} {base : Nat} {e : TypeId} {v : Value} {xs : List Value} (h : Qu w base e v xs) : ∃ A c, v = .slice A xs.length c ∧ xs.length ≤ c ∧ c ≤ 9223372036854775807 := by
  rcases h with ⟨rfl, rfl⟩ | ⟨g, p, n, cap, cur, rfl, hq⟩
  · exact ⟨none, 0, rfl, by simp, by omega⟩
  · exact ⟨_, cap, by rw [hq.len], by rw [hq.len]; exact hq.le, hq.big⟩
theorem Qu.one (W : World) (base : Nat) (e : TypeId) (x : Value) (k : Nat) (hk : k = W.heap.size) (hb : base ≤ k) : Qu (W.alloc (.cells #[x] e)) base e (.slice (some ⟨k, 0, none⟩) 1 1) [x] := by
  subst hk
  exact .inr ⟨_, 0, 1, 1, #[x], rfl, hb, Array.getElem?_push_size, rfl, by omega, by omega, by simp, by simp⟩
theorem Qu.tail {w : World} {base : Nat} {e : TypeId} {x : Value} {r : List Value} {A : Option Addr} {n c : Nat} (h : Qu w base e (.slice A n c) (x :: r)) :
    ∃ g p, A = some ⟨g, p, none⟩ ∧ n = r.length + 1 ∧ n ≤ c ∧ c ≤ 9223372036854775807 ∧ w.cell? ⟨g, p, none⟩ = some x ∧ Qu w base e (.slice (if c = 1 then A else A.map (·.add (1 * 1))) (n - 1) (c - 1)) r := by
  rcases h with ⟨_, h⟩ | ⟨g, p, n', cap, cur, hv, hq⟩
  · cases h
  · obtain ⟨rfl, rfl, rfl⟩ : A = some ⟨g, p, none⟩ ∧ n = n' ∧ c = cap := by simpa using hv
    have hl := hq.len
    simp only [List.length_cons] at hl
    refine ⟨g, p, rfl, by omega, hq.le, hq.big, by simpa using hq.cell 0 x rfl, ?_⟩
    have hle := hq.le
    have hbig := hq.big
    have hfit := hq.fit
    by_cases h1 : c = 1
    · rw [if_pos h1]
      refine .inr ⟨g, p, n - 1, c - 1, cur, rfl, hq.low, hq.heap, by omega, by omega, by omega, by omega, ?_⟩
      have hr0 : r = [] := List.eq_nil_of_length_eq_zero (by omega)
      have : n - 1 = 0 := by omega
      rw [this, List.take_zero, hr0]
    · rw [if_neg h1]
      refine .inr ⟨g, p + 1, n - 1, c - 1, cur, by simp [Addr.add], hq.low, hq.heap, by omega, by omega, by omega, by omega, ?_⟩
      have hr := hq.row
      rw [← List.drop_drop]
      cases hd : cur.toList.drop p with
      | nil => rw [hd] at hr; simp at hr
      | cons y t =>
        rw [hd, show n = (n - 1) + 1 by omega, List.take_succ_cons] at hr
        have hr2 := (List.cons.inj hr).2
        simpa using hr2
section
variable {P : Program}
theorem run_append_room_mid (w : World) (t ty e : TypeId) (i : TypeInfo) (ht : P.underlying t = some (.slice e)) (hi : P.info? e = some i)
    (g p sLen sCap : Nat) (cur : Array Value) (hg : w.heap[g]? = some (.cells cur e (0, 0)))
    (a : Addr) (m c : Nat) (news : List Value) (hl : news.length = m * i.size) (hnews : ∀ j u, news[j]? = some u → w.cell? (a.add j) = some u) (h1 : ∀ u ∈ news, u.oneCell' = true)
    (hroom : sLen + m ≤ sCap) (hfit : p + sLen * i.size + news.length ≤ cur.size) :
    (Builtin.append_ #[t, t] ty #[.slice (some ⟨g, p, none⟩) sLen sCap, .slice (some a) m c]).run P w =
      .ok (.slice (some ⟨g, p, none⟩) (sLen + m) sCap) (w.setRow g (cur.toList.take (p + sLen * i.size) ++ news ++ cur.toList.drop (p + sLen * i.size + news.length)).toArray) := by
  have hf := run_firstCells_some (P := P) w i.size m a m c news hl hnews
  have hst := run_storeCells_at P g (p + sLen * i.size) e news 0 cur w hg (by simpa using hfit) h1
  simp only [Nat.add_zero] at hst
  simp [Builtin.append_, run_underlying ht, sizeOf, typeInfo, hi, Builtin.lenOf, hroom, hf, Addr.add_lit, hst]
theorem Qu.append {w : World} {base : Nat} {t ty e : TypeId} {i : TypeInfo} {z : Value} (ht : P.underlying t = some (.slice e)) (hi : P.info? e = some i) (hz : i.zero = some z) (hsize : i.size = 1) (hby : i.bytes ≤ 16) (hzs : z.cells.size = 1)
    {v : Value} {xs : List Value} (h : Qu w base e v xs) (a : Addr) (c : Nat) (x : Value) (hx : w.cell? a = some x) (h1 : x.oneCell' = true) (hlen : xs.length + 1 ≤ 1099511627776) (hb : base ≤ w.heap.size) :
    ∃ v' w', (Builtin.append_ #[t, t] ty #[v, .slice (some a) 1 c]).run P w = .ok v' w' ∧ Qu w' base e v' (xs ++ [x]) ∧ w.grownBy w' v.ownBlock := by
  have hnews : ∀ j u, [x][j]? = some u → w.cell? (a.add j) = some u := fun j u hj => by
    cases j with
    | zero =>
      simp at hj
      subst hj
      simpa [Addr.add] using hx
    | succ j => simp at hj
  have grown : ∀ (old : Nat) (row : Option Nat), Qu (w.drew.alloc (.cells (xs.toArray ++ [x].toArray ++ Builtin.zeroCells z.cells (grownCap w (xs.length + 1) old e - (xs.length + 1))) e)) base e (.slice (some ⟨w.heap.size, 0, none⟩) (xs.length + 1) (grownCap w (xs.length + 1) old e)) (xs ++ [x]) ∧
      w.grownBy (w.drew.alloc (.cells (xs.toArray ++ [x].toArray ++ Builtin.zeroCells z.cells (grownCap w (xs.length + 1) old e - (xs.length + 1))) e)) row := by
    intro old row
    have hge := grownCap_ge w (xs.length + 1) old e
    have hcm : grownCap w (xs.length + 1) old e ≤ maxLen := grownCap_le_maxLen w (xs.length + 1) old e (by unfold maxLen; omega)
    have hs : (xs.toArray ++ [x].toArray ++ Builtin.zeroCells z.cells (grownCap w (xs.length + 1) old e - (xs.length + 1))).size = grownCap w (xs.length + 1) old e := by
      simp only [Array.size_append, List.size_toArray, size_zeroCells, hzs, List.length_singleton]
      omega
    refine ⟨.inr ⟨w.heap.size, 0, xs.length + 1, _, _, rfl, hb, heap_alloc_new w.drew _, by simp, hge, by unfold maxLen at hcm; omega, by rw [hs]; omega, ?_⟩, ⟨rfl, rfl, rfl, by simp, fun k hk _ => heap_alloc_old w.drew _ hk⟩⟩
    simp only [Array.toList_append, List.drop_zero]
    have : (xs ++ [x]).length = xs.length + 1 := by simp
    rw [← this]
    exact List.take_left
  rcases h with ⟨rfl, rfl⟩ | ⟨g, p, n, cap, cur, rfl, hq⟩
  · have hrun := run_append_nil (P := P) w t ty e i z ht hi hz a 1 c [x] (by simp [hsize]) hnews (by omega) (by omega) (by omega)
    refine ⟨_, _, hrun, ?_⟩
    have := grown 0 (Value.slice none 0 0).ownBlock
    simpa using this
  · have hl := hq.len
    by_cases hroom : n + 1 ≤ cap
    · have hfit := hq.fit
      have hrun := run_append_room_mid (P := P) w t ty e i ht hi g p n cap cur hq.heap a 1 c [x] (by simp [hsize]) hnews (by simpa using h1) hroom (by rw [hsize]; simp; omega)
      rw [hsize, Nat.mul_one] at hrun
      refine ⟨_, _, hrun, .inr ⟨g, p, n + 1, cap, (cur.toList.take (p + n) ++ [x] ++ cur.toList.drop (p + n + [x].length)).toArray, rfl, hq.low, ?_, by simp [hl], hroom, hq.big, ?_, ?_⟩, ?_⟩
      · exact setRow_heap w g cur _ e (0, 0) hq.heap
      · simp
        omega
      · have hA : (cur.toList.take (p + n)).drop p = xs := by
          rw [← hq.row, List.drop_take, show p + n - p = n by omega]
        have hp : p ≤ (cur.toList.take (p + n)).length := by simp; omega
        simp only [List.length_singleton, List.append_assoc]
        rw [List.drop_append_of_le_length hp, hA, List.take_append, List.take_of_length_le (by omega), hl, show n + 1 - n = 1 by omega]
        rfl
      · exact ⟨rfl, rfl, rfl, by simp, fun k _ hk => setRow_other w g k _ (fun h => hk (by rw [h]; rfl))⟩
    · have hby2 : (n + 1) * i.bytes ≤ 140737488355328 := by
        have h2 : (n + 1) * i.bytes ≤ (n + 1) * 16 := Nat.mul_le_mul_left _ hby
        omega
      have hold : ∀ j u, xs[j]? = some u → w.cell? ((⟨g, p, none⟩ : Addr).add j) = some u := fun j u hj => by rw [Addr.add_lit]; exact hq.cell j u hj
      have hfit := growslice_fits (need := n + 1) (old := cap) (bytes := i.bytes) (by omega) hby2
      have h63 : ((n + 1 : Nat) : Int) ≤ 9223372036854775807 := by omega
      have hg1 : cap < n + 1 := by omega
      have hlo : xs.length = n * i.size := by rw [hsize, hl, Nat.mul_one]
      have hln : [x].length = 1 * i.size := by rw [hsize]; rfl
      have hrun := run_append_grow (P := P) w t ty e i z ht hi hz ⟨g, p, none⟩ n cap xs hlo hold a 1 c [x] hln hnews hg1 h63 hfit
      subst hl
      exact ⟨_, _, hrun, grown cap _⟩
end
theorem wpList_appendQ {P : Program} (w : World) {ops : Array Oper} {rest : List Oper} {o : Oper} {a : Act} {Q : Exit → Act → World → Prop} (hgd : o.guard = none) (s x : Operand) (t : TypeId)
    (ho : o.op = .call { callee := .builtin .append, args := #[s, x], argTypes := #[t, t] }) (base : Nat) (e : TypeId) (i : TypeInfo) (z : Value) (ht : P.underlying t = some (.slice e)) (hi : P.info? e = some i) (hz : i.zero = some z) (hsize : i.size = 1) (hby : i.bytes ≤ 16) (hzs : z.cells.size = 1)
    (v : Value) (xs : List Value) (hs : a.eval s = v) (h : Qu w base e v xs) (ad : Addr) (c : Nat) (y : Value) (hx : a.eval x = .slice (some ad) 1 c) (hy : w.cell? ad = some y) (h1 : y.oneCell' = true) (hlen : xs.length + 1 ≤ 1099511627776) (hb : base ≤ w.heap.size)
    (hK : ∀ v' w', Qu w' base e v' (xs ++ [y]) → w.grownBy w' v.ownBlock → wpList P ops Q rest (a.put o.dst v') w') : wpList P ops Q (o :: rest) a w := by
  refine wpList_plain hgd fun K' hK' => ?_
  obtain ⟨v', w', hrun, h2, h3⟩ := h.append (ty := o.type) ht hi hz hsize hby hzs ad c y hy h1 hlen hb
  unfold Oper.wp execOp
  simp only [ho, resolve, invoke, builtin, Sem.run_bind, Sem.run_pure, Result.andThen_ok, List.map_toArray, List.map_cons, List.map_nil, hs, hx, hrun]
  exact hK' _ _ (hK v' w' h2 h3)
end Go.Proofs.YtbnljlpefpllcaaGreatDoor
