/-
  Walks: the iterator over the types on a path.
-/
import Derived.Test.YtmfdppgfbgjmcaaW5
import Derived.Test.YtmfdppgfbgjmcaaRange
namespace Go.Proofs.Ytmfdppgfbgjmcaa
open Go.RowKit
attribute [local go_sem] Oper.semAt_some

/-- The element that a path hands out: its number, a type's index, an error. -/
structure Stp where
  num : Nat
  idx : Int
  err : Int
def encS (s : Stp) : Array Value := #[.int .i64 s.num, .agg #[.int .i64 s.idx, .int .i64 s.err]]
def T54 : TypeId → Bool := fun e => e == 54

/-- The types from a type on along projections. -/
def walkS (ts : List Ty) : Int → Nat → List Pj → List Stp
  | i, k, [] => [⟨k, i, 0⟩]
  | i, k, x :: r =>
    ⟨k, i, 0⟩ :: match ts[i.toNat]? with
      | none => []
      | some t => if (prT t x).2 = 0 then walkS ts (prT t x).1 (k + 1) r else [⟨k + 1, (prT t x).1, (prT t x).2⟩]

/-- All that a path hands out. -/
def pth (ts : List Ty) (ls : List Lc) (l : Int) (ps : List Pj) : List Stp :=
  if chk l ps ≠ 0 then [⟨0, 0, chk l ps⟩] else
  match ls[l.toNat]? with
  | none => [⟨0, 0, 3⟩]
  | some x => walkS ts x.type 0 ps

/-- Types and locals refer to types of the list. -/
structure Okay (ts : List Ty) (ls : List Lc) : Prop where
  elem : ∀ t ∈ ts, t.kind = 3 → 0 ≤ t.elem ∧ t.elem < ts.length
  flds : ∀ t ∈ ts, ∀ f ∈ t.flds, 0 ≤ f ∧ f < ts.length
  loc : ∀ x ∈ ls, 0 ≤ x.type ∧ x.type < ts.length

theorem prT_ok {ts : List Ty} {ls : List Lc} (h : Okay ts ls) {t : Ty} (ht : t ∈ ts) (x : Pj) (h0 : (prT t x).2 = 0) : 0 ≤ (prT t x).1 ∧ (prT t x).1 < ts.length := by
  unfold prT at h0 ⊢
  split
  · rename_i h1; exact h.elem t ht h1.2
  · split
    · rename_i h1 h2
      rw [if_neg h1, if_pos h2] at h0
      split
      · rename_i h3
        by_cases h4 : x.field.toNat < t.flds.length
        · simp only [List.getD_eq_getElem?_getD, List.getElem?_eq_getElem h4, Option.getD_some]
          exact h.flds t ht _ (List.getElem_mem h4)
        · simp only [List.getD_eq_getElem?_getD, List.getElem?_eq_none (Nat.le_of_not_lt h4), Option.getD_none]
          exact ⟨by omega, by have := List.length_pos_of_mem ht; omega⟩
      · rename_i h3; rw [if_neg h3] at h0; simp at h0
    · rename_i h1 h2; rw [if_neg h1, if_neg h2] at h0; simp at h0

theorem chkP_field : ∀ (ps : List Pj), chkP ps = 0 → ∀ x ∈ ps, 0 ≤ x.field
  | [], _, _, h => by cases h
  | y :: r, h0, x, hx => by
    rw [chkP] at h0
    split at h0
    · cases h0
    · split at h0
      · cases h0
      · split at h0
        · cases h0
        · rcases List.mem_cons.1 hx with rfl | hx
          · omega
          · exact chkP_field r h0 x hx

set_option maxHeartbeats 400000 in
theorem path_any (A B C : Option Addr) (n c m d k e : Nat) (l : Int) (w : World) :
    Calls Try.prog 28 #[.slice A n c, .slice B m d, .agg #[.int .i64 l, .slice C k e]] w fun e' w' => e' = .returned (.func (.func 38) #[] #[.pointer (some ⟨w.heap.size + 1 + 1, 0, none⟩), .pointer (some ⟨w.heap.size + 1, 0, none⟩), .pointer (some ⟨w.heap.size, 0, none⟩)]) ∧
      w' = ((w.alloc (.cells #[.slice A n c] 30)).alloc (.cells #[.slice B m d] 31)).alloc (.cells #[.int .i64 l, .slice C k e] 24) := by
  go_enter Try.func28, Try.ntmps28
  go_wp2
  go_ret
  exact ⟨rfl, rfl⟩

set_option maxRecDepth 100000 in
set_option maxHeartbeats 2000000 in
theorem path_seq0 (n : Nat) (hn : 1 ≤ n) (ts : List Ty) (ls : List Lc) (l : Int) (ps : List Pj) (A B C : Option Addr) (c d e bp bl bt : Nat) (w0 w : World) (hw : Below w0.heap.size w0 w) (h1 : w.cell? ⟨bt, 0, none⟩ = some (.slice A ts.length c)) (h2 : w.cell? ⟨bl, 0, none⟩ = some (.slice B ls.length d)) (h3 : w.cell? ⟨bp, 0, none⟩ = some (.int .i64 l)) (h4 : w.cell? ⟨bp, 1, none⟩ = some (.slice C ps.length e)) (hts : Slc 5 RTy w0 A c ts) (hls : Slc 2 RLc w0 B d ls) (hps : Slc 2 RPj w0 C e ps) (hok : Okay ts ls) (hbad : chk l ps ≠ 0) :
    SeqL Fence.wide n Try.prog 38 #[.pointer (some ⟨bp, 0, none⟩), .pointer (some ⟨bl, 0, none⟩), .pointer (some ⟨bt, 0, none⟩)] encS T54 (fun k => k < w0.heap.size ∨ k = bt ∨ k = bl ∨ k = bp) (pth ts ls l ps) w := by
  intro lp J Jx W hW hJ hJx hY h0
  have hL : pth ts ls l ps = [⟨0, 0, chk l ps⟩] := by rw [pth, if_pos hbad]
  rw [hL] at hY ⊢
  have g3 := cell_keep hW h3
  have g4 := cell_keep hW h4
  have hC := Lib.hid (check_any l C e ps W (hps.keep RPj.keeps (hw.trans (hW.mono hw.size))))
  have hne : (chk l ps != 0) = true := by simp [hbad]
  clear hps hts hls h1 h2 h3 h4 hok hL hbad
  generalize chk l ps = r at *
  (refine callsIn_of_wp Try.func38 rfl trivial ?_ rfl; simp only [Try.ntmps38, List.size_toArray, List.length_cons, List.length_nil, Nat.reduceAdd, Nat.reduceSub, Array.replicate_succ, Array.replicate_zero, List.push_toArray, List.append_toArray, List.nil_append, List.cons_append])
  gi_wp2_with (refine ⟨trivial, ?_⟩; gi_at_call 10; refine (callsIn_wide.2 hC.out).mono ?_; rintro e w1 ⟨rfl, hb1⟩)
  obtain ⟨fn, tmps, assign, body, hy, hR⟩ := hY [] ⟨0, 0, r⟩ [] w1 rfl (hJ _ _ _ h0 (Turn.of_below hb1))
  rw [show encS ⟨0, 0, r⟩ = #[.int .i64 0, .agg #[.int .i64 0, .int .i64 r]] from rfl] at hy
  gi_wp2
  rw [hy]
  gi_wp2
  refine hR.mono ?_
  rintro e W3 (⟨rfl, hJ3, _⟩ | ⟨rfl, hJx3⟩)
  · gi_wp2
    refine bodyPost_ret (results_none rfl _ _ _) rfl ?_
    exact ⟨⟨_, rfl⟩, .inl hJ3⟩
  · gi_wp2
    refine bodyPost_ret (results_none rfl _ _ _) rfl ?_
    exact ⟨⟨_, rfl⟩, .inr ⟨[], _, [], rfl, hJx3⟩⟩

set_option maxRecDepth 100000 in
set_option maxHeartbeats 2000000 in
theorem path_seq1 (n : Nat) (hn : 1 ≤ n) (ts : List Ty) (ls : List Lc) (l : Int) (ps : List Pj) (A B C : Option Addr) (c d e bp bl bt : Nat) (w0 w : World) (hw : Below w0.heap.size w0 w) (h1 : w.cell? ⟨bt, 0, none⟩ = some (.slice A ts.length c)) (h2 : w.cell? ⟨bl, 0, none⟩ = some (.slice B ls.length d)) (h3 : w.cell? ⟨bp, 0, none⟩ = some (.int .i64 l)) (h4 : w.cell? ⟨bp, 1, none⟩ = some (.slice C ps.length e)) (hts : Slc 5 RTy w0 A c ts) (hls : Slc 2 RLc w0 B d ls) (hps : Slc 2 RPj w0 C e ps) (hok : Okay ts ls) (hgood : chk l ps = 0) (hbad : (ls.length : Int) ≤ l) :
    SeqL Fence.wide n Try.prog 38 #[.pointer (some ⟨bp, 0, none⟩), .pointer (some ⟨bl, 0, none⟩), .pointer (some ⟨bt, 0, none⟩)] encS T54 (fun k => k < w0.heap.size ∨ k = bt ∨ k = bl ∨ k = bp) (pth ts ls l ps) w := by
  intro lp J Jx W hW hJ hJx hY h0
  have hl : 0 ≤ l := by
    unfold chk at hgood
    split at hgood
    · cases hgood
    · omega
  have hL : pth ts ls l ps = [⟨0, 0, 3⟩] := by
    rw [pth, if_neg (by simp [hgood]), List.getElem?_eq_none (by omega)]
  rw [hL] at hY ⊢
  have g2 := cell_keep hW h2
  have g3 := cell_keep hW h3
  have g4 := cell_keep hW h4
  have hC := check_any l C e ps W (hps.keep RPj.keeps (hw.trans (hW.mono hw.size)))
  rw [hgood] at hC
  have HC := Lib.hid hC
  have hbig := hls.le
  have hbig2 := hls.big
  clear hC hps hts hls h1 h2 h3 h4 hok hL hgood
  (refine callsIn_of_wp Try.func38 rfl trivial ?_ rfl; simp only [Try.ntmps38, List.size_toArray, List.length_cons, List.length_nil, Nat.reduceAdd, Nat.reduceSub, Array.replicate_succ, Array.replicate_zero, List.push_toArray, List.append_toArray, List.nil_append, List.cons_append])
  gi_wp2_with (refine ⟨trivial, ?_⟩; gi_at_call 10; refine (callsIn_wide.2 HC.out).mono ?_; rintro e w1 ⟨rfl, hb1⟩; have q2 := cell_keep hb1 g2; have q3 := cell_keep hb1 g3)
  obtain ⟨fn, tmps, assign, body, hy, hR⟩ := hY [] ⟨0, 0, 3⟩ [] w1 rfl (hJ _ _ _ h0 (Turn.of_below hb1))
  rw [show encS ⟨0, 0, 3⟩ = #[.int .i64 0, .agg #[.int .i64 0, .int .i64 3]] from rfl] at hy
  gi_wp2
  rw [hy]
  gi_wp2
  refine hR.mono ?_
  rintro e W3 (⟨rfl, hJ3, _⟩ | ⟨rfl, hJx3⟩)
  · gi_wp2
    refine bodyPost_ret (results_none rfl _ _ _) rfl ?_
    exact ⟨⟨_, rfl⟩, .inl hJ3⟩
  · gi_wp2
    refine bodyPost_ret (results_none rfl _ _ _) rfl ?_
    exact ⟨⟨_, rfl⟩, .inr ⟨[], _, [], rfl, hJx3⟩⟩
end Go.Proofs.Ytmfdppgfbgjmcaa
