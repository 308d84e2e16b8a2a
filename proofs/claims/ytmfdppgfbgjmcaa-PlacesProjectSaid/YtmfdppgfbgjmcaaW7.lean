/-
  Walks: the loop of the iterator over the types on a path.
-/
import Derived.Test.YtmfdppgfbgjmcaaW6
import Derived.StillTailTactics
namespace Go.Proofs.Ytmfdppgfbgjmcaa
open Go.RowKit
attribute [local go_sem] Oper.semAt_some

/-- What the loop knows of its place: the elements handed out, the one at hand, those to come. -/
structure At (ts : List Ty) (ps : List Pj) (L pre : List Stp) (k : Nat) (idx err : Int) (rest : List Stp) : Prop where
  all : L = pre ++ ⟨k, idx, err⟩ :: rest
  le : k ≤ ps.length
  good : err = 0 → 0 ≤ idx ∧ idx < ts.length ∧ (⟨k, idx, err⟩ :: rest : List Stp) = walkS ts idx k (ps.drop k)
  bad : err ≠ 0 → rest = []

theorem At.next {ts : List Ty} {ls : List Lc} (hok : Okay ts ls) {ps : List Pj} {L pre : List Stp} {k : Nat} {idx : Int} {rest : List Stp} (h : At ts ps L pre k idx 0 rest) (hk : k < ps.length) {t : Ty} (hi : ts[idx.toNat]? = some t) :
    ∃ rest', At ts ps L (pre ++ [⟨k, idx, 0⟩]) (k + 1) (prT t ps[k]).1 (prT t ps[k]).2 rest' := by
  obtain ⟨hall, hle, hg, _⟩ := h
  obtain ⟨h0, h1, h2⟩ := hg rfl
  have hmem : t ∈ ts := List.mem_of_getElem? hi
  rw [List.drop_eq_getElem_cons hk, walkS, hi] at h2
  simp only [List.cons.injEq, true_and] at h2
  by_cases he : (prT t ps[k]).2 = 0
  · rw [if_pos he] at h2
    have hx := prT_ok hok hmem ps[k] he
    generalize prT t ps[k] = y at *
    obtain ⟨y1, y2⟩ := y
    simp only [] at he
    subst he
    cases hr : rest with
    | nil =>
      rw [hr] at h2
      cases hd : ps.drop (k + 1) with
      | nil => rw [hd, walkS] at h2; cases h2
      | cons a r => rw [hd, walkS] at h2; cases h2
    | cons s r =>
      have hs : s = ⟨k + 1, y1, 0⟩ := by
        rw [hr] at h2
        cases hd : ps.drop (k + 1) with
        | nil => rw [hd, walkS] at h2; simp at h2; exact h2.1
        | cons a r => rw [hd, walkS] at h2; simp at h2; exact h2.1
      subst hs
      refine ⟨r, ⟨by rw [hall, hr]; simp, by omega, fun _ => ⟨hx.1, hx.2, by rw [← hr]; exact h2⟩, fun h => absurd rfl h⟩⟩
  · rw [if_neg he] at h2
    exact ⟨[], ⟨by rw [hall, h2]; simp, by omega, fun h => absurd h he, fun _ => rfl⟩⟩

theorem walkS_head (ts : List Ty) (i : Int) (k : Nat) : ∀ ps : List Pj, ∃ rest, walkS ts i k ps = ⟨k, i, 0⟩ :: rest
  | [] => ⟨_, by rw [walkS]⟩
  | _ :: _ => ⟨_, by rw [walkS]⟩

theorem blk2 {w : World} {k : Nat} {a b : Value} {t : TypeId} (h : w.heap[k]? = some (.cells #[a, b] t (0, 0))) :
    w.cell? ⟨k, 0, none⟩ = some a ∧ w.cell? ⟨k, 1, none⟩ = some b ∧ w.frozen? ⟨k, 0, none⟩ = false ∧ w.frozen? ⟨k, 1, none⟩ = false :=
  ⟨by rw [cell_of_row w _ 0 _ _ _ h]; rfl, by rw [cell_of_row w _ 1 _ _ _ h]; rfl, by simp [World.frozen?, h], by simp [World.frozen?, h]⟩
theorem blk_keep {w w' : World} {k : Nat} {o : Obj} (hb : Below w.heap.size w w') (h : w.heap[k]? = some o) : w'.heap[k]? = some o :=
  (hb.block k (Array.getElem?_eq_some_iff.1 h).1).trans h

theorem blk2_set {w : World} {k : Nat} {a b : Value} {t : TypeId} (x y : Value) (h : w.heap[k]? = some (.cells #[a, b] t (0, 0))) :
    ((w.setCell ⟨k, 0, none⟩ x).setCell ⟨k, 1, none⟩ y).heap[k]? = some (.cells #[x, y] t (0, 0)) := by
  simp [World.setCell, Array.getElem?_modify, h]
theorem blk1_set {w : World} {k : Nat} {a b : Value} {t : TypeId} (x : Value) (h : w.heap[k]? = some (.cells #[a, b] t (0, 0))) :
    (w.setCell ⟨k, 0, none⟩ x).heap[k]? = some (.cells #[x, b] t (0, 0)) := by
  simp [World.setCell, Array.getElem?_modify, h]
theorem turn_set2 {D : Nat} {T : TypeId → Bool} {w : World} {k : Nat} {a b : Value} {t : TypeId} (x y : Value) (h : w.heap[k]? = some (.cells #[a, b] t (0, 0))) (hD : D ≤ k) (hT : T t = true) :
    Turn D T w ((w.setCell ⟨k, 0, none⟩ x).setCell ⟨k, 1, none⟩ y) :=
  (Turn.setCell (p := ⟨k, 0, none⟩) x h hD hT).trans (Turn.setCell (p := ⟨k, 1, none⟩) y (blk1_set x h) hD hT)

set_option maxRecDepth 100000 in
set_option maxHeartbeats 4000000 in
theorem path_seq2 (n : Nat) (hn : 1 ≤ n) (ts : List Ty) (ls : List Lc) (l : Int) (ps : List Pj) (A B C : Option Addr) (c d e bp bl bt : Nat) (w0 w : World) (hw : Below w0.heap.size w0 w) (h1 : w.cell? ⟨bt, 0, none⟩ = some (.slice A ts.length c)) (h2 : w.cell? ⟨bl, 0, none⟩ = some (.slice B ls.length d)) (h3 : w.cell? ⟨bp, 0, none⟩ = some (.int .i64 l)) (h4 : w.cell? ⟨bp, 1, none⟩ = some (.slice C ps.length e)) (hts : Slc 5 RTy w0 A c ts) (hls : Slc 2 RLc w0 B d ls) (hps : Slc 2 RPj w0 C e ps) (hok : Okay ts ls) (hgood : chk l ps = 0) (j : Nat) (hj : l = j) (hlt : j < ls.length) :
    SeqL Fence.wide n Try.prog 38 #[.pointer (some ⟨bp, 0, none⟩), .pointer (some ⟨bl, 0, none⟩), .pointer (some ⟨bt, 0, none⟩)] encS T54 (fun k => k < w0.heap.size ∨ k = bt ∨ k = bl ∨ k = bp) (pth ts ls l ps) w := by
  intro lp J Jx W hW hJ hJx hY h0
  have hL : pth ts ls l ps = walkS ts ls[j].type 0 ps := by
    rw [pth, if_neg (by simp [hgood]), hj, Int.toNat_natCast, List.getElem?_eq_getElem hlt]
  have hty := hok.loc ls[j] (List.getElem_mem hlt)
  have hfld := Lib.hid (chkP_field ps (by
    unfold chk at hgood
    split at hgood
    · cases hgood
    · split at hgood
      · cases hgood
      · exact hgood))
  obtain ⟨bL, oL, rfl, hbL, r1, r2⟩ := hls.sl.at_ hlt
  have r2 := (hw.cell (p := ⟨bL, oL + j * 2 + 1, none⟩) hbL).trans r2
  have hat0 : ∃ rest, At ts ps (pth ts ls l ps) [] 0 ls[j].type 0 rest := by
    rw [hL]
    obtain ⟨rest, hr⟩ := walkS_head ts ls[j].type 0 ps
    exact ⟨rest, ⟨by rw [hr]; rfl, by simp, fun _ => ⟨hty.1, hty.2, by rw [List.drop_zero, hr]⟩, fun h => absurd rfl h⟩⟩
  generalize ls[j].type = ti at *
  have HA0 := Lib.hid hat0
  generalize pth ts ls l ps = L at *
  clear hL hat0 r1
  subst hj
  have hC := check_any j C e ps W (hps.keep RPj.keeps (hw.trans (hW.mono hw.size)))
  rw [hgood] at hC
  have HC := Lib.hid hC
  have q1 := cell_keep hW h1
  have q2 := cell_keep hW h2
  have q3 := cell_keep hW h3
  have q4 := cell_keep hW h4
  have q5 := cell_keep hW r2
  have l1 := World.block_lt_of_cell? w _ h1
  have l3 := World.block_lt_of_cell? w _ h3
  have hle := hls.le
  have hbig := hls.big
  have hd0 : decide (ls.length ≤ j) = false := by simpa using hlt
  clear hC hgood hls h2 hty
  (refine callsIn_of_wp Try.func38 rfl trivial ?_ rfl; simp only [Try.ntmps38, List.size_toArray, List.length_cons, List.length_nil, Nat.reduceAdd, Nat.reduceSub, Array.replicate_succ, Array.replicate_zero, List.push_toArray, List.append_toArray, List.nil_append, List.cons_append])
  gi_wp2_with (refine ⟨trivial, ?_⟩; gi_at_call 10; refine (callsIn_wide.2 HC.out).mono ?_; rintro e w1 ⟨rfl, hb1⟩; have z2 := cell_keep hb1 q2; have z3 := cell_keep hb1 q3; have z5 := cell_keep hb1 q5; have hb1' := hb1.size)
  gi_wp2
  gi_loopw [7] (fun v wr => ∃ (k : Nat) (pre rest : List Stp) (idx err : Int), v = .int .i64 k ∧ wr.heap[w1.heap.size]? = some (.cells #[.int .i64 idx, .int .i64 err] 54 (0, 0)) ∧ wr.heap[bt]? = w.heap[bt]? ∧ wr.heap[bp]? = w.heap[bp]? ∧ Below w0.heap.size w0 wr ∧ J pre wr ∧ Hid (At ts ps L pre k idx err rest)) (fun v _ => ps.length + 1 - (intOf v).toNat)
  case atStart =>
    obtain ⟨rest, hA⟩ := HA0.out
    have hwn : w.heap.size ≤ w1.heap.size := Nat.le_trans hW.size hb1'
    have hww := ((hW.trans (hb1.mono hW.size)).alloc hwn (.cells #[.int .i64 ti, .int .i64 0] 54))
    exact ⟨0, [], rest, ti, 0, rfl, heap_alloc_new w1 _, hww.block _ l1, hww.block _ l3, hw.trans (hww.mono hw.size), hJ _ _ _ h0 (Turn.trans (Turn.of_below hb1) (Turn.of_below ((Below.refl _ _).alloc (Nat.le_refl _) _))), Lib.hid hA⟩
  case round =>
    obtain ⟨k, pre, rest, idx, err, rfl, hbk, hbt, hbp, hB, hJp, hA⟩ := hrel
    have hBs : w.heap.size ≤ wr.heap.size := by have := (Array.getElem?_eq_some_iff.1 hbk).1; have := hW.size; omega
    obtain ⟨fn, tmps, assign, body, hy, hR⟩ := hY pre ⟨k, idx, err⟩ rest wr hA.out.all hJp
    rw [show encS ⟨k, idx, err⟩ = #[.int .i64 (k : Int), .agg #[.int .i64 idx, .int .i64 err]] from rfl] at hy
    have c0 : wr.cell? ⟨w1.heap.size, 0, none⟩ = some (.int .i64 idx) := by rw [cell_of_row wr _ 0 _ _ _ hbk]; rfl
    have c1 : wr.cell? ⟨w1.heap.size, 1, none⟩ = some (.int .i64 err) := by rw [cell_of_row wr _ 1 _ _ _ hbk]; rfl
    gi_wp2
    refine hR.mono ?_
    clear hy hR c0 c1
    rintro e W3 (⟨rfl, hJ3, hk3⟩ | ⟨rfl, hJx3⟩)
    · have hbk3 := hk3.same _ _ hb1' hbk rfl
      have hB3 := hB.trans (hk3.below (n₀ := w0.heap.size) (fun k hk => .inl hk) hB.size)
      have hbt3 := (hk3.low bt (.inr (.inl rfl)) (by omega)).trans hbt
      have hbp3 := (hk3.low bp (.inr (.inr (.inr rfl))) (by omega)).trans hbp
      have c0 : W3.cell? ⟨w1.heap.size, 0, none⟩ = some (.int .i64 idx) := by rw [cell_of_row W3 _ 0 _ _ _ hbk3]; rfl
      have c1 : W3.cell? ⟨w1.heap.size, 1, none⟩ = some (.int .i64 err) := by rw [cell_of_row W3 _ 1 _ _ _ hbk3]; rfl
      have y4 := (World.cell?_of_block (a := ⟨bp, 1, none⟩) hbp3).trans h4
      have hpl := hps.le
      have hpb := hps.big
      have hsz3 := hk3.size
      have hwn' : w.heap.size ≤ w1.heap.size := Nat.le_trans hW.size hb1'
      have hbtW : bt < W3.heap.size := by omega
      have hbpW : bp < W3.heap.size := by omega
      have hbtn := Lib.hid (show bt ≠ w1.heap.size by omega)
      have hbpn := Lib.hid (show bp ≠ w1.heap.size by omega)
      have hw0n := Lib.hid (show w0.heap.size ≤ w1.heap.size by have := hw.size; omega)
      have hbtH := Lib.hid hbt3
      have hbpH := Lib.hid hbp3
      clear q1 q2 q3 q4 q5 hB hbk hk3 hJp z2 z3 z5 h0 hbt hbp hbt3 hbp3
      by_cases herr : err = 0
      · have e1 : (err == 0) = true := by simp [herr]
        by_cases hk : k < ps.length
        · have hn0 := (hA.out.good herr).1
          have hn1 := (hA.out.good herr).2.1
          obtain ⟨ij, rfl⟩ := Int.eq_ofNat_of_zero_le hn0
          have hij : ij < ts.length := by omega
          obtain ⟨bC, oC, rfl, hbC, hrC⟩ := hps.sl.at_ hk
          obtain ⟨y5, y6⟩ := RPj.keeps _ _ _ w0.heap.size _ _ _ (Nat.le_refl _) hbC hB3 hrC
          have y1 := (World.cell?_of_block (a := ⟨bt, 0, none⟩) hbtH.out).trans h1
          have HP := Lib.hid (fun (X : World) (hb : Below w0.heap.size w0 X) => project_any ts ij _ ps[k] A c X (hts.keep RTy.keeps hb) hij rfl (fun _ => hfld.out _ (List.getElem_mem hk)))
          have HN := Lib.hid (At.next hok (by rw [herr] at hA; exact hA.out) hk (t := ts[ij]) (by rw [Int.toNat_natCast]; exact List.getElem?_eq_getElem hij))
          obtain ⟨rest', hA'⟩ := HN.out
          have HA' := Lib.hid hA'
          clear HN hA'
          have hwn : w.heap.size ≤ w1.heap.size := Nat.le_trans hW.size hb1'
          generalize prT ts[ij] ps[k] = y at *
          generalize ps[k] = x at *
          subst herr
          clear hA hts hps hn0 hrC
          gi_wp2
          refine wpIn_wide.2 ?_
          go_still_tail 8, (by kernel_rfl)
          change wpList _ _ _ _ _ W3.drew
          go_wp2_with (go_at_call 39; refine (HP.out _ hB3.drew).mono ?_; rintro e w4 ⟨rfl, hb4⟩; have hbk4 := blk_keep hb4 (show W3.drew.heap[w1.heap.size]? = _ from hbk3); obtain ⟨v0, v1, v2, v3⟩ := blk2 hbk4)
          gi_wp2
          go_roundw
          case rel => exact ⟨k + 1, pre ++ [⟨k, ij, 0⟩], rest', y.1, y.2, by go_num, blk2_set _ _ hbk4, (((Below.heap_setCell _ _ _ bt hbtn.out).trans (Below.heap_setCell _ _ _ bt hbtn.out)).trans (hb4.block bt hbtW)).trans hbtH.out, (((Below.heap_setCell _ _ _ bp hbpn.out).trans (Below.heap_setCell _ _ _ bp hbpn.out)).trans (hb4.block bp hbpW)).trans hbpH.out, ((hB3.drew.trans (hb4.mono hB3.drew.size)).setCell (p := ⟨w1.heap.size, 0, none⟩) hw0n.out _).setCell (p := ⟨w1.heap.size, 1, none⟩) hw0n.out _, hJ _ _ _ hJ3 ((Turn.of_below (A := W3) ⟨hb4.os, hb4.tape, hb4.output, hb4.size, hb4.block⟩).trans (turn_set2 _ _ hbk4 hb1' rfl)), HA'⟩
          case measure => simp [intOf]; omega
        · have hrest : Hid (L = pre ++ [⟨k, idx, err⟩]) := Lib.hid (by
            obtain ⟨a1, a2, a3, a4⟩ := hA.out
            obtain ⟨_, _, a5⟩ := a3 herr
            rw [List.drop_eq_nil_of_le (by omega), walkS] at a5
            rw [a1, a5, herr])
          clear hA herr
          gi_wp2
          go_end0
          exact ⟨⟨_, rfl⟩, .inl (by rw [hrest.out]; exact hJ3)⟩
      · have e1 : (err == 0) = false := by simp [herr]
        have hrest : Hid (L = pre ++ [⟨k, idx, err⟩]) := Lib.hid (by rw [hA.out.all, hA.out.bad herr])
        clear hA herr
        gi_wp2
        go_end0
        exact ⟨⟨_, rfl⟩, .inl (by rw [hrest.out]; exact hJ3)⟩
    · gi_wp2
      go_end0
      exact ⟨⟨_, rfl⟩, .inr ⟨pre, _, rest, hA.out.all, hJx3⟩⟩
end Go.Proofs.Ytmfdppgfbgjmcaa
