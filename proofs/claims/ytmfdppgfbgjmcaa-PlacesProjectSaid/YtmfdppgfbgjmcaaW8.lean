/-
  Walks: TypeOf of places.
-/
import Derived.Test.YtmfdppgfbgjmcaaW7
import Derived.Shelf.Abstract
namespace Go.Proofs.Ytmfdppgfbgjmcaa
open Go.RowKit Go.Shelf
attribute [local go_sem] Oper.semAt_some

theorem path_seq (n : Nat) (hn : 1 ≤ n) (ts : List Ty) (ls : List Lc) (l : Int) (ps : List Pj) (A B C : Option Addr) (c d e bp bl bt : Nat) (w0 w : World) (hw : Below w0.heap.size w0 w) (h1 : w.cell? ⟨bt, 0, none⟩ = some (.slice A ts.length c)) (h2 : w.cell? ⟨bl, 0, none⟩ = some (.slice B ls.length d)) (h3 : w.cell? ⟨bp, 0, none⟩ = some (.int .i64 l)) (h4 : w.cell? ⟨bp, 1, none⟩ = some (.slice C ps.length e)) (hts : Slc 5 RTy w0 A c ts) (hls : Slc 2 RLc w0 B d ls) (hps : Slc 2 RPj w0 C e ps) (hok : Okay ts ls) :
    SeqL Fence.wide n Try.prog 38 #[.pointer (some ⟨bp, 0, none⟩), .pointer (some ⟨bl, 0, none⟩), .pointer (some ⟨bt, 0, none⟩)] encS T54 (fun k => k < w0.heap.size ∨ k = bt ∨ k = bl ∨ k = bp) (pth ts ls l ps) w := by
  by_cases hg : chk l ps = 0
  · have hl : 0 ≤ l := by
      unfold chk at hg
      split at hg
      · cases hg
      · omega
    by_cases hlt : l < ls.length
    · exact path_seq2 n hn ts ls l ps A B C c d e bp bl bt w0 w hw h1 h2 h3 h4 hts hls hps hok hg l.toNat (by omega) (by omega)
    · exact path_seq1 n hn ts ls l ps A B C c d e bp bl bt w0 w hw h1 h2 h3 h4 hts hls hps hok hg (by omega)
  · exact path_seq0 n hn ts ls l ps A B C c d e bp bl bt w0 w hw h1 h2 h3 h4 hts hls hps hok hg

theorem below_put {n : Nat} {w W : World} {D : Nat} {o : Obj} (h : Below n w W) (hD : n ≤ D) : Below n w (W.putObj D o) :=
  h.trans ⟨rfl, rfl, rfl, by simp, fun k hk => World.putObj_heap_other (by omega)⟩

/-- The index and the error of the last element. -/
def lastS (l : List Stp) : Int × Int := match l.getLast? with
  | none => (0, 0)
  | some s => (s.idx, s.err)
theorem lastS_snoc (l : List Stp) (s : Stp) : lastS (l ++ [s]) = (s.idx, s.err) := by simp [lastS]

/-- What TypeOf answers. -/
def tyOf (ts : List Ty) (ls : List Lc) (l : Int) (ps : List Pj) : Int × Int := lastS (pth ts ls l ps)

set_option maxRecDepth 100000 in
set_option maxHeartbeats 4000000 in
theorem typeOf_any (ts : List Ty) (ls : List Lc) (l : Int) (ps : List Pj) (A B C : Option Addr) (c d e : Nat) (w : World) (hts : Slc 5 RTy w A c ts) (hls : Slc 2 RLc w B d ls) (hps : Slc 2 RPj w C e ps) (hok : Okay ts ls) :
    Calls Try.prog 13 #[.slice A ts.length c, .slice B ls.length d, .agg #[.int .i64 l, .slice C ps.length e]] w fun e' w' => e' = .returned (.tuple #[.int .i64 (tyOf ts ls l ps).1, .int .i64 (tyOf ts ls l ps).2]) ∧ Below w.heap.size w w' := by
  refine (callsIn_wide (n := 5)).1 ?_
  refine callsIn_of_wp_marks Try.func13 rfl trivial ?_ rfl
  simp only [Try.ntmps13, List.size_toArray, List.length_cons, List.length_nil, Nat.reduceAdd, Nat.reduceSub, Array.replicate_succ, Array.replicate_zero, List.push_toArray, List.append_toArray, List.nil_append, List.cons_append]
  gi_wp2_with (refine ⟨trivial, ?_⟩; gi_at_call 28; refine (callsIn_wide.2 (path_any _ _ _ _ _ _ _ _ _ _ _)).mono ?_; rintro e' w' ⟨rfl, rfl⟩)
  obtain ⟨W0, hW0⟩ : ∃ W0, ((((w.alloc (.cells #[.int .i64 l, .slice C ps.length e] 24)).alloc (.cells #[.int .i64 0, .int .i64 0] 54)).alloc (.cells #[.slice A ts.length c] 30)).alloc (.cells #[.slice B ls.length d] 31)).alloc (.cells #[.int .i64 l, .slice C ps.length e] 24) = W0 := ⟨_, rfl⟩
  rw [hW0]
  have hB0 : Below w.heap.size w W0 := by rw [← hW0]; (repeat (first | exact Below.refl _ _ | assumption | refine Below.alloc ?_ (by first | omega | (simp; done) | (simp; omega)) _ | refine below_drewN ?_ _ | refine Below.drew ?_ | refine Below.setCell ?_ (by first | omega | (simp; done) | (simp; omega)) _))
  have hz0 : W0.heap.size = w.heap.size + 1 + 1 + 1 + 1 + 1 := by subst hW0; simp
  have z1 : W0.heap[w.heap.size + 1]? = some (.cells #[.int .i64 0, .int .i64 0] 54 (0, 0)) := by
    subst hW0
    rw [Below.heap_alloc _ _ _ (by simp), Below.heap_alloc _ _ _ (by simp), Below.heap_alloc _ _ _ (by simp)]
    have := heap_alloc_new (w.alloc (.cells #[.int .i64 l, .slice C ps.length e] 24)) (.cells #[.int .i64 0, .int .i64 0] 54)
    rwa [World.size_alloc] at this
  have z2 : W0.cell? ⟨w.heap.size + 1 + 1, 0, none⟩ = some (.slice A ts.length c) := by subst hW0; go_simp
  have z3 : W0.cell? ⟨w.heap.size + 1 + 1 + 1, 0, none⟩ = some (.slice B ls.length d) := by subst hW0; go_simp
  have z4 : W0.cell? ⟨w.heap.size + 1 + 1 + 1 + 1, 0, none⟩ = some (.int .i64 l) := by subst hW0; go_simp
  have z5 : W0.cell? ⟨w.heap.size + 1 + 1 + 1 + 1, 1, none⟩ = some (.slice C ps.length e) := by subst hW0; go_simp
  have hseq := path_seq (5 - 1) (by omega) ts ls l ps A B C c d e _ _ _ w W0 hB0 z2 z3 z4 z5 hts hls hps hok
  clear hW0 z2 z3 z4 z5 hts hls hps hok
  refine wpIn_range rfl (by omega) (gf := 38) (lb := #[.pointer (some ⟨w.heap.size + 1 + 1 + 1 + 1, 0, none⟩), .pointer (some ⟨w.heap.size + 1 + 1 + 1, 0, none⟩), .pointer (some ⟨w.heap.size + 1 + 1, 0, none⟩)]) rfl trivial (enters_of Try.func38 (by kernel_rfl) rfl)
    hseq (Below.refl _ _) (by intro k hk; omega) (fun _ => rfl)
    (fun pre W => W.heap[w.heap.size + 1]? = some (.cells #[.int .i64 (lastS pre).1, .int .i64 (lastS pre).2] 54 (0, 0)) ∧ Below w.heap.size w W)
    (fun _ _ _ => False)
    (fun s A B hs ht => ⟨ht.block_low (by omega) hs.1, ht.below (by omega) (by have := hs.2.size; omega) hs.2⟩) (fun _ _ _ _ hs _ => hs)
    ⟨z1, hB0⟩ ?round ?done ?stop
  case round =>
    rintro lr pre x post W hL hlr ⟨r, hr⟩ hWs ⟨hb, hB⟩
    clear z1
    simp only [encS, List.zip_toArray, List.zip_cons_cons]
    gi_wp2
    refine ⟨(Kb.refl _ _ _ _).alloc _, fun W2 hrec => ?_⟩
    have hb2 := hrec.cells ((Below.heap_alloc W (.cells #[.int .i64 x.idx, .int .i64 x.err] 54) _ (Array.getElem?_eq_some_iff.1 hb).1).trans hb)
    have hn2 := hrec.cells (heap_alloc_new W (.cells #[.int .i64 x.idx, .int .i64 x.err] 54))
    obtain ⟨v0, v1, v2, v3⟩ := blk2 hb2
    obtain ⟨y0, y1, y2, y3⟩ := blk2 hn2
    have hB2 : Below w.heap.size w W2 := (hB.alloc hB.size (.cells #[.int .i64 x.idx, .int .i64 x.err] 54)).trans ⟨hrec.os, hrec.tape, hrec.output, by rw [hrec.size]; exact Nat.le_refl _, fun k hk => hrec.block k (by omega)⟩
    gi_wp2
    exact ⟨((Kb.refl _ _ _ _).setLow (p := ⟨w.heap.size + 1, 0, none⟩) _ (by simp) (by simp; omega)).setLow (p := ⟨w.heap.size + 1, 1, none⟩) _ (by simp) (by simp; omega), by rw [lastS_snoc]; exact blk2_set _ _ hb2, (hB2.setCell (p := ⟨w.heap.size + 1, 0, none⟩) (by simp) _).setCell (p := ⟨w.heap.size + 1, 1, none⟩) (by simp) _⟩
  case done =>
    rintro D W hD ⟨hb, hB⟩ hK
    obtain ⟨v0, v1, v2, v3⟩ := blk2 hb
    gi_wp2
    refine wpIn_wide.2 ?_
    go_quiet (fail)
    gi_wp2
    refine ⟨by simp, .inl ⟨_, _, rfl, run_takeDeferred (w := W.drewN _) hK, ?_⟩⟩
    exact ⟨_, results_tmp2 rfl _ _ _, rfl, below_put (below_drewN hB _) (by omega)⟩
  case stop => exact fun _ _ _ _ _ _ _ _ h => h.elim
end Go.Proofs.Ytmfdppgfbgjmcaa
