/-
  Parts of the proof: W10 W11 P1 P2 Take B7 B8 B9 B10 B11 W12 W13.
-/
import Derived.Test.YtbnljlpefpllcaaGreatDoorMD2
import Derived.Test.YtbnljlpefpllcaaGreatDoorMD1
import Derived.OwnWalk
import Derived.Lib.SliceRun
namespace Go.Proofs.YtbnljlpefpllcaaGreatDoor
open Go.RowKit Go.Shelf
attribute [local go_sem] Oper.semAt_some
/-- A block of one cell. -/
theorem blk1 {w : World} {k : Nat} {a : Value} {t : TypeId} (h : w.heap[k]? = some (.cells #[a] t (0, 0))) : w.cell? ⟨k, 0, none⟩ = some a ∧ w.frozen? ⟨k, 0, none⟩ = false :=
  ⟨by rw [cell_of_row w _ 0 _ _ _ h]; rfl, by simp [World.frozen?, h]⟩
/-- Blocks laid one behind the other. -/
def allocs (w : World) (os : List Obj) : World := os.foldl World.alloc w
theorem allocs_old (os : List Obj) : ∀ (w : World) (k : Nat), k < w.heap.size → (allocs w os).heap[k]? = w.heap[k]? := by
  induction os with
  | nil => intro w k _; rfl
  | cons o os ih => intro w k hk; exact (ih (w.alloc o) k (by simp; omega)).trans (Below.heap_alloc w o k hk)
theorem allocs_get (os : List Obj) : ∀ (w : World) (i : Nat), i < os.length → (allocs w os).heap[w.heap.size + i]? = os[i]? := by
  induction os with
  | nil => intro w i h; simp at h
  | cons o os ih =>
    intro w i h
    cases i with
    | zero => exact (allocs_old os (w.alloc o) w.heap.size (by simp)).trans (heap_alloc_new w o)
    | succ i =>
      have := ih (w.alloc o) i (by simpa using h)
      rw [World.size_alloc, Nat.add_assoc, Nat.add_comm 1 i] at this
      exact this
theorem blk1_put {w : World} {k : Nat} {a : Value} {t : TypeId} (x : Value) (h : w.heap[k]? = some (.cells #[a] t (0, 0))) : (w.setCell ⟨k, 0, none⟩ x).heap[k]? = some (.cells #[x] t (0, 0)) := by
  simp [World.setCell, Array.getElem?_modify, h]
theorem set_far {w : World} {k : Nat} {o : Obj} {p : Addr} (u : Value) (h : w.heap[k]? = some o) (hne : k ≠ p.block) : (w.setCell p u).heap[k]? = some o := (Below.heap_setCell w p u k hne).trans h
theorem refsL_le (ts : List Ty) (ps : List Pj) (L : List Stp) : (refsL ts ps L).length ≤ L.length := by
  induction L with
  | nil => simp [refsL]
  | cons s L ih =>
    have h1 : (refStep ts ps s).length ≤ 1 := by
      unfold refStep
      split
      · simp
      · split
        · split <;> simp
        · simp
    unfold refsL at *
    rw [List.flatMap_cons, List.length_append, List.length_cons]
    omega
/-- What the loop of references knows between two rounds: b is the number of its first block. -/
structure RefI (ts : List Ty) (ps : List Pj) (A C : Option Addr) (c e b D : Nat) (l : Int) (w : World) (pre : List Stp) (W : World) : Prop where
  types : W.heap[b]? = some (.cells #[.slice A ts.length c] 24 (0, 0))
  plc : W.heap[b + 1]? = some (.cells #[.int .i64 l, .slice C ps.length e] 55 (0, 0))
  res : W.heap[b + 1 + 1]? = some (.cells #[.slice none 0 0] 24 (0, 0))
  ok : W.heap[b + 1 + 1 + 1]? = some (.cells #[.bool false] 4 (0, 0))
  row : ∃ (ys : List TH) (v : Value), W.heap[b + 1 + 1 + 1 + 1]? = some (.cells #[v] 24 (0, 0)) ∧ W.ownsRow D 83 5 v ys.length (ys.flatMap cellsH) ∧ (∀ y ∈ ys, GoodH w y) ∧ ys.map (·.t) = refsL ts ps pre
  good : ∀ s ∈ pre, s.err = 0
  low : Below w.heap.size w W
theorem RefI.turn {ts : List Ty} {ps : List Pj} {A C : Option Addr} {c e b D : Nat} {l : Int} {w : World} {pre : List Stp} {X Y : World} (h : RefI ts ps A C c e b D l w pre X) (hb : b + 5 ≤ D) (hw : w.heap.size ≤ b) (ht : Turn D T54 X Y) : RefI ts ps A C c e b D l w pre Y :=
  ⟨ht.block_low (by omega) h.types, ht.block_low (by omega) h.plc, ht.block_low (by omega) h.res, ht.block_low (by omega) h.ok,
   let ⟨ys, v, h1, h2, h3, h4⟩ := h.row
   ⟨ys, v, ht.block_low (by omega) h1, ht.grownBy (by decide) h2, h3, h4⟩, h.good, ht.below (by omega) (h.low.size) h.low⟩
set_option maxRecDepth 100000 in
set_option maxHeartbeats 4000000 in
theorem refs_any (ts : List Ty) (ls : List Lc) (l : Int) (ps : List Pj) (A B C : Option Addr) (c d e : Nat) (w : World) (hts : Slc 5 RTy w A c ts) (hls : Slc 2 RLc w B d ls) (hps : Slc 2 RPj w C e ps) (hok : Okay ts ls) :
    Calls Tryz.prog 210 #[.slice A ts.length c, .slice B ls.length d, .agg #[.int .i64 l, .slice C ps.length e]] w fun e' w' => ∃ A' c', e' = .returned (.tuple #[.slice A' (refsOf ts ls l ps).1.length c', .bool (refsOf ts ls l ps).2]) ∧ Slc 5 RTy w' A' c' (refsOf ts ls l ps).1 ∧ Below w.heap.size w w' := by
  refine (callsIn_wide (n := 5)).1 ?_
  refine callsIn_of_wp_marks Tryz.func210 rfl trivial ?_ rfl
  simp only [Tryz.ntmps210, List.size_toArray, List.length_cons, List.length_nil, Nat.reduceAdd, Nat.reduceSub, Array.replicate_succ, Array.replicate_zero, List.push_toArray, List.append_toArray, List.nil_append, List.cons_append]
  gi_wp2_with (refine ⟨trivial, ?_⟩; gi_at_call 219; refine (callsIn_wide.2 (path_any _ _ _ _ _ _ _ _ _ _ _)).mono ?_; rintro e' w' ⟨rfl, rfl⟩)
  obtain ⟨W0, hW0⟩ : ∃ W0, (((((((w.alloc (.cells #[.slice A ts.length c] 24)).alloc (.cells #[.int .i64 l, .slice C ps.length e] 55)).alloc (.cells #[.slice none 0 0] 24)).alloc (.cells #[.bool false] 4)).alloc (.cells #[.slice none 0 0] 24)).alloc (.cells #[.slice A ts.length c] 24)).alloc (.cells #[.slice B ls.length d] 25)).alloc (.cells #[.int .i64 l, .slice C ps.length e] 55) = W0 := ⟨_, rfl⟩
  rw [hW0]
  have hB0 : Below w.heap.size w W0 := by rw [← hW0]; (repeat (first | exact Below.refl _ _ | assumption | refine Below.alloc ?_ (by first | omega | (simp; done) | (simp; omega)) _ | refine below_drewN ?_ _ | refine Below.drew ?_ | refine Below.setCell ?_ (by first | omega | (simp; done) | (simp; omega)) _))
  have hz0 : W0.heap.size = w.heap.size + 1 + 1 + 1 + 1 + 1 + 1 + 1 + 1 := by subst hW0; simp
  have hall := fun i hi => (allocs_get [.cells #[.slice A ts.length c] 24, .cells #[.int .i64 l, .slice C ps.length e] 55, .cells #[.slice none 0 0] 24, .cells #[.bool false] 4, .cells #[.slice none 0 0] 24, .cells #[.slice A ts.length c] 24, .cells #[.slice B ls.length d] 25, .cells #[.int .i64 l, .slice C ps.length e] 55] w i hi)
  rw [show allocs w [.cells #[.slice A ts.length c] 24, .cells #[.int .i64 l, .slice C ps.length e] 55, .cells #[.slice none 0 0] 24, .cells #[.bool false] 4, .cells #[.slice none 0 0] 24, .cells #[.slice A ts.length c] 24, .cells #[.slice B ls.length d] 25, .cells #[.int .i64 l, .slice C ps.length e] 55] = W0 from hW0] at hall
  have z0 : W0.heap[w.heap.size]? = some (.cells #[.slice A ts.length c] 24 (0, 0)) := hall 0 (by simp)
  have z1 : W0.heap[w.heap.size + 1]? = some (.cells #[.int .i64 l, .slice C ps.length e] 55 (0, 0)) := hall 1 (by simp)
  have z2 : W0.heap[w.heap.size + 1 + 1]? = some (.cells #[.slice none 0 0] 24 (0, 0)) := hall 2 (by simp)
  have z3 : W0.heap[w.heap.size + 1 + 1 + 1]? = some (.cells #[.bool false] 4 (0, 0)) := hall 3 (by simp)
  have z4 : W0.heap[w.heap.size + 1 + 1 + 1 + 1]? = some (.cells #[.slice none 0 0] 24 (0, 0)) := hall 4 (by simp)
  have z5 : W0.heap[w.heap.size + 1 + 1 + 1 + 1 + 1]? = some (.cells #[.slice A ts.length c] 24 (0, 0)) := hall 5 (by simp)
  have z6 : W0.heap[w.heap.size + 1 + 1 + 1 + 1 + 1 + 1]? = some (.cells #[.slice B ls.length d] 25 (0, 0)) := hall 6 (by simp)
  have z7 : W0.heap[w.heap.size + 1 + 1 + 1 + 1 + 1 + 1 + 1]? = some (.cells #[.int .i64 l, .slice C ps.length e] 55 (0, 0)) := hall 7 (by simp)
  have hseq := path_seq (5 - 1) (by omega) ts ls l ps A B C c d e _ _ _ w W0 hB0 (blk1 z5).1 (blk1 z6).1 (blk2 z7).1 (blk2 z7).2.1 hts hls hps hok
  have hlen := Lib.hid (pth_len ts ls l ps)
  have hpok := Lib.hid (pth_ok hok l ps)
  have hI0 : RefI ts ps A C c e w.heap.size W0.heap.size l w [] W0 := ⟨z0, z1, z2, z3, ⟨[], _, z4, World.ownsRow_nil _ _ _ _, by simp, rfl⟩, by simp, hB0⟩
  have hpl := hps.le
  have hpb := hps.big
  have htl := hts.le
  have htb := hts.big
  clear hall hW0 z0 z1 z2 z3 z4 z5 z6 z7 hls hok
  refine wpIn_range rfl (by omega) (gf := 232) (lb := #[.pointer (some ⟨w.heap.size + 1 + 1 + 1 + 1 + 1 + 1 + 1, 0, none⟩), .pointer (some ⟨w.heap.size + 1 + 1 + 1 + 1 + 1 + 1, 0, none⟩), .pointer (some ⟨w.heap.size + 1 + 1 + 1 + 1 + 1, 0, none⟩)]) rfl trivial (enters_of Tryz.func232 (by kernel_rfl) rfl)
    hseq (Below.refl _ _) (by intro k hk; omega) (fun _ => rfl)
    (RefI ts ps A C c e w.heap.size W0.heap.size l w)
    (fun co pre W => co = .ret ∧ W.heap[w.heap.size + 1 + 1]? = some (.cells #[.slice none 0 0] 24 (0, 0)) ∧ W.heap[w.heap.size + 1 + 1 + 1]? = some (.cells #[.bool false] 4 (0, 0)) ∧ Below w.heap.size w W ∧ ∃ s ∈ pre, s.err ≠ 0)
    (fun s X Y hs ht => hs.turn (by omega) (Nat.le_refl _) ht)
    (fun _ _ X Y hs ht => ⟨hs.1, ht.block_low (by omega) hs.2.1, ht.block_low (by omega) hs.2.2.1, ht.below (by omega) hs.2.2.2.1.size hs.2.2.2.1, hs.2.2.2.2⟩)
    hI0 ?round ?done ?stop
  case round =>
    rintro lr pre x post W hL hlr ⟨r, hr⟩ hWs hI
    simp only [encS, List.zip_toArray, List.zip_cons_cons]
    gi_wp2
    refine ⟨(Kb.refl _ _ _ _).alloc _, fun W2 hrec => ?_⟩
    have hn2 := hrec.cells (heap_alloc_new W (.cells #[.int .i64 x.idx, .int .i64 x.err] 288))
    have hI2 : RefI ts ps A C c e w.heap.size W0.heap.size l w pre W2 := hI.turn (by omega) (Nat.le_refl _) ((Turn.of_below ((Below.refl _ _).alloc (Nat.le_refl _) _)).trans (hrec.turn hlr))
    have hs2 : W2.heap.size = W.heap.size + 1 := by rw [hrec.size]; simp
    clear hI hrec hI0
    have HX := Lib.hid hL
    clear hL
    generalize W.heap.size = bn at *
    have hbn : W0.heap.size ≤ bn := hWs
    clear hr hWs
    obtain ⟨q1, q2, q3, q4, ⟨ys, v, q5, q6, q7, q8⟩, q9, q10⟩ := hI2
    obtain ⟨y0, y1, y2, y3⟩ := blk2 hn2
    by_cases herr : x.err = 0
    · have e1 : (x.err != 0) = false := by simp [herr]
      have hgood : Hid (∀ s ∈ pre ++ [x], s.err = 0) := Lib.hid (fun s hs => by
        rcases List.mem_append.1 hs with h | h
        · exact q9 s h
        · rw [List.mem_singleton] at h; rw [h]; exact herr)
      have hidx := hpok.out x (by rw [HX.out]; simp) herr
      obtain ⟨p1, _⟩ := blk1 q1
      obtain ⟨p2, p3, _, _⟩ := blk2 q2
      clear q9
      by_cases hk : x.num < ps.length
      · obtain ⟨bC, oC, rfl, hbC, hrC⟩ := hps.sl.at_ hk
        obtain ⟨g1, g2⟩ := RPj.keeps _ _ _ w.heap.size _ _ _ (Nat.le_refl _) hbC q10 hrC
        by_cases hkd : ps[x.num].kind = 0
        · have e2 : (ps[x.num].kind == 0) = true := by simp [hkd]
          obtain ⟨xn, xi, xe⟩ := x
          simp only [] at *
          obtain ⟨ij, rfl⟩ := Int.eq_ofNat_of_zero_le hidx.1
          have hij : ij < ts.length := by omega
          obtain ⟨bT, oT, rfl, hbT, hrT⟩ := hts.sl.at_ hij
          obtain ⟨r1, r2, r3, r4, A2, c2, r5, r6, r7, r8⟩ := hrT
          have hnewG : GoodH w ⟨ts[ij], A2, c2⟩ := ⟨r8, r6, r7⟩
          replace r1 := cell_keep q10 r1
          replace r2 := cell_keep q10 r2
          replace r3 := cell_keep q10 r3
          replace r4 := cell_keep q10 r4
          replace r5 := cell_keep q10 r5
          have hrefs : Hid (refsL ts ps (pre ++ [⟨xn, ij, xe⟩]) = refsL ts ps pre ++ [ts[ij]]) := Lib.hid (by
            rw [refsL_snoc, refStep, List.getElem?_eq_getElem hk]
            simp [hkd, hij])
          generalize ps[xn] = pj at *
          generalize ts[ij] = tt at *
          clear hkd hps hts herr hidx hrC
          obtain ⟨v1, v2⟩ := blk1 q5
          have hlb := lt_steps hbT
          gi_wp2
          refine wpInR_m (S := fun X => X.cell? ⟨w.heap.size + 1 + 1 + 1 + 1, 0, none⟩ = some v ∧ X.cell? ⟨w.heap.size, 0, none⟩ = some (.slice (some ⟨bT, oT, none⟩) ts.length c) ∧ X.cell? ⟨bn, 0, none⟩ = some (.int .i64 ij) ∧ X.cell? ⟨bT, oT + ij * 5, none⟩ = some (.int .i64 tt.kind) ∧ X.cell? ⟨bT, oT + ij * 5 + 1, none⟩ = some (.bool tt.mu) ∧ X.cell? ⟨bT, oT + ij * 5 + 2, none⟩ = some (.int .i64 tt.reg) ∧ X.cell? ⟨bT, oT + ij * 5 + 3, none⟩ = some (.int .i64 tt.elem) ∧ X.cell? ⟨bT, oT + ij * 5 + 4, none⟩ = some (.slice A2 tt.flds.length c2)) (t := 8) (by kernel_rfl) (by kernel_rfl) (by rintro ⟨_, _, hx⟩; exact hx) ?_
          have hS : W2.drew.cell? ⟨w.heap.size + 1 + 1 + 1 + 1, 0, none⟩ = some v ∧ W2.drew.cell? ⟨w.heap.size, 0, none⟩ = some (.slice (some ⟨bT, oT, none⟩) ts.length c) ∧ W2.drew.cell? ⟨bn, 0, none⟩ = some (.int .i64 ij) ∧ W2.drew.cell? ⟨bT, oT + ij * 5, none⟩ = some (.int .i64 tt.kind) ∧ W2.drew.cell? ⟨bT, oT + ij * 5 + 1, none⟩ = some (.bool tt.mu) ∧ W2.drew.cell? ⟨bT, oT + ij * 5 + 2, none⟩ = some (.int .i64 tt.reg) ∧ W2.drew.cell? ⟨bT, oT + ij * 5 + 3, none⟩ = some (.int .i64 tt.elem) ∧ W2.drew.cell? ⟨bT, oT + ij * 5 + 4, none⟩ = some (.slice A2 tt.flds.length c2) := ⟨v1, p1, y0, r1, r2, r3, r4, r5⟩
          refine wpAnyM_take (i := 0) (v := ?tv0) rfl (by kernel_rfl) (by kernel_rfl) (by kernel_rfl) (by kernel_rfl) (fun _ _ _ h => h) (Or.inl ⟨by rfl, ?ty0⟩) hS ?tr0
          case ty0 =>
            rintro X ⟨s1, s2, s3, s4, s5, s6, s7, s8⟩
            simp only [List.getElem_toArray, List.getElem_cons_zero, List.getElem_cons_succ]
            go_simp
            rfl
          simp only [List.getElem_toArray, List.getElem_cons_zero, List.getElem_cons_succ, Act.put, List.setIfInBounds_toArray, List.set_cons_zero, List.set_cons_succ]
          refine wpAnyM_take (i := 1) (v := ?tv1) rfl (by kernel_rfl) (by kernel_rfl) (by kernel_rfl) (by kernel_rfl) (fun _ _ _ h => h) (Or.inl ⟨by rfl, ?ty1⟩) hS ?tr1
          case ty1 =>
            rintro X ⟨s1, s2, s3, s4, s5, s6, s7, s8⟩
            simp only [List.getElem_toArray, List.getElem_cons_zero, List.getElem_cons_succ]
            go_simp
            rfl
          simp only [List.getElem_toArray, List.getElem_cons_zero, List.getElem_cons_succ, Act.put, List.setIfInBounds_toArray, List.set_cons_zero, List.set_cons_succ]
          refine wpAnyM_take (i := 2) (v := ?tv2) rfl (by kernel_rfl) (by kernel_rfl) (by kernel_rfl) (by kernel_rfl) (fun _ _ _ h => h) (Or.inl ⟨by rfl, ?ty2⟩) hS ?tr2
          case ty2 =>
            rintro X ⟨s1, s2, s3, s4, s5, s6, s7, s8⟩
            simp only [List.getElem_toArray, List.getElem_cons_zero, List.getElem_cons_succ]
            go_simp
            rfl
          simp only [List.getElem_toArray, List.getElem_cons_zero, List.getElem_cons_succ, Act.put, List.setIfInBounds_toArray, List.set_cons_zero, List.set_cons_succ]
          refine wpAnyM_take (i := 3) (v := ?tv3) rfl (by kernel_rfl) (by kernel_rfl) (by kernel_rfl) (by kernel_rfl) (fun _ _ _ h => h) (Or.inl ⟨by rfl, ?ty3⟩) hS ?tr3
          case ty3 =>
            rintro X ⟨s1, s2, s3, s4, s5, s6, s7, s8⟩
            simp only [List.getElem_toArray, List.getElem_cons_zero, List.getElem_cons_succ]
            go_simp
            rfl
          simp only [List.getElem_toArray, List.getElem_cons_zero, List.getElem_cons_succ, Act.put, List.setIfInBounds_toArray, List.set_cons_zero, List.set_cons_succ]
          refine wpAnyM_take (i := 4) (v := ?tv4) rfl (by kernel_rfl) (by kernel_rfl) (by kernel_rfl) (by kernel_rfl) (fun _ _ _ h => h) (Or.inl ⟨by rfl, ?ty4⟩) hS ?tr4
          case ty4 =>
            rintro X ⟨s1, s2, s3, s4, s5, s6, s7, s8⟩
            simp only [List.getElem_toArray, List.getElem_cons_zero, List.getElem_cons_succ]
            go_simp
            rfl
          simp only [List.getElem_toArray, List.getElem_cons_zero, List.getElem_cons_succ, Act.put, List.setIfInBounds_toArray, List.set_cons_zero, List.set_cons_succ]
          refine wpAnyM_take (i := 5) (v := ?tv5) rfl (by kernel_rfl) (by kernel_rfl) (by kernel_rfl) (by kernel_rfl) (fun _ _ _ h => h) (Or.inl ⟨by rfl, ?ty5⟩) hS ?tr5
          case ty5 =>
            rintro X ⟨s1, s2, s3, s4, s5, s6, s7, s8⟩
            simp only [List.getElem_toArray, List.getElem_cons_zero, List.getElem_cons_succ]
            go_simp
            rfl
          simp only [List.getElem_toArray, List.getElem_cons_zero, List.getElem_cons_succ, Act.put, List.setIfInBounds_toArray, List.set_cons_zero, List.set_cons_succ]
          refine wpAnyM_one (i := 6) (by kernel_rfl) rfl (fun K6 hK6 => ?_)
          simp only [List.getElem_toArray, List.getElem_cons_zero, List.getElem_cons_succ]
          go_simp
          have hba : Below W2.heap.size W2 (W2.alloc (.cells #[.int .i64 tt.kind, .bool tt.mu, .int .i64 tt.reg, .int .i64 tt.elem, .slice A2 tt.flds.length c2] 83)).drew := ((Below.refl _ _).alloc (Nat.le_refl _) _).drew
          have hnew : (W2.alloc (.cells #[.int .i64 tt.kind, .bool tt.mu, .int .i64 tt.reg, .int .i64 tt.elem, .slice A2 tt.flds.length c2] 83)).drew.heap[W2.heap.size]? = some (.cells #[.int .i64 tt.kind, .bool tt.mu, .int .i64 tt.reg, .int .i64 tt.elem, .slice A2 tt.flds.length c2] 83 (0, 0)) := heap_alloc_new W2 _
          have hS3 : (W2.alloc (.cells #[.int .i64 tt.kind, .bool tt.mu, .int .i64 tt.reg, .int .i64 tt.elem, .slice A2 tt.flds.length c2] 83)).drew.heap.size = W2.heap.size + 1 := by simp
          generalize (W2.alloc (.cells #[.int .i64 tt.kind, .bool tt.mu, .int .i64 tt.reg, .int .i64 tt.elem, .slice A2 tt.flds.length c2] 83)).drew = W3 at *
          rw [hs2] at hnew
          have hrow3 := q6.kept (World.grownBy.mk hba.os hba.tape hba.output hba.size (fun k hk _ => hba.block k hk) : W2.grownBy W3 none) (by cases hv : v.ownBlock <;> simp)
          refine hK6.out _ _ (fun _ => ⟨cell_keep hba v1, cell_keep hba p1, cell_keep hba y0, cell_keep hba r1, cell_keep hba r2, cell_keep hba r3, cell_keep hba r4, cell_keep hba r5⟩) ?_
          refine wpAnyM_one (i := 7) (by kernel_rfl) rfl (fun K7 hK7 => ?_)
          simp only [List.getElem_toArray, List.getElem_cons_zero, List.getElem_cons_succ]
          rw [if_pos (by rfl)]
          obtain ⟨i0, hi0, hz0, hz1, hz2⟩ := info_parts infoTy
          have hD3 : W0.heap.size ≤ W3.heap.size := by omega
          have hl33 : ys.length + 1 ≤ 34 := by
            have h1 := hlen.out
            rw [HX.out, List.length_append, List.length_cons] at h1
            have h2 : ys.length = (refsL ts ps pre).length := by rw [← q8, List.length_map]
            have h3 := refsL_le ts ps pre
            omega
          refine wpO_append (.tmp 34) (.tmp 40) 24 rfl W0.heap.size 83 i0 _ 5 56 Tryz.underlying24 hi0 hz0 hz1 hz2 rfl (by omega) v ys.length (ys.flatMap cellsH) rfl hrow3 ⟨bn + 1, 0, none⟩ 1 1 (cellsH ⟨tt, A2, c2⟩) rfl rfl ?_ ?_ (by simp only [maxLen]; omega) (by omega) hD3 ?_
          · intro j u hj
            rw [add0, cell_of_row W3 _ j _ _ _ hnew]
            simpa [cellsH] using hj
          · simp [cellsH, Value.oneCell']
          intro v' W4 hown4 hg4 hat4
          obtain ⟨g4, cap4, rfl⟩ := ownsRow_succ hown4
          have ne5 := own_ne_low hrow3 (show w.heap.size + 1 + 1 + 1 + 1 < W0.heap.size by omega)
          have ne0 := own_ne_low hrow3 (show w.heap.size < W0.heap.size by omega)
          have neT := own_ne_low hrow3 (show bT < W0.heap.size by omega)
          have nen := own_ne hrow3 (blk_keep hba hn2) (by decide)
          have k1 := hg4.cell (cell_keep hba v1) ne5
          have k2 := hg4.cell (cell_keep hba p1) ne0
          have k3 := hg4.cell (cell_keep hba y0) nen
          have k4 := hg4.cell (cell_keep hba r1) neT
          have k5 := hg4.cell (cell_keep hba r2) neT
          have k6 := hg4.cell (cell_keep hba r3) neT
          have k7 := hg4.cell (cell_keep hba r4) neT
          have k8 := hg4.cell (cell_keep hba r5) neT
          refine hK7.out _ _ (fun _ => ⟨k1, k2, k3, k4, k5, k6, k7, k8⟩) ?_
          refine wpAnyM_one (i := 8) (by kernel_rfl) rfl (fun K8 hK8 => ?_)
          simp only [List.getElem_toArray, List.getElem_cons_zero, List.getElem_cons_succ, Act.put, List.setIfInBounds_toArray, List.set_cons_zero, List.set_cons_succ]
          have hz4 : W4.heap[w.heap.size + 1 + 1 + 1 + 1]? = some (.cells #[v] 24 (0, 0)) := (hg4.block _ (by omega) ne5).trans (blk_keep hba q5)
          obtain ⟨u1, u2⟩ := blk1 hz4
          rw [if_pos (by rfl)]
          go_simp
          refine hK8.out _ _ (fun h => absurd h (by decide)) ?_
          refine wpAnyM_done (by kernel_rfl) ?_ _
          gi_wp2
          have hkb : Kb (fun k => k < w.heap.size ∨ k = w.heap.size + 1 + 1 + 1 + 1 + 1 ∨ k = w.heap.size + 1 + 1 + 1 + 1 + 1 + 1 ∨ k = w.heap.size + 1 + 1 + 1 + 1 + 1 + 1 + 1) W0.heap.size T54 W2 W4 := (Kb.of_below hba).grown hg4 (fun k hk => by
            have h1 := hrow3.lt k hk
            refine ⟨.inl (by omega), .inr (.inr ?_)⟩
            rcases hrow3.2 with ⟨rfl, _⟩ | ⟨g', cap', cur', rfl, _, hh', _⟩
            · simp [Value.ownBlock] at hk
            · have he : g' = k := by simpa [Value.ownBlock] using hk
              subst he
              exact ⟨_, _, _, hh', rfl⟩)
          refine ⟨hkb.setLow (p := ⟨w.heap.size + 1 + 1 + 1 + 1, 0, none⟩) _ (by simp; omega) (by simp; omega), ?_⟩
          have hbe : Below w.heap.size w W4 := q10.trans (hkb.below (n₀ := w.heap.size) (fun k hk => .inl hk) q10.size)
          have bq := fun k (hk : k < w.heap.size + 1 + 1 + 1 + 1 + 1) => hg4.block k (by omega) (own_ne_low hrow3 (show k < W0.heap.size by omega))
          refine ⟨set_far _ ((bq _ (by omega)).trans (blk_keep hba q1)) (by simp; omega), set_far _ ((bq _ (by omega)).trans (blk_keep hba q2)) (by simp), set_far _ ((bq _ (by omega)).trans (blk_keep hba q3)) (by simp), set_far _ ((bq _ (by omega)).trans (blk_keep hba q4)) (by simp), ?_, hgood.out, hbe.setCell (p := ⟨w.heap.size + 1 + 1 + 1 + 1, 0, none⟩) (by simp; omega) _⟩
          refine ⟨ys ++ [⟨tt, A2, c2⟩], _, blk1_put _ hz4, ?_, ?_, ?_⟩
          · rw [List.length_append, List.length_singleton, List.flatMap_append, List.flatMap_singleton]
            exact own_block hown4 (fun k hk _ _ => Below.heap_setCell W4 _ _ k (by simp; omega))
          · intro y hy
            rcases List.mem_append.1 hy with h | h
            · exact q7 y h
            · rw [List.mem_singleton] at h; rw [h]; exact hnewG
          · rw [List.map_append, hrefs.out, q8]
            rfl
        · have e2 : (ps[x.num].kind == 0) = false := by simp [hkd]
          have hrefs : Hid (refsL ts ps (pre ++ [x]) = refsL ts ps pre) := Lib.hid (by
            rw [refsL_snoc, refStep, List.getElem?_eq_getElem hk]
            simp [hkd])
          generalize ps[x.num] = pj at *
          clear hkd hps hts herr hidx
          gi_wp2
          exact ⟨Kb.refl _ _ _ _, q1, q2, q3, q4, ⟨ys, v, q5, q6, q7, by rw [hrefs.out]; exact q8⟩, hgood.out, q10⟩
      · have hd : decide ((x.num : Int) < (ps.length : Int)) = false := by simp; omega
        have hrefs : Hid (refsL ts ps (pre ++ [x]) = refsL ts ps pre) := Lib.hid (by
          rw [refsL_snoc, refStep, List.getElem?_eq_none (by omega)]
          simp)
        clear hps hts herr hidx
        gi_wp2
        exact ⟨Kb.refl _ _ _ _, q1, q2, q3, q4, ⟨ys, v, q5, q6, q7, by rw [hrefs.out]; exact q8⟩, hgood.out, q10⟩
    · have e1 : (x.err != 0) = true := by simp [herr]
      have hex : Hid (∃ s ∈ pre ++ [x], s.err ≠ 0) := Lib.hid ⟨x, by simp, herr⟩
      obtain ⟨v1, v2⟩ := blk1 q3
      obtain ⟨v3, v4⟩ := blk1 q4
      clear herr
      gi_wp2
      exact ⟨((Kb.refl _ _ _ _).setLow (p := ⟨w.heap.size + 1 + 1, 0, none⟩) _ (by simp; omega) (by simp; omega)).setLow (p := ⟨w.heap.size + 1 + 1 + 1, 0, none⟩) _ (by simp; omega) (by simp; omega), rfl,
        set_far _ (blk1_put _ q3) (by simp), blk1_put _ (set_far _ q4 (by simp)), (q10.setCell (p := ⟨w.heap.size + 1 + 1, 0, none⟩) (by simp; omega) _).setCell (p := ⟨w.heap.size + 1 + 1 + 1, 0, none⟩) (by simp; omega) _, hex.out⟩
  case done =>
    intro D W hD hI hK
    obtain ⟨q1, q2, q3, q4, ⟨ys, v, q5, q6, q7, q8⟩, q9, q10⟩ := hI
    have href : Hid (refsOf ts ls l ps = (ys.map (·.t), true)) := Lib.hid (by
      rw [refsOf, if_neg (by simpa using q9), q8])
    obtain ⟨A', c', rfl, hsl⟩ := slc_of_rows q6 (fun y hy => (q7 y hy).keep q10)
    obtain ⟨p5, _⟩ := blk1 q5
    obtain ⟨p3, p3'⟩ := blk1 q3
    obtain ⟨p4, p4'⟩ := blk1 q4
    have H6 := Lib.hid q6
    have H7 := Lib.hid q7
    clear q6 q7
    gi_wp2
    have q6 := H6.out
    have q7 := H7.out
    have hKD : ((W.setCell ⟨w.heap.size + 1 + 1, 0, none⟩ (.slice A' ys.length c')).setCell ⟨w.heap.size + 1 + 1 + 1, 0, none⟩ (.bool true)).heap[D]? = some (.deferred (some [])) := set_far _ (set_far _ hK (by simp; omega)) (by simp; omega)
    have n3 := set_far (p := ⟨w.heap.size + 1 + 1 + 1, 0, none⟩) (.bool true) (blk1_put (.slice A' ys.length c') q3) (by simp)
    have n4 := blk1_put (.bool true) (set_far (p := ⟨w.heap.size + 1 + 1, 0, none⟩) (.slice A' ys.length c') q4 (by simp))
    have hbl : Below w.heap.size w ((W.setCell ⟨w.heap.size + 1 + 1, 0, none⟩ (.slice A' ys.length c')).setCell ⟨w.heap.size + 1 + 1 + 1, 0, none⟩ (.bool true)) := (q10.setCell (p := ⟨w.heap.size + 1 + 1, 0, none⟩) (by simp; omega) _).setCell (p := ⟨w.heap.size + 1 + 1 + 1, 0, none⟩) (by simp; omega) _
    have hown : ((W.setCell ⟨w.heap.size + 1 + 1, 0, none⟩ (.slice A' ys.length c')).setCell ⟨w.heap.size + 1 + 1 + 1, 0, none⟩ (.bool true)).ownsRow W0.heap.size 83 5 (.slice A' ys.length c') ys.length (ys.flatMap cellsH) :=
      own_block (own_block q6 (fun k hk _ _ => Below.heap_setCell W _ _ k (by simp; omega))) (fun k hk _ _ => Below.heap_setCell _ _ _ k (by simp; omega))
    generalize (W.setCell ⟨w.heap.size + 1 + 1, 0, none⟩ (.slice A' ys.length c')).setCell ⟨w.heap.size + 1 + 1 + 1, 0, none⟩ (.bool true) = W5 at *
    refine ⟨by simp, .inl ⟨_, _, rfl, run_takeDeferred (w := _) hKD, ?_⟩⟩
    have hT : Turn D T54 W5 (W5.putObj D (.deferred none)) := Turn.putObj _ hKD (Nat.le_refl _) rfl
    have n3' := hT.block_low (by omega) n3
    have n4' := hT.block_low (by omega) n4
    have hbl' := hT.below (by omega) hbl.size hbl
    have hown' := hT.grownBy (by decide) hown
    generalize W5.putObj D (.deferred none) = W6 at *
    obtain ⟨A3, c3, he3, hsl3⟩ := slc_of_rows hown' (fun y hy => (q7 y hy).keep hbl')
    injection he3 with he3 _ he4
    subst he3 he4
    rw [href.out]
    obtain ⟨m3, _⟩ := blk1 n3'
    obtain ⟨m4, _⟩ := blk1 n4'
    refine ⟨.tuple #[.slice A' ys.length c', .bool true], ?_, A', c', by simp, hsl3, hbl'⟩
    simp [results, Tryz.results210, go_sem, m3, m4]
  case stop =>
    rintro D co pre x post W hD hL ⟨rfl, q3, q4, q10, hex⟩ hK
    have href : Hid (refsOf ts ls l ps = ([], false)) := Lib.hid (by
      obtain ⟨s, hs, he⟩ := hex
      rw [refsOf, if_pos]
      rw [List.any_eq_true]
      exact ⟨s, by rw [hL]; simp at hs ⊢; rcases hs with h | h <;> simp [h], by simpa using he⟩)
    gi_wp2
    refine ⟨by simp, .inl ⟨_, _, rfl, run_takeDeferred (w := _) hK, ?_⟩⟩
    have hT : Turn D T54 W (W.putObj D (.deferred none)) := Turn.putObj _ hK (Nat.le_refl _) rfl
    have n3' := hT.block_low (by omega) q3
    have n4' := hT.block_low (by omega) q4
    have hbl' := hT.below (by omega) q10.size q10
    generalize W.putObj D (.deferred none) = W6 at *
    rw [href.out]
    obtain ⟨m3, _⟩ := blk1 n3'
    obtain ⟨m4, _⟩ := blk1 n4'
    refine ⟨.tuple #[.slice none 0 0, .bool false], ?_, none, 0, by simp, ⟨Sl.nil, by simp, by omega⟩, hbl'⟩
    simp [results, Tryz.results210, go_sem, m3, m4]
end Go.Proofs.YtbnljlpefpllcaaGreatDoor
namespace Go.Proofs.YtbnljlpefpllcaaGreatDoor
open Go.RowKit Go.Shelf
theorem refsOf_len (ts : List Ty) (ls : List Lc) (l : Int) (ps : List Pj) : (refsOf ts ls l ps).1.length ≤ 33 := by
  unfold refsOf
  split
  · simp
  · have h1 := pth_len ts ls l ps
    have h2 := refsL_le ts ps (pth ts ls l ps)
    simp only []
    omega
theorem below_two {w A B C : World} (h1 : Below A.heap.size A B) (h2 : Below B.heap.size B C) (h0 : Below w.heap.size w A) : Below w.heap.size w C := (h0.trans (h1.mono h0.size)).trans (h2.mono (Nat.le_trans h0.size h1.size))
set_option maxHeartbeats 1000000 in
theorem mutable_any (ts : List Ty) (ls : List Lc) (l : Int) (ps : List Pj) (A B C : Option Addr) (c d e : Nat) (w : World) (hts : Slc 5 RTy w A c ts) (hls : Slc 2 RLc w B d ls) (hps : Slc 2 RPj w C e ps) (hok : Okay ts ls) :
    Calls Tryz.prog 175 #[.slice A ts.length c, .slice B ls.length d, .agg #[.int .i64 l, .slice C ps.length e]] w fun e' w' => e' = .returned (.bool ((refsOf ts ls l ps).2 && !(refsOf ts ls l ps).1.any notMu)) ∧ Below w.heap.size w w' := by
  have hR := Lib.hid (refs_any ts ls l ps A B C c d e (w.alloc (.cells #[.int .i64 l, .slice C ps.length e] 55)) (hts.keep RTy.keeps ((Below.refl _ _).alloc (Nat.le_refl _) _)) (hls.keep RLc.keeps ((Below.refl _ _).alloc (Nat.le_refl _) _)) (hps.keep RPj.keeps ((Below.refl _ _).alloc (Nat.le_refl _) _)) hok)
  clear hts hls hps hok
  generalize refsOf ts ls l ps = q at hR ⊢
  obtain ⟨us, ok⟩ := q
  go_enter Tryz.func175, Tryz.ntmps175
  go_wp2_with (first
    | (go_at_call 210; refine hR.out.mono ?_; rintro e' w' ⟨A', c', rfl, hs', hb⟩)
    | (go_at_call 211; refine (mut_contains _ _ _ _ hs').mono ?_; rintro e' w2 ⟨rfl, hb2⟩))
  all_goals
    go_ret
    first
    | exact ⟨by simp_all, below_two hb hb2 ((Below.refl _ _).alloc (Nat.le_refl _) _)⟩
    | exact ⟨by simp_all, below_two hb (Below.refl _ _) ((Below.refl _ _).alloc (Nat.le_refl _) _)⟩
/-- An owned row of ints reads as a slice of ints. -/
theorem slc_of_ints {W : World} {base : Nat} {e : TypeId} {v : Value} {ys : List Int} (h : W.ownsRow base e 1 v ys.length (ys.map (Value.int .i64))) :
    ∃ A c, v = .slice A ys.length c ∧ Slc 1 RInt W A c ys := by
  rcases h.2 with ⟨rfl, hn⟩ | ⟨g, cap, cur, rfl, hb, hh, hnc, hm, _, _⟩
  · have : ys = [] := List.eq_nil_of_length_eq_zero hn
    subst this
    exact ⟨none, 0, rfl, Sl.nil, by simp, by omega⟩
  · refine ⟨some ⟨g, 0, none⟩, cap, rfl, ⟨fun _ => ⟨g, 0, rfl, (Array.getElem?_eq_some_iff.1 hh).1, fun i x hx => ?_⟩, by simpa using hnc, by simp only [maxLen] at hm; omega⟩⟩
    have hc := h.cells (g := g) rfl i (.int .i64 x) (by rw [List.getElem?_map, hx]; rfl)
    rw [add0] at hc
    simpa [RInt] using hc
theorem infoInt : (Tryz.prog.info? 3).map (fun i => (i.zero, i.size, i.bytes)) = some (some (.int .i64 0), 1, 8) := by kernel_rfl
set_option maxHeartbeats 1000000 in
theorem regions_any (ts : List Ty) (ls : List Lc) (l : Int) (ps : List Pj) (A B C : Option Addr) (c d e : Nat) (w : World) (hts : Slc 5 RTy w A c ts) (hls : Slc 2 RLc w B d ls) (hps : Slc 2 RPj w C e ps) (hok : Okay ts ls) :
    Calls Tryz.prog 213 #[.slice A ts.length c, .slice B ls.length d, .agg #[.int .i64 l, .slice C ps.length e]] w fun e' w' => ∃ A' c', e' = .returned (.slice A' (refsOf ts ls l ps).1.length c') ∧ Slc 1 RInt w' A' c' ((refsOf ts ls l ps).1.map (·.reg)) ∧ Below w.heap.size w w' := by
  have hR := Lib.hid (refs_any ts ls l ps A B C c d e (w.alloc (.cells #[.int .i64 l, .slice C ps.length e] 55)) (hts.keep RTy.keeps ((Below.refl _ _).alloc (Nat.le_refl _) _)) (hls.keep RLc.keeps ((Below.refl _ _).alloc (Nat.le_refl _) _)) (hps.keep RPj.keeps ((Below.refl _ _).alloc (Nat.le_refl _) _)) hok)
  have hlen := Lib.hid (refsOf_len ts ls l ps)
  clear hts hls hps hok
  generalize refsOf ts ls l ps = q at hR hlen ⊢
  obtain ⟨us, ok⟩ := q
  go_enter Tryz.func213, Tryz.ntmps213
  go_wp2_with (go_at_call 210; refine hR.out.mono ?_; rintro e' w1 ⟨A', c', rfl, hs', hb⟩)
  obtain ⟨i0, hi, hz0, hz1, hz2⟩ := info_parts infoInt
  have hbw : Below w.heap.size w w1 := ((Below.refl _ _).alloc (Nat.le_refl _) _).trans (hb.mono (by simp))
  have hlen := Lib.hid (show us.length ≤ 33 from hlen.out)
  clear hR hb
  have hle := hs'.le
  have hbig := hs'.big
  go_loopw [7, 21] (fun v i wr => ∃ k : Nat, k ≤ us.length ∧ i = .int .i64 k ∧ wr.ownsRow w1.heap.size 3 1 v k ((us.map (fun t => Value.int .i64 t.reg)).take k) ∧ Below w1.heap.size w1 wr) (fun _ i _ => us.length - (intOf i).toNat)
  case atStart => exact ⟨0, by omega, rfl, World.ownsRow_nil _ _ _ _, Below.refl _ _⟩
  case round =>
    obtain ⟨k, hk, rfl, hown, hB⟩ := hrel
    by_cases hlt : k < us.length
    · have hL := hlen.out
      obtain ⟨bT, oT, rfl, hbT, hrT⟩ := hs'.sl.at_ hlt
      obtain ⟨r1, r2, r3, r4, A2, c2, r5, r6, r7, r8⟩ := RTy.keeps _ _ _ w1.heap.size _ _ _ (Nat.le_refl _) hbT hB hrT
      have htk : Hid ((us.map (fun t => Value.int .i64 t.reg)).take (k + 1) = (us.map (fun t => Value.int .i64 t.reg)).take k ++ [.int .i64 us[k].reg]) := Lib.hid (by
        rw [List.take_succ_eq_append_getElem (by simpa using hlt)]
        simp)
      generalize us[k] = tt at *
      clear hrT r8
      have hown2 := (hown.alloc (.cells #[.int .i64 tt.kind, .bool tt.mu, .int .i64 tt.reg, .int .i64 tt.elem, .slice A2 tt.flds.length c2] 83)).alloc (.cells #[.int .i64 tt.reg] 3)
      have hsz := hB.size
      go_wp2_with (at_builtin; refine wpList_append_own _ rfl _ _ 51 rfl w1.heap.size 3 i0 (.int .i64 0) 1 8 Tryz.underlying51 hi hz0 hz1 hz2 rfl (by decide) _ _ _ rfl hown2 ⟨wr.heap.size + 1, 0, none⟩ 1 1 [.int .i64 tt.reg] rfl rfl ?c1 ?c2 ?c3 ?c4 ?c5 ?_)
      try (case c1 =>
        intro j u hj
        match j, hj with
        | 0, hj =>
          simp at hj; subst hj
          rw [add0]
          go_simp)
      case c2 => first | rfl | (intro u hu; simp at hu; subst hu; rfl)
      case c3 => unfold maxLen; omega
      case c4 => omega
      case c5 => simp; omega
      intro v' w2 hown' hgrow _
      have hown3 : w2.ownsRow w1.heap.size 3 1 v' (k + 1) ((us.map (fun t => Value.int .i64 t.reg)).take (k + 1)) := by rw [htk.out]; exact hown'
      have hB2 : Below w1.heap.size w1 w2 := by
        have hx : Below w1.heap.size w1 ((wr.alloc (.cells #[.int .i64 tt.kind, .bool tt.mu, .int .i64 tt.reg, .int .i64 tt.elem, .slice A2 tt.flds.length c2] 83)).alloc (.cells #[.int .i64 tt.reg] 3)) := (hB.alloc hsz _).alloc (by simp; omega) _
        exact hx.grown hgrow (by simp; omega) (fun g hg => (hown2.lt g hg).1)
      clear hown' hgrow hown hown2 hB r1 r2 r3 r4 r5
      go_wp2
      go_roundw
      case rel => exact ⟨k + 1, by omega, by simp, hown3, hB2⟩
      case measure => simp [intOf]; omega
    · have hlt2 : ¬ ((k : Int) < (us.length : Int)) := by omega
      have hke : k = us.length := by omega
      subst hke
      have hown2 : wr.ownsRow w1.heap.size 3 1 u7 (us.map (·.reg)).length ((us.map (·.reg)).map (Value.int .i64)) := by
        have h := hown
        rw [List.take_of_length_le (by simp)] at h
        rwa [List.length_map, List.map_map]
      obtain ⟨A2, c2, rfl, hsl⟩ := slc_of_ints hown2
      rw [List.length_map] at *
      have hsl2 := Lib.hid hsl
      clear hown hown2 hsl
      go_wp2
      go_ret
      exact ⟨A2, c2, rfl, hsl2.out, hbw.trans (hB.mono hbw.size)⟩
end Go.Proofs.YtbnljlpefpllcaaGreatDoor
namespace Go.Proofs.YtbnljlpefpllcaaGreatDoor
open Go Go.RowKit
theorem infoU8 : (Tryz.prog.info? 5).map (fun i => (i.zero, i.size, i.bytes)) = some (some (.int .u8 0), 1, 1) := by kernel_rfl
def encB (c : UInt8) : Value := .int .u8 c.toNat
/-- An own row of one cell an element, read. -/
theorem slc_own {α : Type} {enc : α → Value} {R : Rd α} (hR : ∀ (w : World) (B b o : Nat) (x : α), w.cell? ⟨b, o, none⟩ = some (enc x) → R w B b o x) {w : World} {base n : Nat} {e : TypeId} {v : Value} {xs : List α}
    (h : w.ownsRow base e 1 v n (xs.map enc)) (hn : xs.length = n) : ∃ A c, v = .slice A n c ∧ Slc 1 R w A c xs ∧ (∀ a, A = some a → base ≤ a.block ∧ a.block < w.heap.size) := by
  subst hn
  have h0 := h
  rcases h.2 with ⟨rfl, hz⟩ | ⟨g, cap, cur, rfl, hg, hh, hnc, hm, _, _⟩
  · have : xs = [] := List.length_eq_zero_iff.1 (by omega)
    subst this
    exact ⟨none, 0, rfl, ⟨Sl.nil, by simp, by omega⟩, fun a h => by cases h⟩
  · have hgl := (Array.getElem?_eq_some_iff.1 hh).1
    refine ⟨some ⟨g, 0, none⟩, cap, rfl, ⟨fun _ => ⟨g, 0, rfl, hgl, fun i x hx => ?_⟩, by simpa using hnc, by simp only [maxLen] at hm; omega⟩, fun a ha => ?_⟩
    · have hc := h0.cells (g := g) rfl i (enc x) (by rw [List.getElem?_map, hx]; rfl)
      rw [add0] at hc
      exact hR w _ g _ x (by simpa using hc)
    · injection ha with ha
      subst ha
      exact ⟨hg, hgl⟩
set_option maxRecDepth 100000 in
set_option maxHeartbeats 4000000 in
theorem pclone_any (l : List UInt8) (A : Option Addr) (c : Nat) (w : World) (hs : Slc 1 RB w A c l) (hl : l.length ≤ 1000000) :
    Calls Tryz.prog 85 #[.slice A l.length c] w fun e' w' => ∃ A' c', e' = .returned (.slice A' l.length c') ∧ Slc 1 RB w' A' c' l ∧ (∀ a, A' = some a → w.heap.size ≤ a.block ∧ a.block < w'.heap.size) ∧ Below w.heap.size w w' := by
  obtain ⟨i0, hi, hz0, hz1, hz2⟩ := info_parts infoU8
  have q22 : ∀ (w : World) (a : Option Addr) (n c n' c' : Nat), (binOp .eql 34 (.slice a n c) (.slice none n' c')).run Tryz.prog w = .ok (.bool a.isNone) w := fun w a n c n' c' => Lib.run_eql_slice_nil w _ _ a n c n' c' Tryz.underlying34
  cases A with
  | none =>
    have h0 : l.length = 0 := by
      rcases Nat.eq_zero_or_pos l.length with h | h
      · exact h
      · obtain ⟨b, o, he, _⟩ := hs.sl h
        cases he
    have : l = [] := List.length_eq_zero_iff.1 h0
    subst this
    clear hs
    go_enter Tryz.func85, Tryz.ntmps85
    go_wp2
    go_ret
    exact ⟨none, 0, rfl, ⟨Sl.nil, by simp, by omega⟩, (fun a h => by cases h), Below.refl _ _⟩
  | some a =>
    have HS := Lib.hid hs
    have hle := hs.le
    have hbg := hs.big
    have HA : Hid (∀ (j : Nat) (u : Value), (l.map encB)[j]? = some u → (w.alloc (.cells #[] 5)).cell? (a.add j) = some u) := Lib.hid (fun j u hj => by
      have hjl : j < l.length := by
        have := (List.getElem?_eq_some_iff.1 hj).1
        simpa using this
      obtain ⟨b, o, he, hb, hx⟩ := hs.sl (by omega)
      injection he with he
      subst he
      rw [Addr.add_lit]
      refine cell_keep ((Below.refl _ _).alloc (Nat.le_refl _) _) ?_
      have := hx j l[j] (List.getElem?_eq_getElem hjl)
      rw [List.getElem?_map, List.getElem?_eq_getElem hjl] at hj
      injection hj with hj
      subst hj
      simpa [RB, encB] using this)
    clear hs
    go_enter Tryz.func85, Tryz.ntmps85
    go_wp2_with (at_builtin; refine wpList_append_own _ rfl _ _ 34 rfl w.heap.size 5 i0 (.int .u8 0) 1 1 Tryz.underlying34 hi hz0 hz1 hz2 rfl (by decide) _ _ _ rfl (World.ownsRow_made w #[] 0 (Nat.le_refl _) (Nat.zero_le _) rfl) a l.length c (l.map encB) rfl ?qc1 ?qc2 ?qc3 ?qc4 ?qc5 ?qc6 ?_)
    case qc1 => simp
    case qc2 => exact HA.out
    case qc3 => intro u hu; obtain ⟨x, _, rfl⟩ := List.mem_map.1 hu; rfl
    case qc4 => unfold maxLen; omega
    case qc5 => omega
    case qc6 => simp
    intro v' w1 hown hgrow hnil
    have hown2 : w1.ownsRow w.heap.size 5 1 v' l.length (l.map encB) := by simpa using hown
    obtain ⟨A', c', rfl, hs', hb'⟩ := slc_own (R := RB) (fun w B b o x h => h) hown2 rfl
    have HS' := Lib.hid hs'
    have HB' := Lib.hid hb'
    have HBel : Hid (Below w.heap.size w w1) := Lib.hid (((Below.refl _ w).alloc (Nat.le_refl _) _).grown hgrow (by simp) (by intro k hk; simp [Value.ownBlock] at hk; omega))
    clear hown hown2 hgrow hs' hb' hnil
    go_wp2
    go_ret
    exact ⟨A', c', rfl, HS'.out, HB'.out, HBel.out⟩
/-- The program's reader at block g. -/
def PRd (w : World) (g : Nat) (s : Rs) : Prop := ∃ (all : List UInt8) (A : Option Addr) (c k : Nat), w.heap[g]? = some (.cells #[.slice A all.length c, .int .i64 k, .int .i64 s.err] 153) ∧ Slc 1 RB w A c all ∧
  (∀ a, A = some a → a.block < g) ∧ k ≤ all.length ∧ all.length ≤ 1000000 ∧ (s.err = 0 → s.rest = all.drop k)
theorem PRd.keep {w w' : World} {g : Nat} {s : Rs} (h : PRd w g s) (hb : Below w.heap.size w w') : PRd w' g s := by
  obtain ⟨all, A, c, k, hg, hs, hne, hk⟩ := h
  exact ⟨all, A, c, k, (hb.block g (Array.getElem?_eq_some_iff.1 hg).1).trans hg, hs.keep RB.keeps hb, hne, hk⟩
/-- What is written beyond the reader's block does not touch it. -/
theorem slc_low {w w' : World} {A : Option Addr} {c g : Nat} {l : List UInt8} (h : Slc 1 RB w A c l) (hA : ∀ a, A = some a → 0 < l.length → a.block < g) (hsz : w.heap.size ≤ w'.heap.size) (hb : ∀ k, k < g → w'.heap[k]? = w.heap[k]?) : Slc 1 RB w' A c l := by
  refine ⟨fun hp => ?_, h.le, h.big⟩
  obtain ⟨b, o, rfl, hlt, hx⟩ := h.sl hp
  refine ⟨b, o, rfl, Nat.lt_of_lt_of_le hlt hsz, fun i x hi => ?_⟩
  have := hx i x hi
  exact (World.cell?_of_block (hb b (hA _ rfl hp))).trans this
theorem PRd.low {w w' : World} {g : Nat} {s : Rs} (h : PRd w g s) (hsz : w.heap.size ≤ w'.heap.size) (hb : ∀ k, k ≤ g → w'.heap[k]? = w.heap[k]?) : PRd w' g s := by
  obtain ⟨all, A, c, k, hg, hs, hne, hk⟩ := h
  exact ⟨all, A, c, k, (hb g (Nat.le_refl _)).trans hg, slc_low hs (fun a h _ => hne a h) hsz (fun k hk => hb k (by omega)), hne, hk⟩
theorem RRd.low {w w' : World} {g : Nat} {s : Rs} (h : RRd w g s) (hsz : w.heap.size ≤ w'.heap.size) (hb : ∀ k, k ≤ g → w'.heap[k]? = w.heap[k]?) : RRd w' g s := by
  obtain ⟨A, c, hg, hs, hne⟩ := h
  exact ⟨A, c, (hb g (Nat.le_refl _)).trans hg, slc_low hs hne hsz (fun k hk => hb k (by omega)), hne⟩
theorem PRd.err {w : World} {g : Nat} {s : Rs} (h : PRd w g s) : w.cell? ⟨g, 2, none⟩ = some (.int .i64 s.err) := by
  obtain ⟨all, A, c, k, hg, _⟩ := h
  simp [World.cell?, hg]
theorem PRd.lt {w : World} {g : Nat} {s : Rs} (h : PRd w g s) : g < w.heap.size := by
  obtain ⟨all, A, c, k, hg, _⟩ := h
  exact (Array.getElem?_eq_some_iff.1 hg).1
set_option maxRecDepth 100000 in
set_option maxHeartbeats 4000000 in
theorem pnew_any (l : List UInt8) (A : Option Addr) (c : Nat) (w : World) (hs : Slc 1 RB w A c l) (hl : l.length ≤ 1000000) :
    Calls Tryz.prog 41 #[.slice A l.length c] w fun e' w' => ∃ g, e' = .returned (.pointer (some ⟨g, 0, none⟩)) ∧ w.heap.size ≤ g ∧ PRd w' g ⟨l, 0⟩ ∧ Below w.heap.size w w' := by
  have HC := Lib.hid (pclone_any l A c w hs hl)
  clear hs
  go_enter Tryz.func41, Tryz.ntmps41
  go_wp2_with (go_at_call 85; refine HC.out.mono ?_; rintro e' w1 ⟨A', c', rfl, hs1, hb1, hbel⟩; have HS1 := Lib.hid hs1; have HB1 := Lib.hid hb1; have HBel := Lib.hid hbel; clear hs1 hb1 hbel)
  go_ret
  refine ⟨w1.heap.size, rfl, HBel.out.size, ⟨l, A', c', 0, heap_alloc_new _ _, HS1.out.keep RB.keeps ((Below.refl _ _).alloc (Nat.le_refl _) _), fun a ha => ?_, by omega, hl, fun _ => rfl⟩, HBel.out.alloc HBel.out.size _⟩
  exact (HB1.out a ha).2
end Go.Proofs.YtbnljlpefpllcaaGreatDoor
namespace Go.Proofs.YtbnljlpefpllcaaGreatDoor
open Go Go.RowKit
attribute [local go_sem] Oper.semAt_some
def encG (x : Nat × UInt8) : Array Value := #[.int .i64 x.1, .int .u8 x.2.toNat]
theorem groups_any (A : Option Addr) (n c : Nat) (w : World) :
    Calls Tryz.prog 188 #[.slice A n c] w fun e' w' => e' = .returned (.func (.func 221) #[] #[.pointer (some ⟨w.heap.size, 0, none⟩)]) ∧ w' = w.alloc (.cells #[.slice A n c] 34) := by
  go_enter Tryz.func188, Tryz.ntmps188
  go_wp2
  go_ret
  exact ⟨rfl, rfl⟩
set_option maxRecDepth 100000 in
set_option maxHeartbeats 4000000 in
theorem grp_seq (n : Nat) (hn : 1 ≤ n) (l : List UInt8) (A : Option Addr) (c bb : Nat) (w0 w : World) (hw : Below w0.heap.size w0 w) (h1 : w.cell? ⟨bb, 0, none⟩ = some (.slice A l.length c)) (hs : Slc 1 RB w0 A c l) :
    SeqL Fence.wide n Tryz.prog 221 #[.pointer (some ⟨bb, 0, none⟩)] encG (fun _ => false) (fun k => k < w0.heap.size) (grpL 0 l) w := by
  intro lp J Jx W hW hJ hJx hY h0
  have q1 := cell_keep hW h1
  have hle := hs.le
  have hbg := hs.big
  have HS := Lib.hid hs
  have HB : Hid (Below w0.heap.size w0 W) := Lib.hid (hw.trans (hW.mono hw.size))
  obtain ⟨L, hL⟩ : ∃ L, grpL 0 l = L := ⟨_, rfl⟩
  rw [hL] at hY ⊢
  have HL := Lib.hid hL
  clear hs hL h1
  (refine callsIn_of_wp Tryz.func221 rfl trivial ?_ rfl; simp only [Tryz.ntmps221, List.size_toArray, List.length_cons, List.length_nil, Nat.reduceAdd, Nat.reduceSub, Array.replicate_succ, Array.replicate_zero, List.push_toArray, List.append_toArray, List.nil_append, List.cons_append])
  gi_wp2
  gi_loopw [7] (fun v wr => ∃ (k : Nat) (pre : List (Nat × UInt8)), k ≤ l.length ∧ v = .int .i64 k ∧ Below w0.heap.size w0 wr ∧ J pre wr ∧ W.heap.size ≤ wr.heap.size ∧ Hid (L = pre ++ grpL k (l.drop k))) (fun v _ => l.length + 1 - (intOf v).toNat)
  case atStart => exact ⟨0, [], by omega, rfl, HB.out, h0, Nat.le_refl _, Lib.hid HL.out.symm⟩
  case round =>
    obtain ⟨k, pre, hk, rfl, hB, hJp, hsz, hA⟩ := hrel
    by_cases hlt : k < l.length
    · have hd : l.drop k = l[k] :: l.drop (k + 1) := List.drop_eq_getElem_cons hlt
      obtain ⟨b, o, rfl, hb', x0⟩ := HS.out.sl.at_ hlt
      have x1 := RB.keeps _ _ _ w0.heap.size _ _ _ (Nat.le_refl _) hb' hB x0
      generalize l[k] = c0 at *
      have x0' : wr.cell? ⟨b, o + k, none⟩ = some (.int .u8 c0.toNat) := by simpa [RB] using x1
      rw [hd, grpL_cons] at hA
      obtain ⟨fn, tmps, assign, body, hy, hR⟩ := hY pre ⟨k, c0⟩ _ wr hA.out hJp
      rw [show encG ⟨k, c0⟩ = #[.int .i64 (k : Int), .int .u8 (c0.toNat : Int)] from rfl] at hy
      clear x0 x1 hd
      gi_wp2
      refine hR.mono ?_
      clear hy hR x0'
      rintro e W3 (⟨rfl, hJ3, hk3⟩ | ⟨rfl, hJx3⟩)
      · have hB3 := hB.trans (hk3.below (n₀ := w0.heap.size) (fun k hk => hk) hB.size)
        have hs3 := hk3.size
        have HB3 := Lib.hid hB3
        clear hB hk3 hJp h0 hB3
        by_cases hc : c0.toNat < 128
        · rw [if_pos hc] at hA
          have hc' : (c0.toNat : Int) < 128 := by omega
          gi_wp2
          refine bodyPost_ret (results_none rfl _ _ _) rfl ?_
          exact ⟨⟨_, rfl⟩, .inl (by rw [hA.out]; exact hJ3)⟩
        · rw [if_neg hc] at hA
          have hc' : ¬ (c0.toNat : Int) < 128 := by omega
          gi_wp2
          go_roundw
          case rel => exact ⟨k + 1, pre ++ [⟨k, c0⟩], by omega, by go_num, HB3.out, hJ3, by omega, Lib.hid (by rw [hA.out, List.append_assoc]; rfl)⟩
          case measure => simp [intOf]; omega
      · gi_wp2
        refine bodyPost_ret (results_none rfl _ _ _) rfl ?_
        exact ⟨⟨_, rfl⟩, .inr ⟨pre, _, _, hA.out, hJx3⟩⟩
    · have hke : k = l.length := by omega
      have hrest : Hid (L = pre) := Lib.hid (by rw [hA.out, hke, List.drop_length]; simp [grpL])
      clear hA
      gi_wp2
      go_end0
      exact ⟨⟨_, rfl⟩, .inl (by rw [hrest.out]; exact hJp)⟩
end Go.Proofs.YtbnljlpefpllcaaGreatDoor
namespace Go.Proofs.YtbnljlpefpllcaaGreatDoor
open Go Go.RowKit
section
variable {P : Program} {ops : Array Oper} {Q : Exit → Act → World → Prop} {S : World → Prop}
/-- The first k of n have come up. -/
def lst (n k : Nat) : Array Bool := ((List.replicate k true) ++ (List.replicate (n - k) false)).toArray
theorem lst_next {n k : Nat} (h : k < n) : (lst n k).setIfInBounds k true = lst n (k + 1) := by
  unfold lst
  rw [show n - k = (n - (k + 1)) + 1 by omega, List.replicate_succ]
  simp only [List.setIfInBounds_toArray, List.replicate_succ']
  congr 1
  rw [List.set_append_right _ _ (by simp)]
  simp
def wpK (P : Program) (ops : Array Oper) (Q : Exit → Act → World → Prop) (S : World → Prop) (k : Nat) (a : Act) (w : World) : Prop :=
  wpAnyM P .any ops Q S ops.size (ops.size - k) (lst ops.size k) a w
def okK (ops : Array Oper) (k : Nat) : Bool :=
  decide (k < ops.size) && Region.noSelect ops && Region.free .any ops (lst ops.size k) k && lateB .any ops ops.size (lst ops.size k) k && (Region.ready .any ops (lst ops.size k)).contains k
theorem wpK_take {k : Nat} {v : Value} {a : Act} {w : World} (hok : okK ops k = true) (hQ : ∀ c a w, Q (.panic c) (a.put ((ops[k]?).getD default).dst v) w → Q (.panic c) a w)
    (hy : YieldsIf P ops S ((ops[k]?).getD default) v a) (hS : S w) (h : wpK P ops Q S (k + 1) (a.put ((ops[k]?).getD default).dst v) w) : wpK P ops Q S k a w := by
  simp only [okK, Bool.and_eq_true, decide_eq_true_eq] at hok
  obtain ⟨⟨⟨⟨hk, h1⟩, h2⟩, h3⟩, h4⟩ := hok
  have ho : ops[k]? = some ((ops[k]?).getD default) := by rw [Array.getElem?_eq_getElem hk]; rfl
  unfold wpK at h ⊢
  rw [show ops.size - k = (ops.size - (k + 1)) + 1 by omega]
  refine wpAnyM_take ho h1 h2 h3 h4 hQ hy hS ?_
  rw [lst_next hk]
  exact h
/-- The one operation that may come up is carried out. -/
def oneK (ops : Array Oper) (k : Nat) : Bool := decide (k < ops.size) && decide (Region.ready .any ops (lst ops.size k) = [k])
theorem wpK_one {k : Nat} {a : Act} {w : World} (hok : oneK ops k = true)
    (h : ∀ K' : Act → World → Prop, Shut (∀ a w, (k < ops.size → S w) → wpK P ops Q S (k + 1) a w → K' a w) → if Region.wanted ((ops[k]?).getD default) (yielded ops a.tmps) = true then Oper.wp P ((ops[k]?).getD default) a w K' Q else K' (a.put ((ops[k]?).getD default).dst undef) w) :
    wpK P ops Q S k a w := by
  simp only [oneK, Bool.and_eq_true, decide_eq_true_eq] at hok
  obtain ⟨hk, h1⟩ := hok
  have ho : ops[k]? = some ((ops[k]?).getD default) := by rw [Array.getElem?_eq_getElem hk]; rfl
  unfold wpK
  rw [show ops.size - k = (ops.size - (k + 1)) + 1 by omega]
  refine wpAnyM_one h1 ho (fun K' hK => h K' (fun a w hs hw => hK a w hs ?_))
  rw [lst_next hk]
  exact hw
theorem wpK_done {a : Act} {w : World} {k : Nat} (hk : ops.size = k) (h : Q .normal a w) : wpK P ops Q S k a w := by
  unfold wpK
  refine wpAnyM_done ?_ h _
  subst hk
  unfold Region.ready
  rw [List.filter_eq_nil_iff]
  intro i hi
  have hlt : i < ops.size := by simpa using hi
  simp [lst, hlt]
theorem wp_region_k {id : Nat} {a : Act} {w : World} (hm : P.follows .mixedOrders = true) (h : wpK P ops Q S 0 a w.drew) : (Code.region id ops true).wp P Q a w := by
  refine wp_region_m (S := S) (t := ops.size) hm ?_
  have : Array.replicate ops.size false = lst ops.size 0 := by simp [lst]
  rw [this]
  exact h
theorem wpInR_k {id : Nat} {a : Act} {w : World} {r m : Nat} (hm : P.follows .mixedOrders = true) (hnd : noDefer ops = true) (hout : ¬ LetsOut Q) (h : wpK P ops Q S 0 a w.drew) :
    (Code.region id ops true).wpIn (Fence.wide.inRound r) m P Q a w := by
  refine wpInR_m (S := S) (t := ops.size) hm hnd hout ?_
  have : Array.replicate ops.size false = lst ops.size 0 := by simp [lst]
  rw [this]
  exact h
/-- The first k of the list ord have come up. -/
def lstO (n : Nat) (ord : List Nat) (k : Nat) : Array Bool := ((List.range n).map (fun i => (ord.take k).contains i)).toArray
theorem lstO_next {n k : Nat} {ord : List Nat} (hk : k < ord.length) : (lstO n ord k).setIfInBounds (ord.getD k 0) true = lstO n ord (k + 1) := by
  have hg : ord.getD k 0 = ord[k] := by simp [hk]
  rw [hg]
  apply Array.ext
  · simp [lstO]
  · intro i h1 h2
    have hi : i < n := by simpa [lstO] using h1
    have ht : ord.take (k + 1) = ord.take k ++ [ord[k]] := List.take_succ_eq_append_getElem hk
    rw [Array.getElem_setIfInBounds (by simpa [lstO] using hi)]
    simp only [lstO, List.getElem_toArray, List.getElem_map, List.getElem_range, ht]
    by_cases he : ord[k] = i
    · simp [he]
    · rw [if_neg he]
      rw [Bool.eq_iff_iff]
      simp only [List.contains_iff_mem, List.mem_append, List.mem_singleton]
      exact ⟨fun h => .inl h, fun h => h.resolve_right (fun e => he e.symm)⟩
def wpO (P : Program) (ops : Array Oper) (Q : Exit → Act → World → Prop) (S : World → Prop) (t : Nat) (ord : List Nat) (k : Nat) (a : Act) (w : World) : Prop :=
  wpAnyM P .any ops Q S t (ops.size - k) (lstO ops.size ord k) a w
def okO (ops : Array Oper) (t : Nat) (ord : List Nat) (k : Nat) : Bool :=
  decide (k < ord.length) && decide (k < ops.size) && decide (ord.getD k 0 < ops.size) && Region.noSelect ops && Region.free .any ops (lstO ops.size ord k) (ord.getD k 0) && lateB .any ops t (lstO ops.size ord k) (ord.getD k 0) && (Region.ready .any ops (lstO ops.size ord k)).contains (ord.getD k 0)
theorem wpO_take {t : Nat} {ord : List Nat} {k : Nat} {v : Value} {a : Act} {w : World} (hok : okO ops t ord k = true) (hQ : ∀ c a w, Q (.panic c) (a.put ((ops[ord.getD k 0]?).getD default).dst v) w → Q (.panic c) a w)
    (hy : YieldsIf P ops S ((ops[ord.getD k 0]?).getD default) v a) (hS : S w) (h : wpO P ops Q S t ord (k + 1) (a.put ((ops[ord.getD k 0]?).getD default).dst v) w) : wpO P ops Q S t ord k a w := by
  simp only [okO, Bool.and_eq_true, decide_eq_true_eq] at hok
  obtain ⟨⟨⟨⟨⟨⟨h0, hk0⟩, hk⟩, h1⟩, h2⟩, h3⟩, h4⟩ := hok
  have ho : ops[ord.getD k 0]? = some ((ops[ord.getD k 0]?).getD default) := by rw [Array.getElem?_eq_getElem hk]; rfl
  unfold wpO at h ⊢
  rw [show ops.size - k = (ops.size - (k + 1)) + 1 by omega]
  refine wpAnyM_take ho h1 h2 h3 h4 hQ hy hS ?_
  rw [lstO_next h0]
  exact h
def oneO (ops : Array Oper) (ord : List Nat) (k : Nat) : Bool := decide (k < ord.length) && decide (k < ops.size) && decide (ord.getD k 0 < ops.size) && decide (Region.ready .any ops (lstO ops.size ord k) = [ord.getD k 0])
theorem wpO_one {t : Nat} {ord : List Nat} {k : Nat} {a : Act} {w : World} (hok : oneO ops ord k = true)
    (h : ∀ K' : Act → World → Prop, Shut (∀ a w, (ord.getD k 0 < t → S w) → wpO P ops Q S t ord (k + 1) a w → K' a w) → if Region.wanted ((ops[ord.getD k 0]?).getD default) (yielded ops a.tmps) = true then Oper.wp P ((ops[ord.getD k 0]?).getD default) a w K' Q else K' (a.put ((ops[ord.getD k 0]?).getD default).dst undef) w) :
    wpO P ops Q S t ord k a w := by
  simp only [oneO, Bool.and_eq_true, decide_eq_true_eq] at hok
  obtain ⟨⟨⟨h0, hk0⟩, hk⟩, h1⟩ := hok
  have ho : ops[ord.getD k 0]? = some ((ops[ord.getD k 0]?).getD default) := by rw [Array.getElem?_eq_getElem hk]; rfl
  unfold wpO
  rw [show ops.size - k = (ops.size - (k + 1)) + 1 by omega]
  refine wpAnyM_one h1 ho (fun K' hK => h K' (fun a w hs hw => hK a w hs ?_))
  rw [lstO_next h0]
  exact hw
theorem wpO_done {t : Nat} {ord : List Nat} {a : Act} {w : World} {k : Nat} (hk : decide (Region.ready .any ops (lstO ops.size ord k) = []) = true) (h : Q .normal a w) : wpO P ops Q S t ord k a w :=
  wpAnyM_done (by simpa using hk) h _
theorem wp_region_ot {id : Nat} {a : Act} {w : World} (t : Nat) (ord : List Nat) (hm : P.follows .mixedOrders = true) (h : wpO P ops Q S t ord 0 a w.drew) : (Code.region id ops true).wp P Q a w := by
  refine wp_region_m (S := S) (t := t) hm ?_
  have : Array.replicate ops.size false = lstO ops.size ord 0 := by
    apply Array.ext
    · simp [lstO]
    · intro i h1 h2
      simp [lstO]
  rw [this]
  exact h
theorem wp_region_o {id : Nat} {a : Act} {w : World} (ord : List Nat) (hm : P.follows .mixedOrders = true) (h : wpO P ops Q S ops.size ord 0 a w.drew) : (Code.region id ops true).wp P Q a w := wp_region_ot ops.size ord hm h
end
end Go.Proofs.YtbnljlpefpllcaaGreatDoor
namespace Go.Proofs.YtbnljlpefpllcaaGreatDoor
open Go Go.RowKit
theorem RRd.rest {w : World} {g : Nat} {s : Rs} (h : RRd w g s) : ∃ A c, w.cell? ⟨g, 0, none⟩ = some (.slice A s.rest.length c) ∧ s.rest.length ≤ c ∧ c ≤ 9223372036854775807 := by
  obtain ⟨A, c, hg, hs, _⟩ := h
  exact ⟨A, c, by simp [World.cell?, hg], hs.le, hs.big⟩
theorem number_lt (s : Rs) : (numberS s).1 < 2 ^ 64 := by
  unfold numberS
  split
  · split
    · rename_i h
      exact (getG_ok s.rest 0 0 (by omega) (by omega) h).2.2.2
    · simp
  · simp
theorem count_number (most : Nat) (s : Rs) : countS most s = if (numberS s).2.err = 0 then (if most < (numberS s).1 then (0, ⟨[], 15⟩) else if (numberS s).2.rest.length < (numberS s).1 then (0, ⟨[], 4⟩) else numberS s) else (0, (numberS s).2) := by
  unfold countS numberS
  by_cases h : s.err = 0
  · rw [if_pos h, if_pos h]
    by_cases h2 : (getL s.rest).2.2 = 0
    · rw [if_pos h2, if_pos h2, if_pos rfl]
    · rw [if_neg h2, if_neg h2, if_neg (by simp only; exact h2)]
  · rw [if_neg h, if_neg h, if_neg h]
set_option maxRecDepth 100000 in
set_option maxHeartbeats 4000000 in
theorem rcount_any (g : Nat) (s : Rs) (w : World) (hr : RRd w g s) (hl : s.rest.length ≤ 1000000) :
    Calls Tryz.prog 53 #[.pointer (some ⟨g, 0, none⟩), .int .i64 65535] w fun e' w' => e' = .returned (.int .i64 (countS 65535 s).1) ∧ RRd w' g (countS 65535 s).2 ∧ But g w w' := by
  have HN := Lib.hid (rnumber_any g s w hr hl)
  have hlt := number_lt s
  rw [count_number]
  generalize numberS s = N at *
  obtain ⟨n, s1⟩ := N
  obtain ⟨l1, er⟩ := s1
  simp only at HN hlt ⊢
  clear hr
  by_cases he : er = 0
  case neg =>
    rw [if_neg he]
    have e1 : (er == 0) = false := by simp [he]
    have e2 : (er != 0) = true := by simp [he]
    go_enter Tryz.func53, Tryz.ntmps53
    go_wp2_with (go_at_call 96; refine HN.out.mono ?_; rintro e' w1 ⟨rfl, hr1, hb1⟩; have x1 := hr1.err; have HR1 := Lib.hid hr1; have HB1 := Lib.hid hb1; clear hr1 hb1)
    go_ret
    exact ⟨rfl, HR1.out, HB1.out⟩
  case pos =>
  subst he
  rw [if_pos rfl]
  by_cases h1 : 65535 < n
  · rw [if_pos h1]
    have c1 : (65535 : Int) < (n : Int) := by omega
    go_enter Tryz.func53, Tryz.ntmps53
    go_wp2_with (go_at_call 96; refine HN.out.mono ?_; rintro e' w1 ⟨rfl, hr1, hb1⟩; have x1 := hr1.err; have HR1 := Lib.hid hr1; have HB1 := Lib.hid hb1; clear hr1 hb1)
    go_at_call 97
    refine (rfail_any g _ 15 w1 HR1.out).mono ?_
    rintro e' w2 ⟨rfl, hr2, hb2⟩
    have HR2 := Lib.hid hr2
    have HB2 := Lib.hid (HB1.out.trans hb2)
    clear hr2 hb2
    go_wp2_with fail
    go_ret
    exact ⟨rfl, HR2.out, HB2.out⟩
  rw [if_neg h1]
  by_cases h2 : l1.length < n
  · rw [if_pos h2]
    have c1 : ¬ (65535 : Int) < (n : Int) := by omega
    have c2 : (l1.length : Int) < (n : Int) := by omega
    go_enter Tryz.func53, Tryz.ntmps53
    go_wp2_with (go_at_call 96; refine HN.out.mono ?_; rintro e' w1 ⟨rfl, hr1, hb1⟩; have x1 := hr1.err; obtain ⟨A1, k1, x0, y1, y2⟩ := hr1.rest; have HR1 := Lib.hid hr1; have HB1 := Lib.hid hb1; clear hr1 hb1)
    go_at_call 97
    refine (rfail_any g _ 4 w1 HR1.out).mono ?_
    rintro e' w2 ⟨rfl, hr2, hb2⟩
    have HR2 := Lib.hid hr2
    have HB2 := Lib.hid (HB1.out.trans hb2)
    clear hr2 hb2
    go_wp2_with fail
    go_ret
    exact ⟨rfl, HR2.out, HB2.out⟩
  · rw [if_neg h2]
    have c1 : ¬ (65535 : Int) < (n : Int) := by omega
    have c2 : ¬ (l1.length : Int) < (n : Int) := by omega
    go_enter Tryz.func53, Tryz.ntmps53
    go_wp2_with (go_at_call 96; refine HN.out.mono ?_; rintro e' w1 ⟨rfl, hr1, hb1⟩; have x1 := hr1.err; obtain ⟨A1, k1, x0, y1, y2⟩ := hr1.rest; have HR1 := Lib.hid hr1; have HB1 := Lib.hid hb1; clear hr1 hb1)
    go_ret
    exact ⟨rfl, HR1.out, HB1.out⟩
end Go.Proofs.YtbnljlpefpllcaaGreatDoor
namespace Go.Proofs.YtbnljlpefpllcaaGreatDoor
open Go Go.RowKit
set_option maxRecDepth 100000 in
set_option maxHeartbeats 4000000 in
theorem rbyte_any (g : Nat) (s : Rs) (w : World) (hr : RRd w g s) (hl : s.rest.length ≤ 1000000) :
    Calls Tryz.prog 98 #[.pointer (some ⟨g, 0, none⟩)] w fun e' w' => e' = .returned (.int .u8 (byteS s).1) ∧ RRd w' g (byteS s).2 ∧ But g w w' := by
  obtain ⟨l, er⟩ := s
  have x1 := hr.err
  have HR := Lib.hid hr
  simp only at hl x1
  by_cases he : er = 0
  case neg =>
    have HN : Hid (byteS ⟨l, er⟩ = (0, ⟨l, er⟩)) := Lib.hid (by unfold byteS; rw [if_neg he])
    clear hr
    have e1 : (er == 0) = false := by simp [he]
    have e2 : (er != 0) = true := by simp [he]
    go_enter Tryz.func98, Tryz.ntmps98
    go_wp2_with fail
    go_ret
    exact ⟨by rw [HN.out]; rfl, by rw [HN.out]; exact HR.out, But.refl _ _⟩
  case pos =>
  subst he
  match l, hl, x1, HR, hr with
  | [], hl, x1, HR, hr =>
    obtain ⟨A, k, x0, y1, y2⟩ := hr.rest
    have x0' : w.cell? ⟨g, 0, none⟩ = some (.slice A 0 k) := x0
    clear hr x0 y1
    go_enter Tryz.func98, Tryz.ntmps98
    go_wp2_with fail
    go_at_call 97
    refine (rfail_any g _ 4 w HR.out).mono ?_
    rintro e' w2 ⟨rfl, hr2, hb2⟩
    have HR2 := Lib.hid hr2
    have HB2 := Lib.hid hb2
    clear hr2 hb2
    go_wp2_with fail
    go_ret
    exact ⟨rfl, HR2.out, HB2.out⟩
  | c0 :: r, hl, x1, HR, hr =>
    obtain ⟨A, k, hg, hs, hd⟩ := hr
    simp only at hg hs
    have x0 : w.cell? ⟨g, 0, none⟩ = some (.slice A (r.length + 1) k) := by simp [World.cell?, hg]
    have z0 : w.frozen? ⟨g, 0, none⟩ = false := by simp [World.frozen?, hg]
    obtain ⟨b, o, rfl, hb, y0⟩ := hs.sl.at_ (i := 0) (by simp)
    have y0' : w.cell? ⟨b, o, none⟩ = some (.int .u8 c0.toNat) := by simpa [RB] using y0
    have hk := hs.le
    have hbig := hs.big
    have HG := Lib.hid hg
    have HS := Lib.hid hs
    have HD := Lib.hid hd
    have hcut := run_cut (P := Tryz.prog) 34 5 (some ⟨b, o, none⟩) (r.length + 1) k 1 1 Tryz.underlying34 Tryz.sizeOf5 (by omega)
    obtain ⟨A', hA⟩ : ∃ A', cutA (some ⟨b, o, none⟩) k 1 1 = A' := ⟨_, rfl⟩
    rw [hA] at hcut
    have HA := Lib.hid hA
    have hcut1 : ∀ W, (Instr.slice 34 (.slice (some ⟨b, o, none⟩) (r.length + 1) k) (some (.int .i64 1)) none none).run Tryz.prog W = .ok (.slice A' r.length (k - 1)) W := fun W => hcut W
    simp only [List.length_cons] at hk hl
    clear hA hg hs hd y0 hcut
    go_enter Tryz.func98, Tryz.ntmps98
    go_wp2_with fail
    go_ret
    have hne : ∀ a, A' = some a → 0 < r.length → a.block < g := fun a ha hp => (by rw [← HA.out] at ha; exact cut_block (fun a h => HD.out a h (by simp)) a ha)
    refine ⟨rfl, ⟨A', k - 1, ?_, slc_set _ (by rw [← HA.out]; exact HS.out.dropN 1 (by simp)) hne, hne⟩, but_set (But.refl _ _) _ _⟩
    exact (prw_put0 _ HG.out).trans rfl
end Go.Proofs.YtbnljlpefpllcaaGreatDoor
namespace Go.Proofs.YtbnljlpefpllcaaGreatDoor
open Go Go.RowKit
set_option maxRecDepth 100000 in
set_option maxHeartbeats 4000000 in
theorem rend_any (g : Nat) (s : Rs) (w : World) (hr : RRd w g s) :
    Calls Tryz.prog 56 #[.pointer (some ⟨g, 0, none⟩)] w fun e' w' => e' = .returned (.int .i64 (endS s)) ∧ w' = w := by
  obtain ⟨l, er⟩ := s
  have x1 := hr.err
  obtain ⟨A, k, x0, y1, y2⟩ := hr.rest
  simp only at x0 x1 y1
  clear hr
  by_cases he : er = 0
  · subst he
    by_cases hl : 0 < l.length
    · have HE : Hid (endS ⟨l, 0⟩ = 11) := Lib.hid (by unfold endS; rw [if_pos rfl, if_pos hl])
      go_enter Tryz.func56, Tryz.ntmps56
      go_wp2_with fail
      go_ret
      exact ⟨by rw [HE.out]; rfl, rfl⟩
    · have HE : Hid (endS ⟨l, 0⟩ = 0) := Lib.hid (by unfold endS; rw [if_pos rfl, if_neg hl])
      have hl0 : l.length = 0 := by omega
      rw [hl0] at x0 y1
      clear hl
      go_enter Tryz.func56, Tryz.ntmps56
      go_wp2_with fail
      go_ret
      exact ⟨by rw [HE.out]; rfl, rfl⟩
  · have HE : Hid (endS ⟨l, er⟩ = er) := Lib.hid (by unfold endS; rw [if_neg he])
    have e1 : (er == 0) = false := by simp [he]
    clear he
    go_enter Tryz.func56, Tryz.ntmps56
    go_wp2_with fail
    go_ret
    exact ⟨by rw [HE.out]; rfl, rfl⟩
end Go.Proofs.YtbnljlpefpllcaaGreatDoor
namespace Go.Proofs.YtbnljlpefpllcaaGreatDoor
open Go Go.RowKit
theorem uint_le (most : Nat) (s : Rs) : (uintS most s).1 ≤ most := by
  unfold uintS
  split
  · split
    · split
      · simp
      · simp only; omega
    · simp
  · simp
set_option maxRecDepth 100000 in
set_option maxHeartbeats 4000000 in
theorem rnum_any (g : Nat) (s : Rs) (w : World) (hr : RRd w g s) (hl : s.rest.length ≤ 1000000) :
    Calls Tryz.prog 54 #[.pointer (some ⟨g, 0, none⟩)] w fun e' w' => e' = .returned (.int .i64 (numS s).1) ∧ RRd w' g (numS s).2 ∧ But g w w' := by
  have HN := Lib.hid (ruint_any g s 65535 w hr hl)
  have hle := uint_le 65535 s
  unfold numS
  generalize uintS 65535 s = N at *
  clear hr
  go_enter Tryz.func54, Tryz.ntmps54
  go_wp2_with (go_at_call 94; refine HN.out.mono ?_; rintro e' w1 ⟨rfl, hr1, hb1⟩; have HR1 := Lib.hid hr1; have HB1 := Lib.hid hb1; clear hr1 hb1)
  go_ret
  exact ⟨rfl, HR1.out, HB1.out⟩
end Go.Proofs.YtbnljlpefpllcaaGreatDoor
namespace Go.Proofs.YtbnljlpefpllcaaGreatDoor
open Go Go.RowKit
theorem but_cell {g b i : Nat} {w w' : World} (h : But g w w') (hb : b < w.heap.size) (hne : b ≠ g) : w'.cell? ⟨b, i, none⟩ = w.cell? ⟨b, i, none⟩ := by
  have := h.block b hb hne
  simp only [World.cell?, this]
/-- A row beside the reader stays. -/
theorem tbl_keep {g c : Nat} {A : Option Addr} {l : List ByteArray} {w w' : World} (hs : Slc 1 RN w A c l) (h : But g w w') (hne : ∀ a, A = some a → a.block ≠ g) : Slc 1 RN w' A c l := by
  refine ⟨fun hp => ?_, hs.le, hs.big⟩
  obtain ⟨b, o, rfl, hb, hr⟩ := hs.sl hp
  refine ⟨b, o, rfl, Nat.lt_of_lt_of_le hb h.size, fun i x hx => ?_⟩
  show w'.cell? ⟨b, o + i * 1, none⟩ = _
  rw [but_cell h hb (hne _ rfl)]
  exact hr i x hx
set_option maxRecDepth 100000 in
set_option maxHeartbeats 4000000 in
theorem rname_any (g : Nat) (s : Rs) (tbl : List ByteArray) (A : Option Addr) (c : Nat) (w : World) (hr : RRd w g s) (hl : s.rest.length ≤ 1000000) (ht : Slc 1 RN w A c tbl) (hne : ∀ a, A = some a → a.block ≠ g) :
    Calls Tryz.prog 52 #[.pointer (some ⟨g, 0, none⟩), .slice A tbl.length c] w fun e' w' => e' = .returned (.string (nameS tbl s).1) ∧ RRd w' g (nameS tbl s).2 ∧ But g w w' := by
  have HN := Lib.hid (ruint_any g s 65535 w hr hl)
  have hle := uint_le 65535 s
  have HT := Lib.hid ht
  have HNE := Lib.hid hne
  have htl := ht.le
  have htb := ht.big
  unfold nameS
  generalize uintS 65535 s = N at *
  obtain ⟨n, l1, er⟩ := N
  simp only at HN hle ⊢
  clear hr ht hne
  by_cases he : er = 0
  case neg =>
    rw [if_neg he]
    have e1 : (er == 0) = false := by simp [he]
    have e2 : (er != 0) = true := by simp [he]
    go_enter Tryz.func52, Tryz.ntmps52
    go_wp2_with (go_at_call 94; refine HN.out.mono ?_; rintro e' w1 ⟨rfl, hr1, hb1⟩; have x1 := hr1.err; have HR1 := Lib.hid hr1; have HB1 := Lib.hid hb1; clear hr1 hb1)
    go_ret
    exact ⟨rfl, HR1.out, HB1.out⟩
  case pos =>
  subst he
  rw [if_pos rfl]
  by_cases hlt : n < tbl.length
  · rw [List.getElem?_eq_getElem hlt]
    obtain ⟨b, o, rfl, hb0, y0⟩ := HT.out.sl.at_ hlt
    go_enter Tryz.func52, Tryz.ntmps52
    clear y0
    go_wp2_with (go_at_call 94; refine HN.out.mono ?_; rintro e' w1 ⟨rfl, hr1, hb1⟩; have x1 := hr1.err; obtain ⟨b', o', hbo, hb', y1⟩ := (tbl_keep HT.out hb1 HNE.out).sl.at_ hlt; obtain ⟨rfl, rfl⟩ : b = b' ∧ o = o' := (by simpa using hbo); have y2 : w1.cell? ⟨b, o + n, none⟩ = some (.string tbl[n]) := (by simpa [RN] using y1); have HR1 := Lib.hid hr1; have HB1 := Lib.hid hb1; clear hr1 hb1 y1 hbo)
    go_ret
    exact ⟨rfl, HR1.out, HB1.out⟩
  · rw [List.getElem?_eq_none (by omega)]
    go_enter Tryz.func52, Tryz.ntmps52
    go_wp2_with (go_at_call 94; refine HN.out.mono ?_; rintro e' w1 ⟨rfl, hr1, hb1⟩; have x1 := hr1.err; have HR1 := Lib.hid hr1; have HB1 := Lib.hid hb1; clear hr1 hb1)
    go_at_call 95
    refine (rFail_any g _ 20 (by omega) w1 HR1.out).mono ?_
    rintro e' w2 ⟨rfl, hr2, hb2⟩
    have x2 := hr2.err
    have HR2 := Lib.hid hr2
    have HB2 := Lib.hid (HB1.out.trans hb2)
    simp only [failS, if_pos] at x2
    clear hr2 hb2
    go_wp2_with fail
    go_ret
    exact ⟨rfl, HR2.out, HB2.out⟩
end Go.Proofs.YtbnljlpefpllcaaGreatDoor
namespace Go.Proofs.YtbnljlpefpllcaaGreatDoor
open Go.RowKit Go.Shelf
theorem walkS_ne (ts : List Ty) (i : Int) (k : Nat) (ps : List Pj) : walkS ts i k ps ≠ [] := by cases ps <;> simp [walkS]
theorem tyOf_ok {ts : List Ty} {ls : List Lc} (hok : Okay ts ls) {l : Int} {ps : List Pj} (h : (tyOf ts ls l ps).2 = 0) : 0 ≤ (tyOf ts ls l ps).1 ∧ (tyOf ts ls l ps).1 < ts.length := by
  have hp := pth_ok hok l ps
  unfold tyOf lastS at *
  cases hg : (pth ts ls l ps).getLast? with
  | none =>
    rw [List.getLast?_eq_none_iff] at hg
    unfold pth at hg
    split at hg
    · cases hg
    · split at hg
      · cases hg
      · exact absurd hg (walkS_ne _ _ _ _)
  | some s =>
    rw [hg] at h
    exact hp s (List.mem_of_getLast? hg) h
end Go.Proofs.YtbnljlpefpllcaaGreatDoor
namespace Go.Proofs.YtbnljlpefpllcaaGreatDoor
open Go.RowKit Go.Shelf
theorem run_take {P : Program} (t e : TypeId) (A : Option Addr) (n c j k : Nat) (ht : P.underlying t = some (.slice e)) (hk : ∀ w, (sizeOf e).run P w = .ok k w) (hj : j ≤ n) (hn : n ≤ c) (w : World) :
    (Instr.slice t (.slice A n c) none (some (.int .i64 (j : Int))) none).run P w = .ok (.slice (cutA A c 0 k) j c) w := by
  have hb := run_sliceBound (P := P) (w := w) .i64 (j : Int) c .sliceAcap (by omega) (by omega)
  simp only [Int.toNat_natCast] at hb
  simp [Instr.slice, run_underlying ht, Instr.sliceBounds, hb, hk, cutA]
end Go.Proofs.YtbnljlpefpllcaaGreatDoor
