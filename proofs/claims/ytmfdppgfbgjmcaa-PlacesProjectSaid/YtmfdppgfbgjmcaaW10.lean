/-
  Walks: references of places, the call.
-/
import Derived.Test.YtmfdppgfbgjmcaaW9
import Derived.Test.YtmfdppgfbgjmcaaAppend
namespace Go.Proofs.Ytmfdppgfbgjmcaa
open Go.RowKit Go.Shelf
attribute [local go_sem] Oper.semAt_some

/-- A block of one cell. -/
theorem blk1 {w : World} {k : Nat} {a : Value} {t : TypeId} (h : w.heap[k]? = some (.cells #[a] t (0, 0))) : w.cell? ⟨k, 0, none⟩ = some a ∧ w.frozen? ⟨k, 0, none⟩ = false :=
  ⟨by rw [cell_of_row w _ 0 _ _ _ h]; rfl, by simp [World.frozen?, h]⟩
/-- Blocks laid one behind the other. -/
def allocs (w : World) (os : List Obj) : World := os.foldl World.alloc w
theorem allocs_old (os : List Obj) : ∀ (w : World) (k : Nat), k < w.heap.size → (allocs w os).heap[k]? = w.heap[k]? := by
  induction os with
  | nil => intro w k _; rfl
  | cons o os ih => intro w k hk; exact (ih (w.alloc o) k (by simp; omega)).trans (Below.heap_alloc w o k hk)
theorem allocs_get (os : List Obj) : ∀ (w : World) (i : Nat), i < os.length → (allocs w os).heap[w.heap.size + i]? = os[i]? := by
  induction os with
  | nil => intro w i h; simp at h
  | cons o os ih =>
    intro w i h
    cases i with
    | zero => exact (allocs_old os (w.alloc o) w.heap.size (by simp)).trans (heap_alloc_new w o)
    | succ i =>
      have := ih (w.alloc o) i (by simpa using h)
      rw [World.size_alloc, Nat.add_assoc, Nat.add_comm 1 i] at this
      exact this
theorem blk1_put {w : World} {k : Nat} {a : Value} {t : TypeId} (x : Value) (h : w.heap[k]? = some (.cells #[a] t (0, 0))) : (w.setCell ⟨k, 0, none⟩ x).heap[k]? = some (.cells #[x] t (0, 0)) := by
  simp [World.setCell, Array.getElem?_modify, h]
theorem set_far {w : World} {k : Nat} {o : Obj} {p : Addr} (u : Value) (h : w.heap[k]? = some o) (hne : k ≠ p.block) : (w.setCell p u).heap[k]? = some o := (Below.heap_setCell w p u k hne).trans h

theorem own_block {A B : World} {base : Nat} {e : TypeId} {size : Nat} {v : Value} {m : Nat} {xs : List Value} (ho : A.ownsRow base e size v m xs) (h : ∀ k, base ≤ k → k < A.heap.size → some k = v.ownBlock → B.heap[k]? = A.heap[k]?) : B.ownsRow base e size v m xs := by
  refine ⟨ho.1, ?_⟩
  have hlt := ho.lt
  rcases ho.2 with hn | ⟨g, cap, cur, hv, hg, hh, rest⟩
  · exact .inl hn
  · have := hlt g (by rw [hv]; rfl)
    exact .inr ⟨g, cap, cur, hv, hg, (h g this.1 (Array.getElem?_eq_some_iff.1 hh).1 (by rw [hv]; rfl)).trans hh, rest⟩

theorem refsL_le (ts : List Ty) (ps : List Pj) (L : List Stp) : (refsL ts ps L).length ≤ L.length := by
  induction L with
  | nil => simp [refsL]
  | cons s L ih =>
    have h1 : (refStep ts ps s).length ≤ 1 := by
      unfold refStep
      split
      · simp
      · split
        · split <;> simp
        · simp
    unfold refsL at *
    rw [List.flatMap_cons, List.length_append, List.length_cons]
    omega

/-- What the loop of references knows between two rounds: b is the number of its first block. -/
structure RefI (ts : List Ty) (ps : List Pj) (A C : Option Addr) (c e b D : Nat) (l : Int) (w : World) (pre : List Stp) (W : World) : Prop where
  types : W.heap[b]? = some (.cells #[.slice A ts.length c] 30 (0, 0))
  plc : W.heap[b + 1]? = some (.cells #[.int .i64 l, .slice C ps.length e] 24 (0, 0))
  res : W.heap[b + 1 + 1]? = some (.cells #[.slice none 0 0] 30 (0, 0))
  ok : W.heap[b + 1 + 1 + 1]? = some (.cells #[.bool false] 4 (0, 0))
  row : ∃ (ys : List TH) (v : Value), W.heap[b + 1 + 1 + 1 + 1]? = some (.cells #[v] 30 (0, 0)) ∧ W.ownsRow D 48 5 v ys.length (ys.flatMap cellsH) ∧ (∀ y ∈ ys, GoodH w y) ∧ ys.map (·.t) = refsL ts ps pre
  good : ∀ s ∈ pre, s.err = 0
  low : Below w.heap.size w W

theorem RefI.turn {ts : List Ty} {ps : List Pj} {A C : Option Addr} {c e b D : Nat} {l : Int} {w : World} {pre : List Stp} {X Y : World} (h : RefI ts ps A C c e b D l w pre X) (hb : b + 5 ≤ D) (hw : w.heap.size ≤ b) (ht : Turn D T54 X Y) : RefI ts ps A C c e b D l w pre Y :=
  ⟨ht.block_low (by omega) h.types, ht.block_low (by omega) h.plc, ht.block_low (by omega) h.res, ht.block_low (by omega) h.ok,
   let ⟨ys, v, h1, h2, h3, h4⟩ := h.row
   ⟨ys, v, ht.block_low (by omega) h1, ht.grownBy (by decide) h2, h3, h4⟩, h.good, ht.below (by omega) (h.low.size) h.low⟩

set_option maxRecDepth 100000 in
set_option maxHeartbeats 4000000 in
theorem refs_any (ts : List Ty) (ls : List Lc) (l : Int) (ps : List Pj) (A B C : Option Addr) (c d e : Nat) (w : World) (hts : Slc 5 RTy w A c ts) (hls : Slc 2 RLc w B d ls) (hps : Slc 2 RPj w C e ps) (hok : Okay ts ls) :
    Calls Try.prog 29 #[.slice A ts.length c, .slice B ls.length d, .agg #[.int .i64 l, .slice C ps.length e]] w fun e' w' => ∃ A' c', e' = .returned (.tuple #[.slice A' (refsOf ts ls l ps).1.length c', .bool (refsOf ts ls l ps).2]) ∧ Slc 5 RTy w' A' c' (refsOf ts ls l ps).1 ∧ Below w.heap.size w w' := by
  refine (callsIn_wide (n := 5)).1 ?_
  refine callsIn_of_wp_marks Try.func29 rfl trivial ?_ rfl
  simp only [Try.ntmps29, List.size_toArray, List.length_cons, List.length_nil, Nat.reduceAdd, Nat.reduceSub, Array.replicate_succ, Array.replicate_zero, List.push_toArray, List.append_toArray, List.nil_append, List.cons_append]
  gi_wp2_with (refine ⟨trivial, ?_⟩; gi_at_call 28; refine (callsIn_wide.2 (path_any _ _ _ _ _ _ _ _ _ _ _)).mono ?_; rintro e' w' ⟨rfl, rfl⟩)
  obtain ⟨W0, hW0⟩ : ∃ W0, (((((((w.alloc (.cells #[.slice A ts.length c] 30)).alloc (.cells #[.int .i64 l, .slice C ps.length e] 24)).alloc (.cells #[.slice none 0 0] 30)).alloc (.cells #[.bool false] 4)).alloc (.cells #[.slice none 0 0] 30)).alloc (.cells #[.slice A ts.length c] 30)).alloc (.cells #[.slice B ls.length d] 31)).alloc (.cells #[.int .i64 l, .slice C ps.length e] 24) = W0 := ⟨_, rfl⟩
  rw [hW0]
  have hB0 : Below w.heap.size w W0 := by rw [← hW0]; (repeat (first | exact Below.refl _ _ | assumption | refine Below.alloc ?_ (by first | omega | (simp; done) | (simp; omega)) _ | refine below_drewN ?_ _ | refine Below.drew ?_ | refine Below.setCell ?_ (by first | omega | (simp; done) | (simp; omega)) _))
  have hz0 : W0.heap.size = w.heap.size + 1 + 1 + 1 + 1 + 1 + 1 + 1 + 1 := by subst hW0; simp
  have hall := fun i hi => (allocs_get [.cells #[.slice A ts.length c] 30, .cells #[.int .i64 l, .slice C ps.length e] 24, .cells #[.slice none 0 0] 30, .cells #[.bool false] 4, .cells #[.slice none 0 0] 30, .cells #[.slice A ts.length c] 30, .cells #[.slice B ls.length d] 31, .cells #[.int .i64 l, .slice C ps.length e] 24] w i hi)
  rw [show allocs w [.cells #[.slice A ts.length c] 30, .cells #[.int .i64 l, .slice C ps.length e] 24, .cells #[.slice none 0 0] 30, .cells #[.bool false] 4, .cells #[.slice none 0 0] 30, .cells #[.slice A ts.length c] 30, .cells #[.slice B ls.length d] 31, .cells #[.int .i64 l, .slice C ps.length e] 24] = W0 from hW0] at hall
  have z0 : W0.heap[w.heap.size]? = some (.cells #[.slice A ts.length c] 30 (0, 0)) := hall 0 (by simp)
  have z1 : W0.heap[w.heap.size + 1]? = some (.cells #[.int .i64 l, .slice C ps.length e] 24 (0, 0)) := hall 1 (by simp)
  have z2 : W0.heap[w.heap.size + 1 + 1]? = some (.cells #[.slice none 0 0] 30 (0, 0)) := hall 2 (by simp)
  have z3 : W0.heap[w.heap.size + 1 + 1 + 1]? = some (.cells #[.bool false] 4 (0, 0)) := hall 3 (by simp)
  have z4 : W0.heap[w.heap.size + 1 + 1 + 1 + 1]? = some (.cells #[.slice none 0 0] 30 (0, 0)) := hall 4 (by simp)
  have z5 : W0.heap[w.heap.size + 1 + 1 + 1 + 1 + 1]? = some (.cells #[.slice A ts.length c] 30 (0, 0)) := hall 5 (by simp)
  have z6 : W0.heap[w.heap.size + 1 + 1 + 1 + 1 + 1 + 1]? = some (.cells #[.slice B ls.length d] 31 (0, 0)) := hall 6 (by simp)
  have z7 : W0.heap[w.heap.size + 1 + 1 + 1 + 1 + 1 + 1 + 1]? = some (.cells #[.int .i64 l, .slice C ps.length e] 24 (0, 0)) := hall 7 (by simp)
  have hseq := path_seq (5 - 1) (by omega) ts ls l ps A B C c d e _ _ _ w W0 hB0 (blk1 z5).1 (blk1 z6).1 (blk2 z7).1 (blk2 z7).2.1 hts hls hps hok
  have hlen := Lib.hid (pth_len ts ls l ps)
  have hpok := Lib.hid (pth_ok hok l ps)
  have hI0 : RefI ts ps A C c e w.heap.size W0.heap.size l w [] W0 := ⟨z0, z1, z2, z3, ⟨[], _, z4, World.ownsRow_nil _ _ _ _, by simp, rfl⟩, by simp, hB0⟩
  have hpl := hps.le
  have hpb := hps.big
  have htl := hts.le
  have htb := hts.big
  clear hall hW0 z0 z1 z2 z3 z4 z5 z6 z7 hls hok
  refine wpIn_range rfl (by omega) (gf := 38) (lb := #[.pointer (some ⟨w.heap.size + 1 + 1 + 1 + 1 + 1 + 1 + 1, 0, none⟩), .pointer (some ⟨w.heap.size + 1 + 1 + 1 + 1 + 1 + 1, 0, none⟩), .pointer (some ⟨w.heap.size + 1 + 1 + 1 + 1 + 1, 0, none⟩)]) rfl trivial (enters_of Try.func38 (by kernel_rfl) rfl)
    hseq (Below.refl _ _) (by intro k hk; omega) (fun _ => rfl)
    (RefI ts ps A C c e w.heap.size W0.heap.size l w)
    (fun co pre W => co = .ret ∧ W.heap[w.heap.size + 1 + 1]? = some (.cells #[.slice none 0 0] 30 (0, 0)) ∧ W.heap[w.heap.size + 1 + 1 + 1]? = some (.cells #[.bool false] 4 (0, 0)) ∧ Below w.heap.size w W ∧ ∃ s ∈ pre, s.err ≠ 0)
    (fun s X Y hs ht => hs.turn (by omega) (Nat.le_refl _) ht)
    (fun _ _ X Y hs ht => ⟨hs.1, ht.block_low (by omega) hs.2.1, ht.block_low (by omega) hs.2.2.1, ht.below (by omega) hs.2.2.2.1.size hs.2.2.2.1, hs.2.2.2.2⟩)
    hI0 ?round ?done ?stop
  case round =>
    rintro lr pre x post W hL hlr ⟨r, hr⟩ hWs hI
    simp only [encS, List.zip_toArray, List.zip_cons_cons]
    gi_wp2
    refine ⟨(Kb.refl _ _ _ _).alloc _, fun W2 hrec => ?_⟩
    have hn2 := hrec.cells (heap_alloc_new W (.cells #[.int .i64 x.idx, .int .i64 x.err] 54))
    have hI2 : RefI ts ps A C c e w.heap.size W0.heap.size l w pre W2 := hI.turn (by omega) (Nat.le_refl _) ((Turn.of_below ((Below.refl _ _).alloc (Nat.le_refl _) _)).trans (hrec.turn hlr))
    have hs2 : W2.heap.size = W.heap.size + 1 := by rw [hrec.size]; simp
    clear hI hrec hI0
    have HX := Lib.hid hL
    clear hL
    generalize W.heap.size = bn at *
    have hbn : W0.heap.size ≤ bn := hWs
    clear hr hWs
    obtain ⟨q1, q2, q3, q4, ⟨ys, v, q5, q6, q7, q8⟩, q9, q10⟩ := hI2
    obtain ⟨y0, y1, y2, y3⟩ := blk2 hn2
    by_cases herr : x.err = 0
    · have e1 : (x.err != 0) = false := by simp [herr]
      have hgood : Hid (∀ s ∈ pre ++ [x], s.err = 0) := Lib.hid (fun s hs => by
        rcases List.mem_append.1 hs with h | h
        · exact q9 s h
        · rw [List.mem_singleton] at h; rw [h]; exact herr)
      have hidx := hpok.out x (by rw [HX.out]; simp) herr
      obtain ⟨p1, _⟩ := blk1 q1
      obtain ⟨p2, p3, _, _⟩ := blk2 q2
      clear q9
      by_cases hk : x.num < ps.length
      · obtain ⟨bC, oC, rfl, hbC, hrC⟩ := hps.sl.at_ hk
        obtain ⟨g1, g2⟩ := RPj.keeps _ _ _ w.heap.size _ _ _ (Nat.le_refl _) hbC q10 hrC
        by_cases hkd : ps[x.num].kind = 0
        · have e2 : (ps[x.num].kind == 0) = true := by simp [hkd]
          obtain ⟨xn, xi, xe⟩ := x
          simp only [] at *
          obtain ⟨ij, rfl⟩ := Int.eq_ofNat_of_zero_le hidx.1
          have hij : ij < ts.length := by omega
          obtain ⟨bT, oT, rfl, hbT, hrT⟩ := hts.sl.at_ hij
          obtain ⟨r1, r2, r3, r4, A2, c2, r5, r6, r7, r8⟩ := hrT
          have hnewG : GoodH w ⟨ts[ij], A2, c2⟩ := ⟨r8, r6, r7⟩
          replace r1 := cell_keep q10 r1
          replace r2 := cell_keep q10 r2
          replace r3 := cell_keep q10 r3
          replace r4 := cell_keep q10 r4
          replace r5 := cell_keep q10 r5
          have hrefs : Hid (refsL ts ps (pre ++ [⟨xn, ij, xe⟩]) = refsL ts ps pre ++ [ts[ij]]) := Lib.hid (by
            rw [refsL_snoc, refStep, List.getElem?_eq_getElem hk]
            simp [hkd, hij])
          generalize ps[xn] = pj at *
          generalize ts[ij] = tt at *
          clear hkd hps hts herr hidx hrC
          obtain ⟨v1, v2⟩ := blk1 q5
          have hlb := lt_steps hbT
          gi_wp2
          refine wpInR_m (S := fun X => X.cell? ⟨w.heap.size + 1 + 1 + 1 + 1, 0, none⟩ = some v ∧ X.cell? ⟨w.heap.size, 0, none⟩ = some (.slice (some ⟨bT, oT, none⟩) ts.length c) ∧ X.cell? ⟨bn, 0, none⟩ = some (.int .i64 ij) ∧ X.cell? ⟨bT, oT + ij * 5, none⟩ = some (.int .i64 tt.kind) ∧ X.cell? ⟨bT, oT + ij * 5 + 1, none⟩ = some (.bool tt.mu) ∧ X.cell? ⟨bT, oT + ij * 5 + 2, none⟩ = some (.int .i64 tt.reg) ∧ X.cell? ⟨bT, oT + ij * 5 + 3, none⟩ = some (.int .i64 tt.elem) ∧ X.cell? ⟨bT, oT + ij * 5 + 4, none⟩ = some (.slice A2 tt.flds.length c2)) (t := 8) (by kernel_rfl) (by kernel_rfl) (by rintro ⟨_, _, hx⟩; exact hx) ?_
          have hS : W2.drew.cell? ⟨w.heap.size + 1 + 1 + 1 + 1, 0, none⟩ = some v ∧ W2.drew.cell? ⟨w.heap.size, 0, none⟩ = some (.slice (some ⟨bT, oT, none⟩) ts.length c) ∧ W2.drew.cell? ⟨bn, 0, none⟩ = some (.int .i64 ij) ∧ W2.drew.cell? ⟨bT, oT + ij * 5, none⟩ = some (.int .i64 tt.kind) ∧ W2.drew.cell? ⟨bT, oT + ij * 5 + 1, none⟩ = some (.bool tt.mu) ∧ W2.drew.cell? ⟨bT, oT + ij * 5 + 2, none⟩ = some (.int .i64 tt.reg) ∧ W2.drew.cell? ⟨bT, oT + ij * 5 + 3, none⟩ = some (.int .i64 tt.elem) ∧ W2.drew.cell? ⟨bT, oT + ij * 5 + 4, none⟩ = some (.slice A2 tt.flds.length c2) := ⟨v1, p1, y0, r1, r2, r3, r4, r5⟩
          refine wpAnyM_take (i := 0) (v := ?tv0) rfl (by kernel_rfl) (by kernel_rfl) (by kernel_rfl) (by kernel_rfl) (fun _ _ _ h => h) (Or.inl ⟨by rfl, ?ty0⟩) hS ?tr0
          case ty0 =>
            rintro X ⟨s1, s2, s3, s4, s5, s6, s7, s8⟩
            simp only [List.getElem_toArray, List.getElem_cons_zero, List.getElem_cons_succ]
            go_simp
            rfl
          simp only [List.getElem_toArray, List.getElem_cons_zero, List.getElem_cons_succ, Act.put, List.setIfInBounds_toArray, List.set_cons_zero, List.set_cons_succ]
          refine wpAnyM_take (i := 1) (v := ?tv1) rfl (by kernel_rfl) (by kernel_rfl) (by kernel_rfl) (by kernel_rfl) (fun _ _ _ h => h) (Or.inl ⟨by rfl, ?ty1⟩) hS ?tr1
          case ty1 =>
            rintro X ⟨s1, s2, s3, s4, s5, s6, s7, s8⟩
            simp only [List.getElem_toArray, List.getElem_cons_zero, List.getElem_cons_succ]
            go_simp
            rfl
          simp only [List.getElem_toArray, List.getElem_cons_zero, List.getElem_cons_succ, Act.put, List.setIfInBounds_toArray, List.set_cons_zero, List.set_cons_succ]
          refine wpAnyM_take (i := 2) (v := ?tv2) rfl (by kernel_rfl) (by kernel_rfl) (by kernel_rfl) (by kernel_rfl) (fun _ _ _ h => h) (Or.inl ⟨by rfl, ?ty2⟩) hS ?tr2
          case ty2 =>
            rintro X ⟨s1, s2, s3, s4, s5, s6, s7, s8⟩
            simp only [List.getElem_toArray, List.getElem_cons_zero, List.getElem_cons_succ]
            go_simp
            rfl
          simp only [List.getElem_toArray, List.getElem_cons_zero, List.getElem_cons_succ, Act.put, List.setIfInBounds_toArray, List.set_cons_zero, List.set_cons_succ]
          refine wpAnyM_take (i := 3) (v := ?tv3) rfl (by kernel_rfl) (by kernel_rfl) (by kernel_rfl) (by kernel_rfl) (fun _ _ _ h => h) (Or.inl ⟨by rfl, ?ty3⟩) hS ?tr3
          case ty3 =>
            rintro X ⟨s1, s2, s3, s4, s5, s6, s7, s8⟩
            simp only [List.getElem_toArray, List.getElem_cons_zero, List.getElem_cons_succ]
            go_simp
            rfl
          simp only [List.getElem_toArray, List.getElem_cons_zero, List.getElem_cons_succ, Act.put, List.setIfInBounds_toArray, List.set_cons_zero, List.set_cons_succ]
          refine wpAnyM_take (i := 4) (v := ?tv4) rfl (by kernel_rfl) (by kernel_rfl) (by kernel_rfl) (by kernel_rfl) (fun _ _ _ h => h) (Or.inl ⟨by rfl, ?ty4⟩) hS ?tr4
          case ty4 =>
            rintro X ⟨s1, s2, s3, s4, s5, s6, s7, s8⟩
            simp only [List.getElem_toArray, List.getElem_cons_zero, List.getElem_cons_succ]
            go_simp
            rfl
          simp only [List.getElem_toArray, List.getElem_cons_zero, List.getElem_cons_succ, Act.put, List.setIfInBounds_toArray, List.set_cons_zero, List.set_cons_succ]
          refine wpAnyM_take (i := 5) (v := ?tv5) rfl (by kernel_rfl) (by kernel_rfl) (by kernel_rfl) (by kernel_rfl) (fun _ _ _ h => h) (Or.inl ⟨by rfl, ?ty5⟩) hS ?tr5
          case ty5 =>
            rintro X ⟨s1, s2, s3, s4, s5, s6, s7, s8⟩
            simp only [List.getElem_toArray, List.getElem_cons_zero, List.getElem_cons_succ]
            go_simp
            rfl
          simp only [List.getElem_toArray, List.getElem_cons_zero, List.getElem_cons_succ, Act.put, List.setIfInBounds_toArray, List.set_cons_zero, List.set_cons_succ]
          refine wpAnyM_one (i := 6) (by kernel_rfl) rfl (fun K6 hK6 => ?_)
          simp only [List.getElem_toArray, List.getElem_cons_zero, List.getElem_cons_succ]
          go_simp
          have hba : Below W2.heap.size W2 (W2.alloc (.cells #[.int .i64 tt.kind, .bool tt.mu, .int .i64 tt.reg, .int .i64 tt.elem, .slice A2 tt.flds.length c2] 48)).drew := ((Below.refl _ _).alloc (Nat.le_refl _) _).drew
          have hnew : (W2.alloc (.cells #[.int .i64 tt.kind, .bool tt.mu, .int .i64 tt.reg, .int .i64 tt.elem, .slice A2 tt.flds.length c2] 48)).drew.heap[W2.heap.size]? = some (.cells #[.int .i64 tt.kind, .bool tt.mu, .int .i64 tt.reg, .int .i64 tt.elem, .slice A2 tt.flds.length c2] 48 (0, 0)) := heap_alloc_new W2 _
          have hS3 : (W2.alloc (.cells #[.int .i64 tt.kind, .bool tt.mu, .int .i64 tt.reg, .int .i64 tt.elem, .slice A2 tt.flds.length c2] 48)).drew.heap.size = W2.heap.size + 1 := by simp
          generalize (W2.alloc (.cells #[.int .i64 tt.kind, .bool tt.mu, .int .i64 tt.reg, .int .i64 tt.elem, .slice A2 tt.flds.length c2] 48)).drew = W3 at *
          rw [hs2] at hnew
          have hrow3 := q6.kept (World.grownBy.mk hba.os hba.tape hba.output hba.size (fun k hk _ => hba.block k hk) : W2.grownBy W3 none) (by cases hv : v.ownBlock <;> simp)
          refine hK6.out _ _ (fun _ => ⟨cell_keep hba v1, cell_keep hba p1, cell_keep hba y0, cell_keep hba r1, cell_keep hba r2, cell_keep hba r3, cell_keep hba r4, cell_keep hba r5⟩) ?_
          refine wpAnyM_one (i := 7) (by kernel_rfl) rfl (fun K7 hK7 => ?_)
          simp only [List.getElem_toArray, List.getElem_cons_zero, List.getElem_cons_succ]
          rw [if_pos (by rfl)]
          obtain ⟨i0, hi0, hz0, hz1, hz2⟩ := info_parts infoTy
          have hD3 : W0.heap.size ≤ W3.heap.size := by omega
          have hl33 : ys.length + 1 ≤ 34 := by
            have h1 := hlen.out
            rw [HX.out, List.length_append, List.length_cons] at h1
            have h2 : ys.length = (refsL ts ps pre).length := by rw [← q8, List.length_map]
            have h3 := refsL_le ts ps pre
            omega
          refine wpO_append (.tmp 34) (.tmp 40) 30 rfl W0.heap.size 48 i0 _ 5 56 Try.underlying30 hi0 hz0 hz1 hz2 rfl (by omega) v ys.length (ys.flatMap cellsH) rfl hrow3 ⟨bn + 1, 0, none⟩ 1 1 (cellsH ⟨tt, A2, c2⟩) rfl rfl ?_ ?_ (by simp only [maxLen]; omega) (by omega) hD3 ?_
          · intro j u hj
            rw [add0, cell_of_row W3 _ j _ _ _ hnew]
            simpa [cellsH] using hj
          · simp [cellsH, Value.oneCell']
          intro v' W4 hown4 hg4 hat4
          obtain ⟨g4, cap4, rfl⟩ := ownsRow_succ hown4
          have ne5 := own_ne_low hrow3 (show w.heap.size + 1 + 1 + 1 + 1 < W0.heap.size by omega)
          have ne0 := own_ne_low hrow3 (show w.heap.size < W0.heap.size by omega)
          have neT := own_ne_low hrow3 (show bT < W0.heap.size by omega)
          have nen := own_ne hrow3 (blk_keep hba hn2) (by decide)
          have k1 := hg4.cell (cell_keep hba v1) ne5
          have k2 := hg4.cell (cell_keep hba p1) ne0
          have k3 := hg4.cell (cell_keep hba y0) nen
          have k4 := hg4.cell (cell_keep hba r1) neT
          have k5 := hg4.cell (cell_keep hba r2) neT
          have k6 := hg4.cell (cell_keep hba r3) neT
          have k7 := hg4.cell (cell_keep hba r4) neT
          have k8 := hg4.cell (cell_keep hba r5) neT
          refine hK7.out _ _ (fun _ => ⟨k1, k2, k3, k4, k5, k6, k7, k8⟩) ?_
          refine wpAnyM_one (i := 8) (by kernel_rfl) rfl (fun K8 hK8 => ?_)
          simp only [List.getElem_toArray, List.getElem_cons_zero, List.getElem_cons_succ, Act.put, List.setIfInBounds_toArray, List.set_cons_zero, List.set_cons_succ]
          have hz4 : W4.heap[w.heap.size + 1 + 1 + 1 + 1]? = some (.cells #[v] 30 (0, 0)) := (hg4.block _ (by omega) ne5).trans (blk_keep hba q5)
          obtain ⟨u1, u2⟩ := blk1 hz4
          rw [if_pos (by rfl)]
          go_simp
          refine hK8.out _ _ (fun h => absurd h (by decide)) ?_
          refine wpAnyM_done (by kernel_rfl) ?_ _
          gi_wp2
          have hkb : Kb (fun k => k < w.heap.size ∨ k = w.heap.size + 1 + 1 + 1 + 1 + 1 ∨ k = w.heap.size + 1 + 1 + 1 + 1 + 1 + 1 ∨ k = w.heap.size + 1 + 1 + 1 + 1 + 1 + 1 + 1) W0.heap.size T54 W2 W4 := (Kb.of_below hba).grown hg4 (fun k hk => by
            have h1 := hrow3.lt k hk
            refine ⟨.inl (by omega), .inr (.inr ?_)⟩
            rcases hrow3.2 with ⟨rfl, _⟩ | ⟨g', cap', cur', rfl, _, hh', _⟩
            · simp [Value.ownBlock] at hk
            · have he : g' = k := by simpa [Value.ownBlock] using hk
              subst he
              exact ⟨_, _, _, hh', rfl⟩)
          refine ⟨hkb.setLow (p := ⟨w.heap.size + 1 + 1 + 1 + 1, 0, none⟩) _ (by simp; omega) (by simp; omega), ?_⟩
          have hbe : Below w.heap.size w W4 := q10.trans (hkb.below (n₀ := w.heap.size) (fun k hk => .inl hk) q10.size)
          have bq := fun k (hk : k < w.heap.size + 1 + 1 + 1 + 1 + 1) => hg4.block k (by omega) (own_ne_low hrow3 (show k < W0.heap.size by omega))
          refine ⟨set_far _ ((bq _ (by omega)).trans (blk_keep hba q1)) (by simp; omega), set_far _ ((bq _ (by omega)).trans (blk_keep hba q2)) (by simp), set_far _ ((bq _ (by omega)).trans (blk_keep hba q3)) (by simp), set_far _ ((bq _ (by omega)).trans (blk_keep hba q4)) (by simp), ?_, hgood.out, hbe.setCell (p := ⟨w.heap.size + 1 + 1 + 1 + 1, 0, none⟩) (by simp; omega) _⟩
          refine ⟨ys ++ [⟨tt, A2, c2⟩], _, blk1_put _ hz4, ?_, ?_, ?_⟩
          · rw [List.length_append, List.length_singleton, List.flatMap_append, List.flatMap_singleton]
            exact own_block hown4 (fun k hk _ _ => Below.heap_setCell W4 _ _ k (by simp; omega))
          · intro y hy
            rcases List.mem_append.1 hy with h | h
            · exact q7 y h
            · rw [List.mem_singleton] at h; rw [h]; exact hnewG
          · rw [List.map_append, hrefs.out, q8]
            rfl
        · have e2 : (ps[x.num].kind == 0) = false := by simp [hkd]
          have hrefs : Hid (refsL ts ps (pre ++ [x]) = refsL ts ps pre) := Lib.hid (by
            rw [refsL_snoc, refStep, List.getElem?_eq_getElem hk]
            simp [hkd])
          generalize ps[x.num] = pj at *
          clear hkd hps hts herr hidx
          gi_wp2
          exact ⟨Kb.refl _ _ _ _, q1, q2, q3, q4, ⟨ys, v, q5, q6, q7, by rw [hrefs.out]; exact q8⟩, hgood.out, q10⟩
      · have hd : decide ((x.num : Int) < (ps.length : Int)) = false := by simp; omega
        have hrefs : Hid (refsL ts ps (pre ++ [x]) = refsL ts ps pre) := Lib.hid (by
          rw [refsL_snoc, refStep, List.getElem?_eq_none (by omega)]
          simp)
        clear hps hts herr hidx
        gi_wp2
        exact ⟨Kb.refl _ _ _ _, q1, q2, q3, q4, ⟨ys, v, q5, q6, q7, by rw [hrefs.out]; exact q8⟩, hgood.out, q10⟩
    · have e1 : (x.err != 0) = true := by simp [herr]
      have hex : Hid (∃ s ∈ pre ++ [x], s.err ≠ 0) := Lib.hid ⟨x, by simp, herr⟩
      obtain ⟨v1, v2⟩ := blk1 q3
      obtain ⟨v3, v4⟩ := blk1 q4
      clear herr
      gi_wp2
      exact ⟨((Kb.refl _ _ _ _).setLow (p := ⟨w.heap.size + 1 + 1, 0, none⟩) _ (by simp; omega) (by simp; omega)).setLow (p := ⟨w.heap.size + 1 + 1 + 1, 0, none⟩) _ (by simp; omega) (by simp; omega), rfl,
        set_far _ (blk1_put _ q3) (by simp), blk1_put _ (set_far _ q4 (by simp)), (q10.setCell (p := ⟨w.heap.size + 1 + 1, 0, none⟩) (by simp; omega) _).setCell (p := ⟨w.heap.size + 1 + 1 + 1, 0, none⟩) (by simp; omega) _, hex.out⟩
  case done =>
    intro D W hD hI hK
    obtain ⟨q1, q2, q3, q4, ⟨ys, v, q5, q6, q7, q8⟩, q9, q10⟩ := hI
    have href : Hid (refsOf ts ls l ps = (ys.map (·.t), true)) := Lib.hid (by
      rw [refsOf, if_neg (by simpa using q9), q8])
    obtain ⟨A', c', rfl, hsl⟩ := slc_of_rows q6 (fun y hy => (q7 y hy).keep q10)
    obtain ⟨p5, _⟩ := blk1 q5
    obtain ⟨p3, p3'⟩ := blk1 q3
    obtain ⟨p4, p4'⟩ := blk1 q4
    have H6 := Lib.hid q6
    have H7 := Lib.hid q7
    clear q6 q7
    gi_wp2
    have q6 := H6.out
    have q7 := H7.out
    have hKD : ((W.setCell ⟨w.heap.size + 1 + 1, 0, none⟩ (.slice A' ys.length c')).setCell ⟨w.heap.size + 1 + 1 + 1, 0, none⟩ (.bool true)).heap[D]? = some (.deferred (some [])) := set_far _ (set_far _ hK (by simp; omega)) (by simp; omega)
    have n3 := set_far (p := ⟨w.heap.size + 1 + 1 + 1, 0, none⟩) (.bool true) (blk1_put (.slice A' ys.length c') q3) (by simp)
    have n4 := blk1_put (.bool true) (set_far (p := ⟨w.heap.size + 1 + 1, 0, none⟩) (.slice A' ys.length c') q4 (by simp))
    have hbl : Below w.heap.size w ((W.setCell ⟨w.heap.size + 1 + 1, 0, none⟩ (.slice A' ys.length c')).setCell ⟨w.heap.size + 1 + 1 + 1, 0, none⟩ (.bool true)) := (q10.setCell (p := ⟨w.heap.size + 1 + 1, 0, none⟩) (by simp; omega) _).setCell (p := ⟨w.heap.size + 1 + 1 + 1, 0, none⟩) (by simp; omega) _
    have hown : ((W.setCell ⟨w.heap.size + 1 + 1, 0, none⟩ (.slice A' ys.length c')).setCell ⟨w.heap.size + 1 + 1 + 1, 0, none⟩ (.bool true)).ownsRow W0.heap.size 48 5 (.slice A' ys.length c') ys.length (ys.flatMap cellsH) :=
      own_block (own_block q6 (fun k hk _ _ => Below.heap_setCell W _ _ k (by simp; omega))) (fun k hk _ _ => Below.heap_setCell _ _ _ k (by simp; omega))
    generalize (W.setCell ⟨w.heap.size + 1 + 1, 0, none⟩ (.slice A' ys.length c')).setCell ⟨w.heap.size + 1 + 1 + 1, 0, none⟩ (.bool true) = W5 at *
    refine ⟨by simp, .inl ⟨_, _, rfl, run_takeDeferred (w := _) hKD, ?_⟩⟩
    have hT : Turn D T54 W5 (W5.putObj D (.deferred none)) := Turn.putObj _ hKD (Nat.le_refl _) rfl
    have n3' := hT.block_low (by omega) n3
    have n4' := hT.block_low (by omega) n4
    have hbl' := hT.below (by omega) hbl.size hbl
    have hown' := hT.grownBy (by decide) hown
    generalize W5.putObj D (.deferred none) = W6 at *
    obtain ⟨A3, c3, he3, hsl3⟩ := slc_of_rows hown' (fun y hy => (q7 y hy).keep hbl')
    injection he3 with he3 _ he4
    subst he3 he4
    rw [href.out]
    obtain ⟨m3, _⟩ := blk1 n3'
    obtain ⟨m4, _⟩ := blk1 n4'
    refine ⟨.tuple #[.slice A' ys.length c', .bool true], ?_, A', c', by simp, hsl3, hbl'⟩
    simp [results, Try.results29, go_sem, m3, m4]
  case stop =>
    rintro D co pre x post W hD hL ⟨rfl, q3, q4, q10, hex⟩ hK
    have href : Hid (refsOf ts ls l ps = ([], false)) := Lib.hid (by
      obtain ⟨s, hs, he⟩ := hex
      rw [refsOf, if_pos]
      rw [List.any_eq_true]
      exact ⟨s, by rw [hL]; simp at hs ⊢; rcases hs with h | h <;> simp [h], by simpa using he⟩)
    gi_wp2
    refine ⟨by simp, .inl ⟨_, _, rfl, run_takeDeferred (w := _) hK, ?_⟩⟩
    have hT : Turn D T54 W (W.putObj D (.deferred none)) := Turn.putObj _ hK (Nat.le_refl _) rfl
    have n3' := hT.block_low (by omega) q3
    have n4' := hT.block_low (by omega) q4
    have hbl' := hT.below (by omega) q10.size q10
    generalize W.putObj D (.deferred none) = W6 at *
    rw [href.out]
    obtain ⟨m3, _⟩ := blk1 n3'
    obtain ⟨m4, _⟩ := blk1 n4'
    refine ⟨.tuple #[.slice none 0 0, .bool false], ?_, none, 0, by simp, ⟨Sl.nil, by simp, by omega⟩, hbl'⟩
    simp [results, Try.results29, go_sem, m3, m4]
end Go.Proofs.Ytmfdppgfbgjmcaa
