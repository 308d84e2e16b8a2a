/-
  Walks: Equal, IsPrefix, HasDeref of places, and the references of the three.
-/
import Derived.Test.YtmfdppgfbgjmcaaW3
namespace Go.Proofs.Ytmfdppgfbgjmcaa
open Go.RowKit

/-- A place: its local and its projections. -/
structure Plc where
  loc : Int
  proj : List Pj
  deriving DecidableEq

/-- Is p a prefix of q? -/
def isPre (p q : Plc) : Bool := decide (p.loc = q.loc ∧ p.proj.length ≤ q.proj.length ∧ p.proj = q.proj.take p.proj.length)

theorem bel2 (w : World) (o o' : Obj) : Below w.heap.size w ((w.alloc o).alloc o') := ((Below.refl _ _).alloc (Nat.le_refl _) _).alloc (by simp) _

theorem Slc.takeN {α : Type} {k : Nat} {R : Rd α} {w : World} {A : Option Addr} {c : Nat} {xs : List α} (h : Slc k R w A c xs) (n : Nat) : Slc k R w A c (xs.take n) :=
  ⟨h.sl.take n, by have := h.le; rw [List.length_take]; omega, h.big⟩

set_option maxHeartbeats 1000000 in
theorem isPre_any (p q : Plc) (A B : Option Addr) (c d : Nat) (w : World) (hx : Slc 2 RPj w A c p.proj) (hy : Slc 2 RPj w B d q.proj) :
    Calls Try.prog 22 #[.agg #[.int .i64 p.loc, .slice A p.proj.length c], .agg #[.int .i64 q.loc, .slice B q.proj.length d]] w fun e w' => e = .returned (.bool (isPre p q)) ∧ Below w.heap.size w w' := by
  have hle := hx.le
  have hbig := hx.big
  have hle2 := hy.le
  have hbig2 := hy.big
  by_cases h1 : p.loc = q.loc
  · by_cases h2 : p.proj.length ≤ q.proj.length
    · have t1 : (p.loc == q.loc) = true := by simp [h1]
      have hlen : (q.proj.take p.proj.length).length = p.proj.length := by rw [List.length_take]; omega
      have hC := eqPj_any A B c d p.proj (q.proj.take p.proj.length) 
      rw [hlen] at hC
      have hfin : Hid (decide (p.proj = q.proj.take p.proj.length) = isPre p q) := Lib.hid (by simp [isPre, h1, h2])
      have HC := Lib.hid (fun W (hb : Below w.heap.size w W) => hC W (hx.keep RPj.keeps hb) ((hy.takeN _).keep RPj.keeps hb))
      clear hC hlen hx hy h1
      go_enter Try.func22, Try.ntmps22
      go_wp2_with fail
      have hB := bel2 w (.cells #[.int .i64 p.loc, .slice A p.proj.length c] 24) (.cells #[.int .i64 q.loc, .slice B q.proj.length d] 24)
      go_quiet ((go_at_call 33; exact Calls.quiet_of (HC.out _ (below_drewN hB _))))
      go_wp2
      go_ret
      exact ⟨ret_b hfin.out, below_drewN hB _⟩
    · have t1 : (p.loc == q.loc) = true := by simp [h1]
      have hd : decide ((p.proj.length : Int) ≤ (q.proj.length : Int)) = false := by simp; omega
      have hfin : Hid (isPre p q = false) := Lib.hid (by simp [isPre, h2])
      clear hx hy h1
      go_enter Try.func22, Try.ntmps22
      go_wp2_with fail
      have hB := bel2 w (.cells #[.int .i64 p.loc, .slice A p.proj.length c] 24) (.cells #[.int .i64 q.loc, .slice B q.proj.length d] 24)
      go_quiet (fail)
      go_wp2
      go_ret
      exact ⟨ret_b hfin.out.symm, below_drewN hB _⟩
  · have t1 : (p.loc == q.loc) = false := by simp [h1]
    have hfin : Hid (isPre p q = false) := Lib.hid (by simp [isPre, h1])
    clear hx hy h1
    go_enter Try.func22, Try.ntmps22
    go_wp2_with fail
    have hB := bel2 w (.cells #[.int .i64 p.loc, .slice A p.proj.length c] 24) (.cells #[.int .i64 q.loc, .slice B q.proj.length d] 24)
    go_quiet (fail)
    go_wp2
    go_ret
    exact ⟨ret_b hfin.out.symm, below_drewN hB _⟩

set_option maxHeartbeats 1000000 in
theorem equal_any (p q : Plc) (A B : Option Addr) (c d : Nat) (w : World) (hx : Slc 2 RPj w A c p.proj) (hy : Slc 2 RPj w B d q.proj) :
    Calls Try.prog 20 #[.agg #[.int .i64 p.loc, .slice A p.proj.length c], .agg #[.int .i64 q.loc, .slice B q.proj.length d]] w fun e w' => e = .returned (.bool (decide (p = q))) ∧ Below w.heap.size w w' := by
  have hB := bel2 w (.cells #[.int .i64 p.loc, .slice A p.proj.length c] 24) (.cells #[.int .i64 q.loc, .slice B q.proj.length d] 24)
  by_cases h1 : p.loc = q.loc
  · have t1 : (p.loc == q.loc) = true := by simp [h1]
    have HC := Lib.hid (eqPj_any A B c d p.proj q.proj _ (hx.keep RPj.keeps hB) (hy.keep RPj.keeps hB))
    have hfin : Hid (decide (p.proj = q.proj) = decide (p = q)) := Lib.hid (by obtain ⟨l, ps⟩ := p; obtain ⟨m, qs⟩ := q; simp at h1; simp [h1])
    clear hx hy h1
    go_enter Try.func20, Try.ntmps20
    go_wp2_with (go_at_call 33; refine HC.out.mono ?_; rintro e w' ⟨rfl, q, rfl⟩)
    go_ret
    exact ⟨ret_b hfin.out, below_drewN hB _⟩
  · have t1 : (p.loc == q.loc) = false := by simp [h1]
    have hfin : Hid (decide (p = q) = false) := Lib.hid (by obtain ⟨l, ps⟩ := p; obtain ⟨m, qs⟩ := q; simp at h1; simp [h1])
    clear hx hy h1
    go_enter Try.func20, Try.ntmps20
    go_wp2_with fail
    go_ret
    exact ⟨ret_b hfin.out.symm, hB⟩

set_option maxHeartbeats 1000000 in
theorem rpre_any (p q : Plc) (A B : Option Addr) (c d : Nat) (w : World) (hx : Slc 2 RPj w A c p.proj) (hy : Slc 2 RPj w B d q.proj) :
    Calls Try.prog 23 #[.agg #[.int .i64 p.loc, .slice A p.proj.length c], .agg #[.int .i64 q.loc, .slice B q.proj.length d]] w fun e w' => e = .returned (.bool (isPre p q)) ∧ Below w.heap.size w w' := by
  have hle := hx.le
  have hbig := hx.big
  have hle2 := hy.le
  have hbig2 := hy.big
  have hs := hx.sl
  have hs2 := hy.sl
  have hB0 := bel2 w (.cells #[.int .i64 p.loc, .slice A p.proj.length c] 24) (.cells #[.int .i64 q.loc, .slice B q.proj.length d] 24)
  by_cases h1 : p.loc = q.loc ∧ p.proj.length ≤ q.proj.length
  · obtain ⟨h1, h2⟩ := h1
    have t1 : (p.loc != q.loc) = false := by simp [h1]
    have hyes0 : Hid (∀ k, p.proj.length ≤ k → p.proj.take k = q.proj.take k → isPre p q = true) := Lib.hid (fun k hk he => by
      have hk2 : p.proj = (q.proj.take k).take p.proj.length := by rw [← he, List.take_of_length_le hk, List.take_length]
      rw [List.take_take, Nat.min_eq_left hk] at hk2
      simp [isPre, h1, h2, ← hk2])
    have hno0 : Hid (∀ k (a : k < p.proj.length) (b : k < q.proj.length), ¬ p.proj[k] = q.proj[k] → isPre p q = false) := Lib.hid (fun k a b hne => by
      have : ¬ p.proj = q.proj.take p.proj.length := fun he => hne (by
        have h3 : p.proj[k]? = (q.proj.take p.proj.length)[k]? := by rw [← he]
        rw [List.getElem?_take, if_pos a, List.getElem?_eq_getElem a, List.getElem?_eq_getElem b] at h3
        simpa using h3)
      simp [isPre, this])
    clear hx hy h1
    go_enter Try.func23, Try.ntmps23
    go_wp2_with fail
    go_loopw [5] (fun v wr => ∃ k : Nat, k ≤ p.proj.length ∧ v = .int .i64 k ∧ wr.cell? ⟨w.heap.size, 1, none⟩ = some (.slice A p.proj.length c) ∧ wr.cell? ⟨w.heap.size + 1, 1, none⟩ = some (.slice B q.proj.length d) ∧ Below w.heap.size w wr ∧ Hid (p.proj.take k = q.proj.take k)) (fun v _ => p.proj.length - (intOf v).toNat)
    case atStart => exact ⟨0, by omega, rfl, by go_simp, by go_simp, hB0, Lib.hid (by simp)⟩
    case round =>
      obtain ⟨k, hk, rfl, z1, z2, hB, he⟩ := hrel
      by_cases hlt : k < p.proj.length
      · have hlt2 : k < q.proj.length := by omega
        obtain ⟨b, off, rfl, hb, hr⟩ := hs.at_ hlt
        obtain ⟨b2, off2, rfl, hb2, hr2⟩ := hs2.at_ hlt2
        obtain ⟨g1, g2⟩ := RPj.keeps _ _ _ w.heap.size _ _ _ (Nat.le_refl _) hb hB hr
        obtain ⟨g3, g4⟩ := RPj.keeps _ _ _ w.heap.size _ _ _ (Nat.le_refl _) hb2 hB hr2
        have hne := neqPj p.proj[k] q.proj[k]
        have hyes := Lib.hid (fun h => take_succ_eq he.out hlt hlt2 h)
        have hno := Lib.hid (hno0.out k hlt hlt2)
        clear he hr hr2 hno0
        generalize p.proj[k] = x at *
        generalize q.proj[k] = y at *
        clear hs hs2 hB0
        by_cases hxy : x = y
        · have hf : (!decide (x = y)) = false := by simp [hxy]
          rw [hf] at hne
          have hyes' := Lib.hid (hyes.out hxy)
          clear hyes hno hf hxy
          go_wp2
          go_quiet (fail)
          go_wp2
          go_roundw
          case rel => exact ⟨k + 1, by omega, by go_num, z1, z2, below_drewN hB _, hyes'⟩
          case measure => simp [intOf]; omega
        · have hf : (!decide (x = y)) = true := by simp [hxy]
          rw [hf] at hne
          have hno' := Lib.hid (hno.out hxy)
          clear hyes hno hf hxy
          go_wp2
          go_quiet (fail)
          go_wp2
          go_ret
          exact ⟨ret_b (by simp [hno'.out]), below_drewN hB _⟩
      · have hfin := Lib.hid (hyes0.out k (by omega) he.out)
        clear he hs hs2
        go_wp2
        go_ret
        exact ⟨ret_b (by simp [hfin.out]), hB⟩
  · have hfin : Hid (isPre p q = false) := Lib.hid (by simp only [isPre, decide_eq_false_iff_not]; exact fun h => h1 ⟨h.1, h.2.1⟩)
    clear hx hy hs hs2
    by_cases h2 : p.loc = q.loc
    · have t1 : (p.loc != q.loc) = false := by simp [h2]
      have h3 : q.proj.length < p.proj.length := by omega
      clear h2 h1
      go_enter Try.func23, Try.ntmps23
      go_wp2_with fail
      go_ret
      exact ⟨ret_b hfin.out.symm, hB0⟩
    · have t1 : (p.loc != q.loc) = true := by simp [h2]
      clear h2 h1
      go_enter Try.func23, Try.ntmps23
      go_wp2_with fail
      go_ret
      exact ⟨ret_b hfin.out.symm, hB0⟩

set_option maxHeartbeats 1000000 in
theorem requal_any (p q : Plc) (A B : Option Addr) (c d : Nat) (w : World) (hx : Slc 2 RPj w A c p.proj) (hy : Slc 2 RPj w B d q.proj) :
    Calls Try.prog 21 #[.agg #[.int .i64 p.loc, .slice A p.proj.length c], .agg #[.int .i64 q.loc, .slice B q.proj.length d]] w fun e w' => e = .returned (.bool (decide (p = q))) ∧ Below w.heap.size w w' := by
  have hB := bel2 w (.cells #[.int .i64 p.loc, .slice A p.proj.length c] 24) (.cells #[.int .i64 q.loc, .slice B q.proj.length d] 24)
  by_cases h1 : p.proj.length = q.proj.length
  · have t1 : ((p.proj.length : Int) == (q.proj.length : Int)) = true := by simp [h1]
    have HC := Lib.hid (rpre_any p q A B c d _ (hx.keep RPj.keeps hB) (hy.keep RPj.keeps hB))
    have hfin : Hid (isPre p q = decide (p = q)) := Lib.hid (by
      obtain ⟨l, ps⟩ := p
      obtain ⟨m, qs⟩ := q
      simp only [] at h1
      simp [isPre, h1])
    clear hx hy h1
    go_enter Try.func21, Try.ntmps21
    go_wp2_with (go_at_call 23; refine HC.out.mono ?_; rintro e w' ⟨rfl, hb1⟩)
    go_ret
    exact ⟨ret_b hfin.out, hB.trans (hb1.mono hB.size)⟩
  · have t1 : ((p.proj.length : Int) == (q.proj.length : Int)) = false := by simp; omega
    have hfin : Hid (decide (p = q) = false) := Lib.hid (by simp only [decide_eq_false_iff_not]; rintro rfl; exact h1 rfl)
    clear hx hy h1
    go_enter Try.func21, Try.ntmps21
    go_wp2_with fail
    go_ret
    exact ⟨ret_b hfin.out.symm, hB⟩

/-- Is there a dereference from a projection on? -/
def hasD (ps : List Pj) (n : Int) : Bool := (ps.drop n.toNat).any isD

/-- Where 's[lo:]' begins. -/
def cutA (A : Option Addr) (c j k : Nat) : Option Addr := if c = j then A else A.map (·.add (j * k))

theorem Slc.dropN {α : Type} {k : Nat} {R : Rd α} {w : World} {A : Option Addr} {c : Nat} {xs : List α} (h : Slc k R w A c xs) (j : Nat) (hj : j ≤ xs.length) : Slc k R w (cutA A c j k) (c - j) (xs.drop j) := by
  refine ⟨fun hn => ?_, by have := h.le; rw [List.length_drop]; omega, by have := h.big; omega⟩
  rw [List.length_drop] at hn
  have hle := h.le
  obtain ⟨b, off, rfl, hb, hx⟩ := h.sl (by omega)
  refine ⟨b, off + j * k, ?_, hb, fun i x hi => ?_⟩
  · unfold cutA
    rw [if_neg (by omega)]
    simp only [Option.map_some, Addr.add]
    split
    · rename_i h0; rw [h0]; simp
    · rfl
  · rw [List.getElem?_drop] at hi
    have := hx _ x hi
    rw [Nat.add_mul, ← Nat.add_assoc] at this
    exact this

theorem run_cut {P : Program} (t e : TypeId) (A : Option Addr) (n c j k : Nat) (ht : P.underlying t = some (.slice e)) (hk : ∀ w, (sizeOf e).run P w = .ok k w) (hj : j ≤ n) (w : World) :
    (Instr.slice t (.slice A n c) (some (.int .i64 (j : Int))) none none).run P w = .ok (.slice (cutA A c j k) (n - j) (c - j)) w := by
  have hb := run_sliceBound (P := P) (w := w) .i64 (j : Int) n .sliceB (by omega) (by omega)
  simp only [Int.toNat_natCast] at hb
  simp [Instr.slice, run_underlying ht, Instr.sliceBounds, hb, hk, cutA]

set_option maxHeartbeats 1000000 in
theorem hasD_core (l : Int) (len : Nat) (n : Int) (jj : Int) (A : Option Addr) (c : Nat) (w : World) (A' : Option Addr) (m c' : Nat) (r : Bool) (hlen : len ≤ 9223372036854775807)
    (hsl : ∀ W, (Instr.slice 22 (.slice A len c) (some (.int .i64 jj)) none none).run Try.prog W = .ok (.slice A' m c') W)
    (HC : Hid (Calls Try.prog 34 #[.slice A' m c', .func (.func 35) #[] #[]] (w.alloc (.cells #[.int .i64 l, .slice A len c] 24)) fun e w' => e = .returned (.bool r) ∧ Below (w.alloc (.cells #[.int .i64 l, .slice A len c] 24)).heap.size (w.alloc (.cells #[.int .i64 l, .slice A len c] 24)) w'))
    (hn : (n < 0 ∧ jj = 0) ∨ (0 ≤ n ∧ n ≤ len ∧ jj = n) ∨ (len < n ∧ jj = len)) :
    Calls Try.prog 24 #[.agg #[.int .i64 l, .slice A len c], .int .i64 n] w fun e w' => e = .returned (.bool r) ∧ Below w.heap.size w w' := by
  have hB : Below w.heap.size w (w.alloc (.cells #[.int .i64 l, .slice A len c] 24)) := (Below.refl _ _).alloc (Nat.le_refl _) _
  rcases hn with ⟨h1, h2⟩ | ⟨h1, h2, h3⟩ | ⟨h1, h2⟩
  · subst h2
    go_enter Try.func24, Try.ntmps24
    go_wp2_with (go_at_call 34; refine HC.out.mono ?_; rintro e w' ⟨rfl, hb1⟩)
    go_ret
    exact ⟨rfl, hB.trans (hb1.mono hB.size)⟩
  · subst h3
    go_enter Try.func24, Try.ntmps24
    go_wp2_with (go_at_call 34; refine HC.out.mono ?_; rintro e w' ⟨rfl, hb1⟩)
    go_ret
    exact ⟨rfl, hB.trans (hb1.mono hB.size)⟩
  · subst h2
    go_enter Try.func24, Try.ntmps24
    go_wp2_with (go_at_call 34; refine HC.out.mono ?_; rintro e w' ⟨rfl, hb1⟩)
    go_ret
    exact ⟨rfl, hB.trans (hb1.mono hB.size)⟩

theorem hasD_at (l : Int) (ps : List Pj) (n : Int) (j : Nat) (A : Option Addr) (c : Nat) (w : World) (hx : Slc 2 RPj w A c ps) (hj : j ≤ ps.length) (hn : (n < 0 ∧ j = 0) ∨ (0 ≤ n ∧ n ≤ ps.length ∧ n = j) ∨ (ps.length < n ∧ j = ps.length)) :
    Calls Try.prog 24 #[.agg #[.int .i64 l, .slice A ps.length c], .int .i64 n] w fun e w' => e = .returned (.bool ((ps.drop j).any isD)) ∧ Below w.heap.size w w' := by
  have hle := hx.le
  have hbig := hx.big
  have hB : Below w.heap.size w (w.alloc (.cells #[.int .i64 l, .slice A ps.length c] 24)) := (Below.refl _ _).alloc (Nat.le_refl _) _
  have hC := der_contains (cutA A c j 2) (c - j) (ps.drop j) _ ((hx.dropN j hj).keep RPj.keeps hB)
  rw [List.length_drop] at hC
  exact hasD_core l ps.length n j A c w _ _ _ _ (by omega) (run_cut (P := Try.prog) 22 46 A ps.length c j 2 Try.underlying22 Try.sizeOf46 hj) (Lib.hid hC) (by omega)

theorem hasD_any (p : Plc) (n : Int) (A : Option Addr) (c : Nat) (w : World) (hx : Slc 2 RPj w A c p.proj) :
    Calls Try.prog 24 #[.agg #[.int .i64 p.loc, .slice A p.proj.length c], .int .i64 n] w fun e w' => e = .returned (.bool (hasD p.proj n)) ∧ Below w.heap.size w w' := by
  unfold hasD
  rcases Int.lt_or_le n 0 with h | h
  · have h0 : n.toNat = 0 := by omega
    rw [h0]
    exact hasD_at p.loc p.proj n 0 A c w hx (by omega) (.inl ⟨h, rfl⟩)
  · by_cases h1 : n ≤ p.proj.length
    · exact hasD_at p.loc p.proj n n.toNat A c w hx (by omega) (.inr (.inl ⟨h, h1, by omega⟩))
    · have h0 : p.proj.drop n.toNat = p.proj.drop p.proj.length := by rw [List.drop_eq_nil_of_le (by omega), List.drop_length]
      rw [h0]
      exact hasD_at p.loc p.proj n p.proj.length A c w hx (by omega) (.inr (.inr ⟨by omega, rfl⟩))

/-- The reference's own way: from index k on. -/
def hasR (n : Int) : Nat → List Pj → Bool
  | _, [] => false
  | k, x :: r => if n ≤ k ∧ x.kind = 0 then true else hasR n (k + 1) r
theorem hasR_eq (n : Int) : ∀ (ps : List Pj) (k : Nat), hasR n k ps = (ps.drop (n - k).toNat).any isD
  | [], k => by simp [hasR]
  | x :: r, k => by
    rw [hasR, hasR_eq n r (k + 1)]
    by_cases h : n ≤ k
    · have h0 : (n - (k : Int)).toNat = 0 := by omega
      have h1 : (n - ((k + 1 : Nat) : Int)).toNat = 0 := by omega
      rw [h0, h1]
      by_cases hx : x.kind = 0
      · simp [h, hx, isD]
      · simp [hx, isD]
    · rw [if_neg (by omega)]
      obtain ⟨m, hm⟩ : ∃ m, (n - (k : Int)).toNat = m + 1 := ⟨(n - (k : Int)).toNat - 1, by omega⟩
      rw [hm, List.drop_succ_cons]
      congr 2
      omega

set_option maxHeartbeats 1000000 in
theorem rhasD_any (p : Plc) (n : Int) (A : Option Addr) (c : Nat) (w : World) (hx : Slc 2 RPj w A c p.proj) :
    Calls Try.prog 25 #[.agg #[.int .i64 p.loc, .slice A p.proj.length c], .int .i64 n] w fun e w' => e = .returned (.bool (hasD p.proj n)) ∧ Below w.heap.size w w' := by
  obtain ⟨hs, hle, hbig⟩ := hx
  have hz : Hid (hasD p.proj n = hasR n 0 (p.proj.drop 0)) := Lib.hid (by rw [hasR_eq, hasD]; simp)
  go_enter Try.func25, Try.ntmps25
  go_wp2
  go_loopw [5] (fun v wr => ∃ k : Nat, k ≤ p.proj.length ∧ v = .int .i64 k ∧ wr.cell? ⟨w.heap.size, 1, none⟩ = some (.slice A p.proj.length c) ∧ Below w.heap.size w wr ∧ Hid (hasD p.proj n = hasR n k (p.proj.drop k))) (fun v _ => p.proj.length - (intOf v).toNat)
  case atStart => exact ⟨0, by omega, rfl, by go_simp, (Below.refl _ _).alloc (Nat.le_refl _) _, hz⟩
  case round =>
    clear hz
    obtain ⟨k, hk, rfl, z1, hB, he⟩ := hrel
    by_cases hlt : k < p.proj.length
    · obtain ⟨b, off, rfl, hb, hr⟩ := hs.at_ hlt
      have hd := Lib.hid (drop_cons hlt)
      generalize p.proj[k] = x at hr hd
      obtain ⟨g1, g2⟩ := RPj.keeps _ _ _ w.heap.size _ _ _ (Nat.le_refl _) hb hB hr
      clear hr hs
      go_wp2
      all_goals
        first
        | (go_ret
           exact ⟨ret_b (by rw [he.out, hd.out, hasR]; grind), hB⟩)
        | (go_roundw
           case rel => exact ⟨k + 1, by omega, by go_num, z1, hB, Lib.hid (by rw [he.out, hd.out, hasR]; grind)⟩
           case measure => simp [intOf]; omega)
    · have hd : p.proj.drop k = [] := List.drop_eq_nil_of_le (by omega)
      have hfin : Hid (hasD p.proj n = false) := Lib.hid (by rw [he.out, hd, hasR])
      clear he hd hs
      go_wp2
      go_ret
      exact ⟨ret_b hfin.out.symm, hB⟩
end Go.Proofs.Ytmfdppgfbgjmcaa
