/-
  Parts of the proof: R0 RTA RTB RT3 RT5 RT4 RD0 N1.
-/
import Derived.Test.YtbnljlpefpllcaaGreatDoorMD8
import Derived.Test.YtbnljlpefpllcaaGreatDoorMD3
import Derived.Test.YtbnljlpefpllcaaGreatDoorMD2
import Derived.Test.YtbnljlpefpllcaaGreatDoorMD7
import Derived.Test.YtbnljlpefpllcaaGreatDoorMD5
namespace Go.Proofs.YtbnljlpefpllcaaGreatDoor
open Go Go.RowKit
theorem items_succ {α : Type} (f : Rs → α × Rs) (n : Nat) (s : Rs) : itemsS f (n + 1) s = if (f s).2.err = 0 then ((f s).1 :: (itemsS f n (f s).2).1, (itemsS f n (f s).2).2) else ([], (f s).2) := rfl
def RRl (w : World) (g : Nat) (s : Rs) : Prop := RRd w g s ∧ s.rest.length ≤ 1000000
theorem RRl.keep {w w' : World} {g : Nat} {s : Rs} (h : RRl w g s) (hb : Below w.heap.size w w') : RRl w' g s := ⟨h.1.keep hb, h.2⟩
theorem RRl.low {w w' : World} {g : Nat} {s : Rs} (h : RRl w g s) (hsz : w.heap.size ≤ w'.heap.size) (hb : ∀ k, k ≤ g → w'.heap[k]? = w.heap[k]?) : RRl w' g s := ⟨h.1.low hsz hb, h.2⟩
theorem RRl.err {w : World} {g : Nat} {s : Rs} (h : RRl w g s) : w.cell? ⟨g, 1, none⟩ = some (.int .i64 s.err) := h.1.err
theorem RRl.lt {w : World} {g : Nat} {s : Rs} (h : RRl w g s) : g < w.heap.size := by
  obtain ⟨A, c, hg, _⟩ := h.1
  exact (Array.getElem?_eq_some_iff.1 hg).1
theorem shr_uint (most : Nat) (s : Rs) : (uintS most s).2.rest.length ≤ s.rest.length := by
  unfold uintS
  split
  · split
    · split
      · simp
      · simp only [List.length_drop]; omega
    · simp
  · exact Nat.le_refl _
theorem shr_count (most : Nat) (s : Rs) : (countS most s).2.rest.length ≤ s.rest.length := by
  unfold countS
  split
  · split
    · split
      · simp
      · split
        · simp
        · simp only [List.length_drop]; omega
    · simp
  · exact Nat.le_refl _
theorem shr_byte (s : Rs) : (byteS s).2.rest.length ≤ s.rest.length := by
  unfold byteS
  split
  · split
    · simp
    · rename_i h; rw [h]; simp
  · exact Nat.le_refl _
theorem shr_name (t : List ByteArray) (s : Rs) : (nameS t s).2.rest.length ≤ s.rest.length := by
  have := shr_uint 65535 s
  unfold nameS
  split
  · split
    · exact this
    · simp
  · exact this
theorem shr_failS (e : Int) (s : Rs) : (failS e s).rest.length ≤ s.rest.length := by
  unfold failS
  split
  · simp
  · exact Nat.le_refl _
theorem rlnum (g : Nat) (s : Rs) (w : World) (hr : RRl w g s) :
    Calls Tryz.prog 54 #[.pointer (some ⟨g, 0, none⟩)] w fun e' w' => e' = .returned (.int .i64 (numS s).1) ∧ RRl w' g (numS s).2 ∧ But g w w' :=
  (rnum_any g s w hr.1 hr.2).mono (fun e w' h => ⟨h.1, ⟨h.2.1, Nat.le_trans (shr_uint 65535 s) hr.2⟩, h.2.2⟩)
theorem rlname (g : Nat) (s : Rs) (tbl : List ByteArray) (A : Option Addr) (c : Nat) (w : World) (hr : RRl w g s) (ht : Slc 1 RN w A c tbl) (hne : ∀ a, A = some a → a.block ≠ g) :
    Calls Tryz.prog 52 #[.pointer (some ⟨g, 0, none⟩), .slice A tbl.length c] w fun e' w' => e' = .returned (.string (nameS tbl s).1) ∧ RRl w' g (nameS tbl s).2 ∧ But g w w' :=
  (rname_any g s tbl A c w hr.1 hr.2 ht hne).mono (fun e w' h => ⟨h.1, ⟨h.2.1, Nat.le_trans (shr_name tbl s) hr.2⟩, h.2.2⟩)
theorem rlcount (g : Nat) (s : Rs) (w : World) (hr : RRl w g s) :
    Calls Tryz.prog 53 #[.pointer (some ⟨g, 0, none⟩), .int .i64 65535] w fun e' w' => e' = .returned (.int .i64 (countS 65535 s).1) ∧ RRl w' g (countS 65535 s).2 ∧ But g w w' :=
  (rcount_any g s w hr.1 hr.2).mono (fun e w' h => ⟨h.1, ⟨h.2.1, Nat.le_trans (shr_count 65535 s) hr.2⟩, h.2.2⟩)
theorem rlbyte (g : Nat) (s : Rs) (w : World) (hr : RRl w g s) :
    Calls Tryz.prog 98 #[.pointer (some ⟨g, 0, none⟩)] w fun e' w' => e' = .returned (.int .u8 (byteS s).1) ∧ RRl w' g (byteS s).2 ∧ But g w w' :=
  (rbyte_any g s w hr.1 hr.2).mono (fun e w' h => ⟨h.1, ⟨h.2.1, Nat.le_trans (shr_byte s) hr.2⟩, h.2.2⟩)
theorem rlFail (g : Nat) (s : Rs) (e : Int) (he : e ≠ 0) (w : World) (hr : RRl w g s) :
    Calls Tryz.prog 95 #[.pointer (some ⟨g, 0, none⟩), .int .i64 e] w fun e' w' => e' = .returned (.tuple #[]) ∧ RRl w' g (failS e s) ∧ But g w w' :=
  (rFail_any g s e he w hr.1).mono (fun e w' h => ⟨h.1, ⟨h.2.1, Nat.le_trans (shr_failS _ s) hr.2⟩, h.2.2⟩)
/-- What the reference's readType leaves. -/
def RTypePost (g : Nat) (w : World) (Q : Ty × Rs) (e' : Ending) (w' : World) : Prop :=
  ∃ y : TH, e' = .returned (.agg #[.int .i64 y.t.kind, .bool y.t.mu, .int .i64 y.t.reg, .int .i64 y.t.elem, .slice y.A y.t.flds.length y.c]) ∧ RRl w' g Q.2 ∧ But g w w' ∧
    (Q.2.err = 0 → y.t = Q.1 ∧ w'.ownsRow w.heap.size 3 1 (.slice y.A y.t.flds.length y.c) y.t.flds.length (y.t.flds.map (Value.int .i64)))
theorem set5_rrl {g k : Nat} {w : World} {s : Rs} (a b c d e : Value) (h : RRl w g s) (hk : g < k) : RRl (set5 w k a b c d e) g s :=
  h.low (by rw [set5_size]; exact Nat.le_refl _) (fun j hj => set5_far _ _ _ _ _ (by omega))
theorem rrl_put {g k i : Nat} {X : World} {s : Rs} {v : Value} (h : RRl X g s) (hk : g < k) : RRl (X.setCell ⟨k, i, none⟩ v) g s :=
  h.low (by simp) (fun j hj => Below.heap_setCell _ _ _ j (by simp; omega))
/-- The result lies in its block: the call ends. -/
theorem rtype_fin {g : Nat} {w W w1 : World} {Q : Ty × Rs} {q1 q2 q3 q4 q5 : Value} {fn : Func} {a : Act} (y : TH) (hk : w1.heap[w.heap.size]? = some (.cells #[q1, q2, q3, q4, q5] 83 (0, 0))) (hb : Below w.heap.size w W) (h1 : But g W w1) (hr : RRl w1 g Q.2) (hgl : g < w.heap.size)
    (hd : a.defers = [])
    (hres : ∀ W3 : World, W3.heap[w.heap.size]? = some (.cells #[.int .i64 y.t.kind, .bool y.t.mu, .int .i64 y.t.reg, .int .i64 y.t.elem, .slice y.A y.t.flds.length y.c] 83 (0, 0)) → (results fn a.tmps).run Tryz.prog W3 = .ok (.agg #[.int .i64 y.t.kind, .bool y.t.mu, .int .i64 y.t.reg, .int .i64 y.t.elem, .slice y.A y.t.flds.length y.c]) W3)
    (hy : Q.2.err = 0 → y.t = Q.1 ∧ w1.ownsRow w.heap.size 3 1 (.slice y.A y.t.flds.length y.c) y.t.flds.length (y.t.flds.map (Value.int .i64))) :
    bodyPost Tryz.prog fn (RTypePost g w Q) .ret a (set5 w1 w.heap.size (.int .i64 y.t.kind) (.bool y.t.mu) (.int .i64 y.t.reg) (.int .i64 y.t.elem) (.slice y.A y.t.flds.length y.c)) := by
  have n : (set5 w1 w.heap.size (.int .i64 y.t.kind) (.bool y.t.mu) (.int .i64 y.t.reg) (.int .i64 y.t.elem) (.slice y.A y.t.flds.length y.c)).heap[w.heap.size]? = _ := blk5_set _ _ _ _ _ hk
  refine bodyPost_ret (hres _ n) hd ⟨y, rfl, set5_rrl _ _ _ _ _ hr hgl, set5_but _ _ _ _ _ ((But.of_below (g := g) hb).trans h1) (Nat.le_refl _), fun h0 => ⟨(hy h0).1, ?_⟩⟩
  refine own_block (hy h0).2 (fun k _ _ hkv => set5_far _ _ _ _ _ (fun e => ?_))
  rw [e] at hkv
  exact own_ne (hy h0).2 hk (by decide) hkv
end Go.Proofs.YtbnljlpefpllcaaGreatDoor
namespace Go.Proofs.YtbnljlpefpllcaaGreatDoor
open Go Go.RowKit
set_option maxRecDepth 100000 in
set_option maxHeartbeats 4000000 in
theorem rtypes_plain (g : Nat) (s : Rs) (w : World) (hr : RRl w g s) (hp : (byteS s).2.err ≠ 0 ∨ (byteS s).1 ≤ 2) : Calls Tryz.prog 55 #[.pointer (some ⟨g, 0, none⟩)] w (RTypePost g w (typeS s)) := by
  have HQ : Hid (typeS s = (⟨(byteS s).1, false, 0, 0, []⟩, (byteS s).2)) := Lib.hid (by
    unfold typeS
    by_cases he : (byteS s).2.err = 0
    · rw [if_pos he]
      have h2 : (byteS s).1 ≤ 2 := by
        rcases hp with hp | hp
        · exact absurd he hp
        · exact hp
      rw [if_neg (by omega), if_neg (by omega), if_neg (by omega)]
    · rw [if_neg he, byte_zero s he]
      rfl)
  have hb2 : (byteS s).1 ≤ 2 := by
    rcases hp with hp | hp
    · rw [byte_zero s hp]; omega
    · exact hp
  have hgl := hr.lt
  obtain ⟨W, hW⟩ : ∃ W, w.alloc (.cells #[.int .i64 0, .bool false, .int .i64 0, .int .i64 0, .slice none 0 0] 83) = W := ⟨_, rfl⟩
  have hb : Below w.heap.size w W := by rw [← hW]; exact (Below.refl _ _).alloc (Nat.le_refl _) _
  have hk : W.heap[w.heap.size]? = some (.cells #[.int .i64 0, .bool false, .int .i64 0, .int .i64 0, .slice none 0 0] 83 (0, 0)) := by rw [← hW]; exact heap_alloc_new w _
  have hWs : W.heap.size = w.heap.size + 1 := by rw [← hW]; simp
  have HB := Lib.hid (rlbyte g s W (hr.keep hb))
  have HK := Lib.hid hk
  have HW := Lib.hid hb
  clear hr hk hb
  generalize typeS s = Q at *
  generalize byteS s = R at *
  obtain ⟨b, s1⟩ := R
  simp only at HB HQ hb2
  clear hp
  have e3 : ((b : Int) == 3) = false := beq_false_of_ne (by omega)
  have e4 : ((b : Int) == 4) = false := beq_false_of_ne (by omega)
  have e5 : ((b : Int) == 5) = false := beq_false_of_ne (by omega)
  have ew : IntKind.i64.wrap (b : Int) = (b : Int) := by rw [IntKind.wrap_i64]; omega
  go_enter Tryz.func55, Tryz.ntmps55
  go_wp2_with fail
  go_at_call 98
  refine HB.out.mono ?_
  rintro e' w1 ⟨rfl, hr1, hb1⟩
  have hs1 := hb1.size
  obtain ⟨A2, hA2⟩ : ∃ A2, w1.alloc (.cells #[.int .i64 0, .bool false, .int .i64 0, .int .i64 0, .slice none 0 0] 83) = A2 := ⟨_, rfl⟩
  have hbA : Below w1.heap.size w1 A2 := by rw [← hA2]; exact (Below.refl _ _).alloc (Nat.le_refl _) _
  have hkA : A2.heap[w1.heap.size]? = some (.cells #[.int .i64 0, .bool false, .int .i64 0, .int .i64 0, .slice none 0 0] 83 (0, 0)) := by rw [← hA2]; exact heap_alloc_new w1 _
  obtain ⟨W3, hW3⟩ : ∃ W3, set5 A2 w1.heap.size (.int .i64 (b : Int)) (.bool false) (.int .i64 0) (.int .i64 0) (.slice none 0 0) = W3 := ⟨_, rfl⟩
  have hk3 : W3.heap[w1.heap.size]? = some (.cells #[.int .i64 (b : Int), .bool false, .int .i64 0, .int .i64 0, .slice none 0 0] 83 (0, 0)) := by rw [← hW3]; exact blk5_set _ _ _ _ _ hkA
  have hb3 : But g W W3 := by rw [← hW3]; exact set5_but _ _ _ _ _ (hb1.trans (But.of_below hbA)) (by omega)
  have hr3 : RRl W3 g s1 := by rw [← hW3]; exact set5_rrl _ _ _ _ _ (hr1.keep hbA) (by omega)
  have hW3s : W3.heap.size = w1.heap.size + 1 := by rw [← hW3, set5_size, ← hA2]; simp
  have hk03 := hb3.blk HK.out (by omega)
  obtain ⟨a0, a1, a2, a3, a4, a5⟩ := blk5 hkA
  have a5a := a5 0
  have a5b := a5 1
  have a5c := a5 2
  have a5d := a5 3
  have a5e := a5 4
  obtain ⟨c0, c1, c2, c3, c4, c5⟩ := blk5 hk3
  have c5a := c5 0
  have c5b := c5 1
  have c5c := c5 2
  have c5d := c5 3
  have c5e := c5 4
  obtain ⟨d0, d1, d2, d3, d4, d5⟩ := blk5 hk03
  have d5a := d5 0
  have d5b := d5 1
  have d5c := d5 2
  have d5d := d5 3
  have d5e := d5 4
  have HR3 := Lib.hid hr3
  have HB3 := Lib.hid hb3
  have HK3 := Lib.hid hk3
  have HK03 := Lib.hid hk03
  have hne : w1.heap.size ≠ w.heap.size := by omega
  have hne' := hne.symm
  unfold set5 at hW3
  clear hbA hkA hr3 hb3 hk3 hk03 a5 c5 d5
  clear hr1 hb1
  go_wp2_with fail
  refine rtype_fin (Q := Q) ⟨⟨b, false, 0, 0, []⟩, none, 0⟩ HK03.out HW.out HB3.out (by rw [HQ.out]; exact HR3.out) hgl rfl (fun W5 n => ?_) (fun h0 => ?_)
  · obtain ⟨u0, u1, u2, u3, u4, _⟩ := blk5 n
    simp [results, Tryz.results55, go_sem, u0, u1, u2, u3, u4] <;> rfl
  · exact ⟨by rw [HQ.out], World.ownsRow_nil _ _ _ _⟩
end Go.Proofs.YtbnljlpefpllcaaGreatDoor
namespace Go.Proofs.YtbnljlpefpllcaaGreatDoor
open Go Go.RowKit
set_option maxRecDepth 100000 in
set_option maxHeartbeats 4000000 in
theorem rtypes_bad (g : Nat) (s : Rs) (w : World) (hr : RRl w g s) (he : (byteS s).2.err = 0) (htag : 5 < (byteS s).1) : Calls Tryz.prog 55 #[.pointer (some ⟨g, 0, none⟩)] w (RTypePost g w (typeS s)) := by
  have HQ : Hid (typeS s = (⟨0, false, 0, 0, []⟩, ⟨[], 14⟩)) := Lib.hid (by
    unfold typeS
    rw [if_pos he, if_neg (by omega), if_neg (by omega), if_pos htag])
  have hb8 : (byteS s).1 < 256 := by
    unfold byteS
    split
    · split
      · show 0 < 256
        omega
      · exact UInt8.toNat_lt _
    · show 0 < 256
      omega
  have hgl := hr.lt
  obtain ⟨W, hW⟩ : ∃ W, w.alloc (.cells #[.int .i64 0, .bool false, .int .i64 0, .int .i64 0, .slice none 0 0] 83) = W := ⟨_, rfl⟩
  have hb : Below w.heap.size w W := by rw [← hW]; exact (Below.refl _ _).alloc (Nat.le_refl _) _
  have hk : W.heap[w.heap.size]? = some (.cells #[.int .i64 0, .bool false, .int .i64 0, .int .i64 0, .slice none 0 0] 83 (0, 0)) := by rw [← hW]; exact heap_alloc_new w _
  have hWs : W.heap.size = w.heap.size + 1 := by rw [← hW]; simp
  have HB := Lib.hid (rlbyte g s W (hr.keep hb))
  have HK := Lib.hid hk
  have HW := Lib.hid hb
  clear hr hk hb
  have HN1 := Lib.hid (fun w1 (hr : RRl w1 g (byteS s).2) => rlFail g _ 14 (by omega) w1 hr)
  generalize typeS s = Q at *
  generalize byteS s = R at *
  obtain ⟨b, s1⟩ := R
  have HF : Hid (failS 14 s1 = ⟨[], 14⟩) := Lib.hid (by unfold failS; rw [if_pos he])
  simp only at HB HQ HN1 he htag hb8
  have e3 : ((b : Int) == 3) = false := beq_false_of_ne (by omega)
  have e4 : ((b : Int) == 4) = false := beq_false_of_ne (by omega)
  have e5 : ((b : Int) == 5) = false := beq_false_of_ne (by omega)
  have ew : IntKind.i64.wrap (b : Int) = (b : Int) := by rw [IntKind.wrap_i64]; omega
  go_enter Tryz.func55, Tryz.ntmps55
  go_wp2_with fail
  go_at_call 98
  refine HB.out.mono ?_
  rintro e' w1 ⟨rfl, hr1, hb1⟩
  have hs1 := hb1.size
  have HR1 := Lib.hid hr1
  have HB1 := Lib.hid hb1
  clear hr1 hb1
  go_wp2_with fail
  go_at_call 95
  refine (HN1.out w1 HR1.out).mono ?_
  rintro e' w2 ⟨rfl, hr2, hb2⟩
  rw [HF.out] at hr2
  have hb2 := HB1.out.trans hb2
  have hs2 := hb2.size
  obtain ⟨A2, hA2⟩ : ∃ A2, w2.alloc (.cells #[.int .i64 0, .bool false, .int .i64 0, .int .i64 0, .slice none 0 0] 83) = A2 := ⟨_, rfl⟩
  have hbA : Below w2.heap.size w2 A2 := by rw [← hA2]; exact (Below.refl _ _).alloc (Nat.le_refl _) _
  have hkA : A2.heap[w2.heap.size]? = some (.cells #[.int .i64 0, .bool false, .int .i64 0, .int .i64 0, .slice none 0 0] 83 (0, 0)) := by rw [← hA2]; exact heap_alloc_new w2 _
  obtain ⟨W3, hW3⟩ : ∃ W3, set5 A2 w2.heap.size (.int .i64 (b : Int)) (.bool false) (.int .i64 0) (.int .i64 0) (.slice none 0 0) = W3 := ⟨_, rfl⟩
  have hk3 : W3.heap[w2.heap.size]? = some (.cells #[.int .i64 (b : Int), .bool false, .int .i64 0, .int .i64 0, .slice none 0 0] 83 (0, 0)) := by rw [← hW3]; exact blk5_set _ _ _ _ _ hkA
  have hb3 : But g W W3 := by rw [← hW3]; exact set5_but _ _ _ _ _ (hb2.trans (But.of_below hbA)) (by omega)
  have hr3 : RRl W3 g ⟨[], 14⟩ := by rw [← hW3]; exact set5_rrl _ _ _ _ _ (hr2.keep hbA) (by omega)
  have hW3s : W3.heap.size = w2.heap.size + 1 := by rw [← hW3, set5_size, ← hA2]; simp
  have hk03 := hb3.blk HK.out (by omega)
  obtain ⟨a0, a1, a2, a3, a4, a5⟩ := blk5 hkA
  have a5a := a5 0
  have a5b := a5 1
  have a5c := a5 2
  have a5d := a5 3
  have a5e := a5 4
  obtain ⟨c0, c1, c2, c3, c4, c5⟩ := blk5 hk3
  have c5a := c5 0
  have c5b := c5 1
  have c5c := c5 2
  have c5d := c5 3
  have c5e := c5 4
  obtain ⟨d0, d1, d2, d3, d4, d5⟩ := blk5 hk03
  have d5a := d5 0
  have d5b := d5 1
  have d5c := d5 2
  have d5d := d5 3
  have d5e := d5 4
  have HR3 := Lib.hid hr3
  have HB3 := Lib.hid hb3
  have HK3 := Lib.hid hk3
  have HK03 := Lib.hid hk03
  have hne : w2.heap.size ≠ w.heap.size := by omega
  have hne' := hne.symm
  unfold set5 at hW3
  clear hbA hkA hr3 hb3 hk3 hk03 a5 c5 d5
  clear hr2 hb2
  go_wp2_with fail
  refine rtype_fin (Q := Q) ⟨⟨b, false, 0, 0, []⟩, none, 0⟩ HK03.out HW.out HB3.out (by rw [HQ.out]; exact HR3.out) hgl rfl (fun W5 n => ?_) (fun h0 => ?_)
  · obtain ⟨u0, u1, u2, u3, u4, _⟩ := blk5 n
    simp [results, Tryz.results55, go_sem, u0, u1, u2, u3, u4] <;> rfl
  · rw [HQ.out] at h0; cases h0
end Go.Proofs.YtbnljlpefpllcaaGreatDoor
namespace Go.Proofs.YtbnljlpefpllcaaGreatDoor
open Go Go.RowKit
set_option maxRecDepth 100000 in
set_option maxHeartbeats 4000000 in
theorem rtypes_3 (g : Nat) (s : Rs) (w : World) (hr : RRl w g s) (he : (byteS s).2.err = 0) (htag : (byteS s).1 = 3) : Calls Tryz.prog 55 #[.pointer (some ⟨g, 0, none⟩)] w (RTypePost g w (typeS s)) := by
  have HQ : Hid (typeS s = (⟨3, false, (numS (byteS s).2).1, (numS (numS (byteS s).2).2).1, []⟩, (numS (numS (byteS s).2).2).2)) := Lib.hid (by
    unfold typeS
    rw [if_pos he, if_pos (by omega), htag]
    rfl)
  have hgl := hr.lt
  obtain ⟨W, hW⟩ : ∃ W, w.alloc (.cells #[.int .i64 0, .bool false, .int .i64 0, .int .i64 0, .slice none 0 0] 83) = W := ⟨_, rfl⟩
  have hb : Below w.heap.size w W := by rw [← hW]; exact (Below.refl _ _).alloc (Nat.le_refl _) _
  have hk : W.heap[w.heap.size]? = some (.cells #[.int .i64 0, .bool false, .int .i64 0, .int .i64 0, .slice none 0 0] 83 (0, 0)) := by rw [← hW]; exact heap_alloc_new w _
  have hWs : W.heap.size = w.heap.size + 1 := by rw [← hW]; simp
  have HB := Lib.hid (rlbyte g s W (hr.keep hb))
  have HK := Lib.hid hk
  have HW := Lib.hid hb
  clear hr hk hb
  have HN1 := Lib.hid (fun w1 (hr : RRl w1 g (byteS s).2) => rlnum g _ w1 hr)
  have HN2 := Lib.hid (fun w1 (hr : RRl w1 g (numS (byteS s).2).2) => rlnum g _ w1 hr)
  generalize typeS s = Q at *
  generalize (numS (numS (byteS s).2).2).1 = el at *
  generalize (numS (numS (byteS s).2).2).2 = s3 at *
  generalize numS (byteS s).2 = R2 at *
  obtain ⟨rg, s2⟩ := R2
  generalize byteS s = R at *
  obtain ⟨b, s1⟩ := R
  simp only at HB HQ HN1 HN2 he htag
  subst htag
  go_enter Tryz.func55, Tryz.ntmps55
  go_wp2_with fail
  go_at_call 98
  refine HB.out.mono ?_
  rintro e' w1 ⟨rfl, hr1, hb1⟩
  have hs1 := hb1.size
  obtain ⟨A2, hA2⟩ : ∃ A2, w1.alloc (.cells #[.int .i64 0, .bool false, .int .i64 0, .int .i64 0, .slice none 0 0] 83) = A2 := ⟨_, rfl⟩
  have hbA : Below w1.heap.size w1 A2 := by rw [← hA2]; exact (Below.refl _ _).alloc (Nat.le_refl _) _
  have hkA : A2.heap[w1.heap.size]? = some (.cells #[.int .i64 0, .bool false, .int .i64 0, .int .i64 0, .slice none 0 0] 83 (0, 0)) := by rw [← hA2]; exact heap_alloc_new w1 _
  obtain ⟨W3, hW3⟩ : ∃ W3, set5 A2 w1.heap.size (.int .i64 3) (.bool false) (.int .i64 0) (.int .i64 0) (.slice none 0 0) = W3 := ⟨_, rfl⟩
  have hk3 : W3.heap[w1.heap.size]? = some (.cells #[.int .i64 3, .bool false, .int .i64 0, .int .i64 0, .slice none 0 0] 83 (0, 0)) := by rw [← hW3]; exact blk5_set _ _ _ _ _ hkA
  have hb3 : But g W W3 := by rw [← hW3]; exact set5_but _ _ _ _ _ (hb1.trans (But.of_below hbA)) (by omega)
  have hr3 : RRl W3 g s1 := by rw [← hW3]; exact set5_rrl _ _ _ _ _ (hr1.keep hbA) (by omega)
  have hW3s : W3.heap.size = w1.heap.size + 1 := by rw [← hW3, set5_size, ← hA2]; simp
  have hk03 := hb3.blk HK.out (by omega)
  obtain ⟨a0, a1, a2, a3, a4, a5⟩ := blk5 hkA
  have a5a := a5 0
  have a5b := a5 1
  have a5c := a5 2
  have a5d := a5 3
  have a5e := a5 4
  obtain ⟨c0, c1, c2, c3, c4, c5⟩ := blk5 hk3
  have c5a := c5 0
  have c5b := c5 1
  have c5c := c5 2
  have c5d := c5 3
  have c5e := c5 4
  obtain ⟨d0, d1, d2, d3, d4, d5⟩ := blk5 hk03
  have d5a := d5 0
  have d5b := d5 1
  have d5c := d5 2
  have d5d := d5 3
  have d5e := d5 4
  have HR3 := Lib.hid hr3
  have HB3 := Lib.hid hb3
  have HK3 := Lib.hid hk3
  have HK03 := Lib.hid hk03
  have hne : w1.heap.size ≠ w.heap.size := by omega
  have hne' := hne.symm
  unfold set5 at hW3
  clear hbA hkA hr3 hb3 hk3 hk03 a5 c5 d5
  clear hr1 hb1
  go_wp2_with fail
  go_at_call 54
  refine (HN1.out W3 HR3.out).mono ?_
  rintro e' w4 ⟨rfl, hr4, hb4⟩
  have hk4 := hb4.blk HK3.out (by omega)
  have hb4 := HB3.out.trans hb4
  have hs4 := hb4.size
  have hw4 : w1.heap.size < w4.heap.size := (Array.getElem?_eq_some_iff.1 hk4).1
  obtain ⟨W5, hW5⟩ : ∃ W5, set5 w4 w1.heap.size (.int .i64 3) (.bool false) (.int .i64 rg) (.int .i64 0) (.slice none 0 0) = W5 := ⟨_, rfl⟩
  have hk5 : W5.heap[w1.heap.size]? = some (.cells #[.int .i64 3, .bool false, .int .i64 rg, .int .i64 0, .slice none 0 0] 83 (0, 0)) := by rw [← hW5]; exact blk5_set _ _ _ _ _ hk4
  have hb5 : But g W W5 := by rw [← hW5]; exact set5_but _ _ _ _ _ hb4 (by omega)
  have hr5 : RRl W5 g s2 := by rw [← hW5]; exact set5_rrl _ _ _ _ _ hr4 (by omega)
  clear a0 a1 a2 a3 a4 a5a a5b a5c a5d a5e c0 c1 c2 c3 c4 c5a c5b c5c c5d c5e d0 d1 d2 d3 d4 d5a d5b d5c d5d d5e hW3 hA2
  obtain ⟨a0, a1, a2, a3, a4, a5⟩ := blk5 hk4
  have a5a := a5 0
  have a5b := a5 1
  have a5c := a5 2
  have a5d := a5 3
  have a5e := a5 4
  have HR5 := Lib.hid hr5
  have HB5 := Lib.hid hb5
  have HK5 := Lib.hid hk5
  unfold set5 at hW5
  clear hr4 hb4 hk4 hr5 hb5 hk5 a5
  go_wp2_with fail
  go_at_call 54
  refine (HN2.out W5 HR5.out).mono ?_
  rintro e' w6 ⟨rfl, hr6, hb6⟩
  have hk6 := hb6.blk HK5.out (by omega)
  have hb6 := HB5.out.trans hb6
  have hk06 := hb6.blk HK.out (by omega)
  clear a0 a1 a2 a3 a4 a5a a5b a5c a5d a5e hW5
  obtain ⟨c0, c1, c2, c3, c4, c5⟩ := blk5 hk6
  have c5d := c5 3
  obtain ⟨d0, d1, d2, d3, d4, d5⟩ := blk5 hk06
  have d5a := d5 0
  have d5b := d5 1
  have d5c := d5 2
  have d5d := d5 3
  have d5e := d5 4
  have HR6 := Lib.hid hr6
  have HB6 := Lib.hid hb6
  have HK06 := Lib.hid hk06
  clear hr6 hb6 hk6 hk06 c5 d5
  go_wp2_with fail
  have hkk := set_far (p := ⟨w1.heap.size, 3, none⟩) (.int .i64 el) HK06.out hne'
  refine rtype_fin (Q := Q) ⟨⟨3, false, rg, el, []⟩, none, 0⟩ hkk HW.out (but_far HB6.out hs1 3 (.int .i64 el)) (by rw [HQ.out]; exact rrl_put HR6.out (by omega)) hgl rfl (fun W5 n => ?_) (fun h0 => ?_)
  · obtain ⟨u0, u1, u2, u3, u4, _⟩ := blk5 n
    simp [results, Tryz.results55, go_sem, u0, u1, u2, u3, u4] <;> rfl
  · exact ⟨by rw [HQ.out], World.ownsRow_nil _ _ _ _⟩
end Go.Proofs.YtbnljlpefpllcaaGreatDoor
namespace Go.Proofs.YtbnljlpefpllcaaGreatDoor
open Go Go.RowKit
set_option maxRecDepth 100000 in
set_option maxHeartbeats 4000000 in
theorem rtypes_5 (g : Nat) (s : Rs) (w : World) (hr : RRl w g s) (he : (byteS s).2.err = 0) (htag : (byteS s).1 = 5) : Calls Tryz.prog 55 #[.pointer (some ⟨g, 0, none⟩)] w (RTypePost g w (typeS s)) := by
  have HQ : Hid (typeS s = (⟨3, true, (numS (byteS s).2).1, (numS (numS (byteS s).2).2).1, []⟩, (numS (numS (byteS s).2).2).2)) := Lib.hid (by
    unfold typeS
    rw [if_pos he, if_pos (by omega), htag]
    rfl)
  have hgl := hr.lt
  obtain ⟨W, hW⟩ : ∃ W, w.alloc (.cells #[.int .i64 0, .bool false, .int .i64 0, .int .i64 0, .slice none 0 0] 83) = W := ⟨_, rfl⟩
  have hb : Below w.heap.size w W := by rw [← hW]; exact (Below.refl _ _).alloc (Nat.le_refl _) _
  have hk : W.heap[w.heap.size]? = some (.cells #[.int .i64 0, .bool false, .int .i64 0, .int .i64 0, .slice none 0 0] 83 (0, 0)) := by rw [← hW]; exact heap_alloc_new w _
  have hWs : W.heap.size = w.heap.size + 1 := by rw [← hW]; simp
  have HB := Lib.hid (rlbyte g s W (hr.keep hb))
  have HK := Lib.hid hk
  have HW := Lib.hid hb
  clear hr hk hb
  have HN1 := Lib.hid (fun w1 (hr : RRl w1 g (byteS s).2) => rlnum g _ w1 hr)
  have HN2 := Lib.hid (fun w1 (hr : RRl w1 g (numS (byteS s).2).2) => rlnum g _ w1 hr)
  generalize typeS s = Q at *
  generalize (numS (numS (byteS s).2).2).1 = el at *
  generalize (numS (numS (byteS s).2).2).2 = s3 at *
  generalize numS (byteS s).2 = R2 at *
  obtain ⟨rg, s2⟩ := R2
  generalize byteS s = R at *
  obtain ⟨b, s1⟩ := R
  simp only at HB HQ HN1 HN2 he htag
  subst htag
  go_enter Tryz.func55, Tryz.ntmps55
  go_wp2_with fail
  go_at_call 98
  refine HB.out.mono ?_
  rintro e' w1 ⟨rfl, hr1, hb1⟩
  have hs1 := hb1.size
  obtain ⟨A2, hA2⟩ : ∃ A2, w1.alloc (.cells #[.int .i64 0, .bool false, .int .i64 0, .int .i64 0, .slice none 0 0] 83) = A2 := ⟨_, rfl⟩
  have hbA : Below w1.heap.size w1 A2 := by rw [← hA2]; exact (Below.refl _ _).alloc (Nat.le_refl _) _
  have hkA : A2.heap[w1.heap.size]? = some (.cells #[.int .i64 0, .bool false, .int .i64 0, .int .i64 0, .slice none 0 0] 83 (0, 0)) := by rw [← hA2]; exact heap_alloc_new w1 _
  obtain ⟨W3, hW3⟩ : ∃ W3, set5 A2 w1.heap.size (.int .i64 5) (.bool false) (.int .i64 0) (.int .i64 0) (.slice none 0 0) = W3 := ⟨_, rfl⟩
  have hk3 : W3.heap[w1.heap.size]? = some (.cells #[.int .i64 5, .bool false, .int .i64 0, .int .i64 0, .slice none 0 0] 83 (0, 0)) := by rw [← hW3]; exact blk5_set _ _ _ _ _ hkA
  have hb3 : But g W W3 := by rw [← hW3]; exact set5_but _ _ _ _ _ (hb1.trans (But.of_below hbA)) (by omega)
  have hr3 : RRl W3 g s1 := by rw [← hW3]; exact set5_rrl _ _ _ _ _ (hr1.keep hbA) (by omega)
  have hW3s : W3.heap.size = w1.heap.size + 1 := by rw [← hW3, set5_size, ← hA2]; simp
  have hk03 := hb3.blk HK.out (by omega)
  obtain ⟨a0, a1, a2, a3, a4, a5⟩ := blk5 hkA
  have a5a := a5 0
  have a5b := a5 1
  have a5c := a5 2
  have a5d := a5 3
  have a5e := a5 4
  obtain ⟨c0, c1, c2, c3, c4, c5⟩ := blk5 hk3
  have c5a := c5 0
  have c5b := c5 1
  have c5c := c5 2
  have c5d := c5 3
  have c5e := c5 4
  obtain ⟨d0, d1, d2, d3, d4, d5⟩ := blk5 hk03
  have d5a := d5 0
  have d5b := d5 1
  have d5c := d5 2
  have d5d := d5 3
  have d5e := d5 4
  have HR3 := Lib.hid hr3
  have HB3 := Lib.hid hb3
  have HK3 := Lib.hid hk3
  have HK03 := Lib.hid hk03
  have hne : w1.heap.size ≠ w.heap.size := by omega
  have hne' := hne.symm
  unfold set5 at hW3
  clear hbA hkA hr3 hb3 hk3 hk03 a5 c5 d5
  clear hr1 hb1
  go_wp2_with fail
  go_at_call 54
  refine (HN1.out W3 HR3.out).mono ?_
  rintro e' w4 ⟨rfl, hr4, hb4⟩
  have hk4 := hb4.blk HK3.out (by omega)
  have hb4 := HB3.out.trans hb4
  have hs4 := hb4.size
  have hw4 : w1.heap.size < w4.heap.size := (Array.getElem?_eq_some_iff.1 hk4).1
  obtain ⟨W5, hW5⟩ : ∃ W5, set5 w4 w1.heap.size (.int .i64 3) (.bool true) (.int .i64 rg) (.int .i64 0) (.slice none 0 0) = W5 := ⟨_, rfl⟩
  have hk5 : W5.heap[w1.heap.size]? = some (.cells #[.int .i64 3, .bool true, .int .i64 rg, .int .i64 0, .slice none 0 0] 83 (0, 0)) := by rw [← hW5]; exact blk5_set _ _ _ _ _ hk4
  have hb5 : But g W W5 := by rw [← hW5]; exact set5_but _ _ _ _ _ hb4 (by omega)
  have hr5 : RRl W5 g s2 := by rw [← hW5]; exact set5_rrl _ _ _ _ _ hr4 (by omega)
  clear a0 a1 a2 a3 a4 a5a a5b a5c a5d a5e c0 c1 c2 c3 c4 c5a c5b c5c c5d c5e d0 d1 d2 d3 d4 d5a d5b d5c d5d d5e hW3 hA2
  obtain ⟨a0, a1, a2, a3, a4, a5⟩ := blk5 hk4
  have a5a := a5 0
  have a5b := a5 1
  have a5c := a5 2
  have a5d := a5 3
  have a5e := a5 4
  have HR5 := Lib.hid hr5
  have HB5 := Lib.hid hb5
  have HK5 := Lib.hid hk5
  unfold set5 at hW5
  clear hr4 hb4 hk4 hr5 hb5 hk5 a5
  go_wp2_with fail
  go_at_call 54
  refine (HN2.out W5 HR5.out).mono ?_
  rintro e' w6 ⟨rfl, hr6, hb6⟩
  have hk6 := hb6.blk HK5.out (by omega)
  have hb6 := HB5.out.trans hb6
  have hk06 := hb6.blk HK.out (by omega)
  clear a0 a1 a2 a3 a4 a5a a5b a5c a5d a5e hW5
  obtain ⟨c0, c1, c2, c3, c4, c5⟩ := blk5 hk6
  have c5d := c5 3
  obtain ⟨d0, d1, d2, d3, d4, d5⟩ := blk5 hk06
  have d5a := d5 0
  have d5b := d5 1
  have d5c := d5 2
  have d5d := d5 3
  have d5e := d5 4
  have HR6 := Lib.hid hr6
  have HB6 := Lib.hid hb6
  have HK06 := Lib.hid hk06
  clear hr6 hb6 hk6 hk06 c5 d5
  go_wp2_with fail
  have hkk := set_far (p := ⟨w1.heap.size, 3, none⟩) (.int .i64 el) HK06.out hne'
  refine rtype_fin (Q := Q) ⟨⟨3, true, rg, el, []⟩, none, 0⟩ hkk HW.out (but_far HB6.out hs1 3 (.int .i64 el)) (by rw [HQ.out]; exact rrl_put HR6.out (by omega)) hgl rfl (fun W5 n => ?_) (fun h0 => ?_)
  · obtain ⟨u0, u1, u2, u3, u4, _⟩ := blk5 n
    simp [results, Tryz.results55, go_sem, u0, u1, u2, u3, u4] <;> rfl
  · exact ⟨by rw [HQ.out], World.ownsRow_nil _ _ _ _⟩
end Go.Proofs.YtbnljlpefpllcaaGreatDoor
namespace Go.Proofs.YtbnljlpefpllcaaGreatDoor
open Go Go.RowKit
set_option maxRecDepth 100000 in
set_option maxHeartbeats 4000000 in
theorem rtypes_4 (g : Nat) (s : Rs) (w : World) (hr : RRl w g s) (he : (byteS s).2.err = 0) (htag : (byteS s).1 = 4) : Calls Tryz.prog 55 #[.pointer (some ⟨g, 0, none⟩)] w (RTypePost g w (typeS s)) := by
  obtain ⟨i0, hi, hz0, hz1, hz2⟩ := info_parts infoInt
  have hnl := count_le 65535 (byteS s).2
  have hn0 := count_zero 65535 (byteS s).2
  obtain ⟨LQ, hLQ⟩ : ∃ x, listS numS (byteS s).2 = x := ⟨_, rfl⟩
  have HQ : Hid (typeS s = (⟨4, false, 0, 0, LQ.1⟩, LQ.2)) := Lib.hid (by
    unfold typeS
    rw [if_pos he, if_neg (by omega), if_pos htag, hLQ])
  unfold listS at hLQ
  have hgl := hr.lt
  obtain ⟨W, hW⟩ : ∃ W, w.alloc (.cells #[.int .i64 0, .bool false, .int .i64 0, .int .i64 0, .slice none 0 0] 83) = W := ⟨_, rfl⟩
  have hb : Below w.heap.size w W := by rw [← hW]; exact (Below.refl _ _).alloc (Nat.le_refl _) _
  have hk : W.heap[w.heap.size]? = some (.cells #[.int .i64 0, .bool false, .int .i64 0, .int .i64 0, .slice none 0 0] 83 (0, 0)) := by rw [← hW]; exact heap_alloc_new w _
  have hWs : W.heap.size = w.heap.size + 1 := by rw [← hW]; simp
  have HB := Lib.hid (rlbyte g s W (hr.keep hb))
  have HK := Lib.hid hk
  have HW := Lib.hid hb
  clear hr hk hb
  have HN1 := Lib.hid (fun w1 (hr : RRl w1 g (byteS s).2) => rlcount g _ w1 hr)
  generalize typeS s = Q at *
  generalize byteS s = R at *
  obtain ⟨b, s1⟩ := R
  simp only at HB HQ HN1 he htag hLQ hnl hn0
  generalize countS 65535 s1 = K at *
  obtain ⟨n, s0⟩ := K
  simp only at HN1 hLQ hnl hn0
  have HLQ := Lib.hid hLQ
  subst htag
  clear hLQ
  go_enter Tryz.func55, Tryz.ntmps55
  go_wp2_with fail
  go_at_call 98
  refine HB.out.mono ?_
  rintro e' w1 ⟨rfl, hr1, hb1⟩
  have hs1 := hb1.size
  obtain ⟨A2, hA2⟩ : ∃ A2, w1.alloc (.cells #[.int .i64 0, .bool false, .int .i64 0, .int .i64 0, .slice none 0 0] 83) = A2 := ⟨_, rfl⟩
  have hbA : Below w1.heap.size w1 A2 := by rw [← hA2]; exact (Below.refl _ _).alloc (Nat.le_refl _) _
  have hkA : A2.heap[w1.heap.size]? = some (.cells #[.int .i64 0, .bool false, .int .i64 0, .int .i64 0, .slice none 0 0] 83 (0, 0)) := by rw [← hA2]; exact heap_alloc_new w1 _
  obtain ⟨W3, hW3⟩ : ∃ W3, set5 A2 w1.heap.size (.int .i64 4) (.bool false) (.int .i64 0) (.int .i64 0) (.slice none 0 0) = W3 := ⟨_, rfl⟩
  have hk3 : W3.heap[w1.heap.size]? = some (.cells #[.int .i64 4, .bool false, .int .i64 0, .int .i64 0, .slice none 0 0] 83 (0, 0)) := by rw [← hW3]; exact blk5_set _ _ _ _ _ hkA
  have hb3 : But g W W3 := by rw [← hW3]; exact set5_but _ _ _ _ _ (hb1.trans (But.of_below hbA)) (by omega)
  have hr3 : RRl W3 g s1 := by rw [← hW3]; exact set5_rrl _ _ _ _ _ (hr1.keep hbA) (by omega)
  have hW3s : W3.heap.size = w1.heap.size + 1 := by rw [← hW3, set5_size, ← hA2]; simp
  have hk03 := hb3.blk HK.out (by omega)
  obtain ⟨a0, a1, a2, a3, a4, a5⟩ := blk5 hkA
  have a5a := a5 0
  have a5b := a5 1
  have a5c := a5 2
  have a5d := a5 3
  have a5e := a5 4
  obtain ⟨c0, c1, c2, c3, c4, c5⟩ := blk5 hk3
  have c5a := c5 0
  have c5b := c5 1
  have c5c := c5 2
  have c5d := c5 3
  have c5e := c5 4
  obtain ⟨d0, d1, d2, d3, d4, d5⟩ := blk5 hk03
  have d5a := d5 0
  have d5b := d5 1
  have d5c := d5 2
  have d5d := d5 3
  have d5e := d5 4
  have HR3 := Lib.hid hr3
  have HB3 := Lib.hid hb3
  have HK3 := Lib.hid hk3
  have HK03 := Lib.hid hk03
  have hne : w1.heap.size ≠ w.heap.size := by omega
  have hne' := hne.symm
  unfold set5 at hW3
  clear hbA hkA hr3 hb3 hk3 hk03 a5 c5 d5
  clear hr1 hb1
  go_wp2_with fail
  go_at_call 53
  refine (HN1.out W3 HR3.out).mono ?_
  rintro e' w4 ⟨rfl, hr4, hb4⟩
  have hs34 := hb4.size
  have hk4 := hb4.blk HK3.out (by omega)
  have hb4 := HB3.out.trans hb4
  have hk04 := hb4.blk HK.out (by omega)
  have HI0 := Lib.hid (⟨0, s0, [], .slice none 0 0, rfl, by omega, rfl, hk4, hk04, World.ownsRow_nil _ _ _ _, hr4, hb4, by omega, fun _ => by rw [← HLQ.out]; rfl, fun h1 => by rw [← HLQ.out, hn0 h1]; rfl⟩ : ∃ (k : Nat) (sk : Rs) (xs : List Int) (v : Value), (0 : Int) = k ∧ k ≤ n ∧ xs.length = k ∧ w4.heap[w1.heap.size]? = some (.cells #[.int .i64 4, .bool false, .int .i64 0, .int .i64 0, v] 83 (0, 0)) ∧ w4.heap[w.heap.size]? = some (.cells #[.int .i64 0, .bool false, .int .i64 0, .int .i64 0, .slice none 0 0] 83 (0, 0)) ∧ w4.ownsRow (w1.heap.size + 1) 3 1 v k (xs.map (Value.int .i64)) ∧ RRl w4 g sk ∧ But g W w4 ∧ w1.heap.size + 1 ≤ w4.heap.size ∧ (sk.err = 0 → LQ = (xs ++ (itemsS numS (n - k) sk).1, (itemsS numS (n - k) sk).2)) ∧ (sk.err ≠ 0 → LQ.2 = sk))
  clear a0 a1 a2 a3 a4 a5a a5b a5c a5d a5e c0 c1 c2 c3 c4 c5a c5b c5c c5d c5e d0 d1 d2 d3 d4 d5a d5b d5c d5d d5e hW3 hA2 hr4 hb4 hk4 hk04 HN1 hs34
  go_wp2_with fail
  go_loopw [6] (fun i wr => ∃ (k : Nat) (sk : Rs) (xs : List Int) (v : Value), i = .int .i64 k ∧ k ≤ n ∧ xs.length = k ∧ wr.heap[w1.heap.size]? = some (.cells #[.int .i64 4, .bool false, .int .i64 0, .int .i64 0, v] 83 (0, 0)) ∧ wr.heap[w.heap.size]? = some (.cells #[.int .i64 0, .bool false, .int .i64 0, .int .i64 0, .slice none 0 0] 83 (0, 0)) ∧ wr.ownsRow (w1.heap.size + 1) 3 1 v k (xs.map (Value.int .i64)) ∧ RRl wr g sk ∧ But g W wr ∧ w1.heap.size + 1 ≤ wr.heap.size ∧ Hid (sk.err = 0 → LQ = (xs ++ (itemsS numS (n - k) sk).1, (itemsS numS (n - k) sk).2)) ∧ Hid (sk.err ≠ 0 → LQ.2 = sk)) (fun i _ => n - (intOf i).toNat)
  case atStart =>
    obtain ⟨k, sk, xs, v, h0, h1, h2, h3, h4, h5, h6, h7, h8, h9, h10⟩ := HI0.out
    have : k = 0 := by omega
    subst this
    exact ⟨0, sk, xs, v, rfl, h1, h2, h3, h4, h5, h6, h7, h8, Lib.hid h9, Lib.hid h10⟩
  case round =>
    clear HI0
    obtain ⟨k, sk, xs, v, rfl, hkn, hxl, hk1, hk0, hown, hrd, hbt, hsz, HQ1, HQ2⟩ := hrel
    have hsk := hrd.err
    by_cases hgo : k < n ∧ sk.err = 0
    · obtain ⟨hlt, hse⟩ := hgo
      have hst : Hid (LQ = if (numS sk).2.err = 0 then (xs ++ (numS sk).1 :: (itemsS numS (n - (k + 1)) (numS sk).2).1, (itemsS numS (n - (k + 1)) (numS sk).2).2) else (xs, (numS sk).2)) := Lib.hid (by
        rw [HQ1.out hse, show n - k = (n - (k + 1)) + 1 by omega]
        rw [items_succ]
        split
        · rfl
        · rw [List.append_nil])
      have HN := Lib.hid (rlnum g sk wr.drew (hrd.keep (Below.refl _ wr).drew))
      rw [hse] at hsk
      generalize numS sk = Z at *
      obtain ⟨x, s'⟩ := Z
      simp only at hst HN
      obtain ⟨a0, a1, a2, a3, a4, a5⟩ := blk5 hk1
      have a5e := a5 4
      have HOWN := Lib.hid hown
      have HBT := Lib.hid hbt
      have HK1 := Lib.hid hk1
      have HK0 := Lib.hid hk0
      clear hown hrd hbt hk1 hk0 a5
      go_wp2_with fail
      refine wp_region_ot (S := fun X => X.cell? ⟨w1.heap.size, 4, none⟩ = some v) 7 [0, 1, 2, 3, 4, 5, 6, 7] (by kernel_rfl) ?_
      have hS : wr.drew.cell? ⟨w1.heap.size, 4, none⟩ = some v := a4
      (iterate 3 (refine wpO_take (v := ?_) (by kernel_rfl) (fun _ _ _ h => h) (Or.inl ⟨by rfl, ?_⟩) hS ?_; rotate_left; (next => (rintro X r1; (try simp only [List.getD_cons_zero, List.getD_cons_succ, List.getElem?_toArray, List.getElem?_cons_zero, List.getElem?_cons_succ, Option.getD_some]); go_simp; rfl)); simp only [List.getD_cons_zero, List.getD_cons_succ, List.getElem?_toArray, List.getElem?_cons_zero, List.getElem?_cons_succ, Option.getD_some, Act.put, List.setIfInBounds_toArray, List.set_cons_zero, List.set_cons_succ]))
      (refine wpO_one (by kernel_rfl) (fun K1 hK1 => ?_); simp only [List.getD_cons_zero, List.getD_cons_succ, List.getElem?_toArray, List.getElem?_cons_zero, List.getElem?_cons_succ, Option.getD_some, Act.put, List.setIfInBounds_toArray, List.set_cons_zero, List.set_cons_succ]; rw [if_pos (by rfl)]; go_simp)
      refine HN.out.mono ?_
      rintro e' w2 ⟨rfl, hr2, hb2⟩
      have hb2 : But g wr w2 := (But.of_below (g := g) (Below.refl _ wr).drew).trans hb2
      have hk2 := hb2.blk HK1.out (by omega)
      have hk02 := hb2.blk HK0.out (by omega)
      have hS2 : w2.cell? ⟨w1.heap.size, 4, none⟩ = some v := (blk5 hk2).2.2.2.2.1
      refine hK1.out _ _ (fun _ => hS2) ?_
      clear hK1
      (refine wpO_one (by kernel_rfl) (fun K1 hK1 => ?_); simp only [List.getD_cons_zero, List.getD_cons_succ, List.getElem?_toArray, List.getElem?_cons_zero, List.getElem?_cons_succ, Option.getD_some, Act.put, List.setIfInBounds_toArray, List.set_cons_zero, List.set_cons_succ]; rw [if_pos (by rfl)]; go_simp)
      have hbA : Below w2.heap.size w2 (w2.alloc (.cells #[.int .i64 x] 3)) := (Below.refl _ _).alloc (Nat.le_refl _) _
      refine hK1.out _ _ (fun _ => cell_keep hbA hS2) ?_
      clear hK1
      (refine wpO_one (by kernel_rfl) (fun K1 hK1 => ?_); simp only [List.getD_cons_zero, List.getD_cons_succ, List.getElem?_toArray, List.getElem?_cons_zero, List.getElem?_cons_succ, Option.getD_some, Act.put, List.setIfInBounds_toArray, List.set_cons_zero, List.set_cons_succ]; rw [if_pos (by rfl)])
      have hwz := hb2.size
      have hown2 : (w2.alloc (.cells #[.int .i64 x] 3)).ownsRow (w1.heap.size + 1) 3 1 v k (xs.map (Value.int .i64)) :=
        (own_block HOWN.out (fun j h1 h2 _ => hb2.block j h2 (by omega))).alloc _
      refine wpO_append (.tmp 47) (.tmp 50) 51 rfl (w1.heap.size + 1) 3 i0 (.int .i64 0) 1 8 Tryz.underlying51 hi hz0 hz1 hz2 rfl (by decide) v k _ rfl hown2 ⟨w2.heap.size, 0, none⟩ 1 1 [.int .i64 x] rfl rfl ?c1 (fun u hu => by simp at hu; subst hu; rfl) (by unfold maxLen; omega) (by omega) (by simp; omega) ?_
      case c1 =>
        intro j u hj
        rw [add0]
        exact row_new w2 [.int .i64 x] 3 j u hj
      intro v' w5 hown' hgrow _
      obtain ⟨A5, c5', hv5⟩ : ∃ A5 c5', v' = .slice A5 (k + 1) c5' := by
        rcases hown'.2 with ⟨h1, h2⟩ | ⟨g', cap, cur, h1, _⟩
        · exact ⟨none, 0, by rw [h1, h2]⟩
        · exact ⟨_, cap, h1⟩
      subst hv5
      have hlow : ∀ j, j < w1.heap.size + 1 → w5.heap[j]? = w2.heap[j]? := fun j hj => (hgrow.block j (by simp; omega) (own_ne_low hown2 hj)).trans (Below.heap_alloc _ _ _ (by omega))
      have hk5 := (hlow w1.heap.size (by omega)).trans hk2
      have hk05 := (hlow w.heap.size (by omega)).trans hk02
      obtain ⟨c0, c1, c2, c3, c4, c5⟩ := blk5 hk5
      have c5e := c5 4
      have hs5 := hgrow.size
      simp only [World.size_alloc] at hs5
      have hb5 : But g W w5 := ⟨hgrow.os.trans (hb2.os.trans HBT.out.os), hgrow.tape.trans (hb2.tape.trans HBT.out.tape), hgrow.output.trans (hb2.output.trans HBT.out.output), by have := HBT.out.size; omega, fun j hj hne => (hlow j (by omega)).trans ((hb2.block j (by have := HBT.out.size; omega) hne).trans (HBT.out.block j hj hne))⟩
      have hr5 : RRl w5 g s' := hr2.low (by omega) (fun j hj => hlow j (by omega))
      have hown3 : w5.ownsRow (w1.heap.size + 1) 3 1 (.slice A5 (k + 1) c5') (k + 1) ((xs ++ [x]).map (Value.int .i64)) := by rw [List.map_append]; exact hown'
      refine hK1.out _ _ (fun _ => c4) ?_
      clear hK1
      have hS := c4
      (iterate 1 (refine wpO_take (v := ?_) (by kernel_rfl) (fun _ _ _ h => h) (Or.inl ⟨by rfl, ?_⟩) hS ?_; rotate_left; (next => (rintro X _; (try simp only [List.getD_cons_zero, List.getD_cons_succ, List.getElem?_toArray, List.getElem?_cons_zero, List.getElem?_cons_succ, Option.getD_some]); go_simp; rfl)); simp only [List.getD_cons_zero, List.getD_cons_succ, List.getElem?_toArray, List.getElem?_cons_zero, List.getElem?_cons_succ, Option.getD_some, Act.put, List.setIfInBounds_toArray, List.set_cons_zero, List.set_cons_succ]))
      (refine wpO_one (by kernel_rfl) (fun K1 hK1 => ?_); simp only [List.getD_cons_zero, List.getD_cons_succ, List.getElem?_toArray, List.getElem?_cons_zero, List.getElem?_cons_succ, Option.getD_some, Act.put, List.setIfInBounds_toArray, List.set_cons_zero, List.set_cons_succ]; rw [if_pos (by rfl)]; go_simp)
      refine hK1.out _ _ (fun h => absurd h (by decide)) ?_
      refine wpO_done (by kernel_rfl) ?_
      have hk6 : (w5.setCell ⟨w1.heap.size, 4, none⟩ (.slice A5 (k + 1) c5')).heap[w1.heap.size]? = some (.cells #[.int .i64 4, .bool false, .int .i64 0, .int .i64 0, .slice A5 (k + 1) c5'] 83 (0, 0)) := by simp [World.setCell, Array.getElem?_modify, hk5]
      have hk06 := set_far (p := ⟨w1.heap.size, 4, none⟩) (.slice A5 (k + 1) c5') hk05 hne'
      have hown6 := own_put (k := w1.heap.size) (i := 4) (v := .slice A5 (k + 1) c5') hown3 (by omega)
      have hr6 := rrl_put (k := w1.heap.size) (i := 4) (v := .slice A5 (k + 1) c5') hr5 (by omega)
      have hb6 := but_put (k := w1.heap.size) (i := 4) (v := .slice A5 (k + 1) c5') hb5 (by omega)
      have hs6 : w1.heap.size + 1 ≤ (w5.setCell ⟨w1.heap.size, 4, none⟩ (.slice A5 (k + 1) c5')).heap.size := by simp; omega
      generalize hW6 : w5.setCell ⟨w1.heap.size, 4, none⟩ (.slice A5 (k + 1) c5') = W6 at *
      have H1 := Lib.hid hk6
      have H2 := Lib.hid hk06
      have H3 := Lib.hid hown6
      have H4 := Lib.hid hr6
      have H5 := Lib.hid hb6
      clear hW6 hk6 hk06 hown6 hr6 hb6 hS hS2 hgrow hown' hown2 hown3 hlow hk5 hk05 hb5 hr5 c0 c1 c2 c3 c4 c5 c5e hbA hk2 hk02 hr2 hb2 hK1 a0 a1 a2 a3 a4 a5e
      go_wp2_with fail
      go_roundw
      case rel =>
        refine ⟨k + 1, s', xs ++ [x], .slice A5 (k + 1) c5', by go_num, by omega, by simp [hxl], H1.out, H2.out, H3.out, H4.out, H5.out, hs6, Lib.hid (fun h0 => ?_), Lib.hid (fun h0 => ?_)⟩
        · rw [hst.out, if_pos h0, List.append_assoc]; rfl
        · rw [hst.out, if_neg h0]
      case measure => simp [intOf]; omega
    · have hfin : LQ.2 = sk ∧ (sk.err = 0 → LQ.1 = xs) := by
        by_cases hse : sk.err = 0
        · have hkn' : k = n := by
            rcases Nat.lt_or_ge k n with h | h
            · exact absurd ⟨h, hse⟩ hgo
            · omega
          have := HQ1.out hse
          rw [hkn', Nat.sub_self] at this
          simp only [itemsS, List.append_nil] at this
          rw [this]
          exact ⟨rfl, fun _ => rfl⟩
        · exact ⟨HQ2.out hse, fun h => absurd h hse⟩
      subst hxl
      obtain ⟨A', c', hv⟩ : ∃ A' c', v = .slice A' xs.length c' := by
        rcases hown.2 with ⟨h1, h2⟩ | ⟨g', cap, cur, h1, _⟩
        · exact ⟨none, 0, by rw [h1, h2]⟩
        · exact ⟨_, cap, h1⟩
      subst hv
      obtain ⟨c0, c1, c2, c3, c4, c5⟩ := blk5 hk1
      obtain ⟨d0, d1, d2, d3, d4, d5⟩ := blk5 hk0
      have d5a := d5 0
      have d5b := d5 1
      have d5c := d5 2
      have d5d := d5 3
      have d5e := d5 4
      have HFIN := Lib.hid hfin
      have HOWN := Lib.hid hown
      have HRD := Lib.hid hrd
      have HBT := Lib.hid hbt
      have HK0 := Lib.hid hk0
      obtain ⟨er, her⟩ : ∃ er, sk.err = er := ⟨_, rfl⟩
      rw [her] at hsk hgo
      have HER := Lib.hid her
      clear hfin hown hrd hbt hk1 hk0 c5 d5 her
      rcases (show ¬ xs.length < n ∨ er ≠ 0 by
        rcases Nat.lt_or_ge xs.length n with h | h
        · right; exact fun h2 => hgo ⟨h, h2⟩
        · left; omega) with hx | hx
      · have hx' : ¬ (xs.length : Int) < (n : Int) := by omega
        go_wp2_with fail
        refine rtype_fin (Q := Q) ⟨⟨4, false, 0, 0, xs⟩, A', c'⟩ HK0.out HW.out HBT.out (by rw [HQ.out, HFIN.out.1]; exact HRD.out) hgl rfl (fun W5 n => ?_) (fun h0 => ?_)
        · obtain ⟨u0, u1, u2, u3, u4, _⟩ := blk5 n
          simp only at u4
          simp [results, Tryz.results55, go_sem, u0, u1, u2, u3, u4] <;> rfl
        · rw [HQ.out] at h0 ⊢
          rw [HFIN.out.1] at h0
          refine ⟨by rw [HFIN.out.2 h0], ?_⟩
          exact own_mono HOWN.out (by omega)
      · have e1 : (er == 0) = false := beq_false_of_ne hx
        go_wp2_with fail
        all_goals
          refine rtype_fin (Q := Q) ⟨⟨4, false, 0, 0, xs⟩, A', c'⟩ HK0.out HW.out HBT.out (by rw [HQ.out, HFIN.out.1]; exact HRD.out) hgl rfl (fun W5 n => ?_) (fun h0 => ?_)
          · obtain ⟨u0, u1, u2, u3, u4, _⟩ := blk5 n
            simp only at u4
            simp [results, Tryz.results55, go_sem, u0, u1, u2, u3, u4] <;> rfl
          · rw [HQ.out] at h0 ⊢
            rw [HFIN.out.1] at h0
            refine ⟨by rw [HFIN.out.2 h0], ?_⟩
            exact own_mono HOWN.out (by omega)
end Go.Proofs.YtbnljlpefpllcaaGreatDoor
namespace Go.Proofs.YtbnljlpefpllcaaGreatDoor
open Go Go.RowKit
theorem rtypes_any (g : Nat) (s : Rs) (w : World) (hr : RRl w g s) : Calls Tryz.prog 55 #[.pointer (some ⟨g, 0, none⟩)] w (RTypePost g w (typeS s)) := by
  by_cases he : (byteS s).2.err = 0
  · rcases (show (byteS s).1 ≤ 2 ∨ (byteS s).1 = 3 ∨ (byteS s).1 = 4 ∨ (byteS s).1 = 5 ∨ 5 < (byteS s).1 by omega) with h1 | h1 | h1 | h1 | h1
    · exact rtypes_plain g s w hr (.inr h1)
    · exact rtypes_3 g s w hr he h1
    · exact rtypes_4 g s w hr he h1
    · exact rtypes_5 g s w hr he h1
    · exact rtypes_bad g s w hr he h1
  · exact rtypes_plain g s w hr (.inl he)
/-- Rows of other elements than e stay. -/
def Keeps (g k1 : Nat) (e : TypeId) (X Y : World) : Prop := ∀ (base : Nat) (e' : TypeId) (m : Nat) (u : Value) (n : Nat) (xs : List Value), g < base → e' ≠ e → (k1 < base ∨ e' ≠ 28) → X.ownsRow base e' m u n xs → Y.ownsRow base e' m u n xs
theorem Keeps.trans {g k1 : Nat} {e : TypeId} {X Y Z : World} (h : Keeps g k1 e X Y) (h2 : Keeps g k1 e Y Z) : Keeps g k1 e X Z := fun b e' m u n xs a c d h3 => h2 b e' m u n xs a c d (h b e' m u n xs a c d h3)
theorem Keeps.but {g k1 : Nat} {e : TypeId} {X Y : World} (h : But g X Y) : Keeps g k1 e X Y := fun b e' m u n xs a _ _ h3 => own_but h3 h a
theorem Keeps.alloc {g k1 : Nat} {e : TypeId} (X : World) (o : Obj) : Keeps g k1 e X (X.alloc o) := fun b e' m u n xs _ _ _ h3 => h3.alloc o
theorem Keeps.grow {g k1 : Nat} {e : TypeId} {X Y : World} {b m n : Nat} {v : Value} {xs : List Value} (h : X.ownsRow b e m v n xs) (hg : X.grownBy Y v.ownBlock) : Keeps g k1 e X Y := fun b' e' m' u n' xs' _ hne _ h3 =>
  own_block h3 (fun j _ h2 h4 => hg.block j h2 (own_two h3 h hne j h4))
theorem Keeps.put {g k1 i : Nat} {e : TypeId} {X : World} {cs : Array Value} {z : Nat × Nat} {v : Value} (h : X.heap[k1]? = some (.cells cs 28 z)) : Keeps g k1 e X (X.setCell ⟨k1, i, none⟩ v) := fun b' e' m' u n' xs' _ _ hor h3 => by
  rcases hor with h4 | h4
  · exact own_put h3 h4
  · exact own_block h3 (fun j _ _ hj => Below.heap_setCell _ _ _ j (fun e => by
      simp only at e
      rw [e] at hj
      exact own_ne h3 h h4 hj))
/-- The body that is being read, the reader's state. -/
structure DI (g k0 k1 : Nat) (W0 X : World) (nm : ByteArray) (v1 v2 v3 v4 : Value) (s : Rs) : Prop where
  b1 : X.heap[k1]? = some (.cells #[.string nm, v1, v2, v3, v4, .int .i64 0, .slice none 0 0] 28 (0, 0))
  b0 : X.heap[k0]? = some (.cells #[.string ⟨#[]⟩, .slice none 0 0, .slice none 0 0, .slice none 0 0, .slice none 0 0, .int .i64 0, .slice none 0 0] 28 (0, 0))
  rd : RRl X g s
  bt : But g W0 X
  sz : k1 + 1 ≤ X.heap.size
theorem DI.but {g k0 k1 : Nat} {W0 X Y : World} {nm : ByteArray} {v1 v2 v3 v4 : Value} {s s' : Rs} (h : DI g k0 k1 W0 X nm v1 v2 v3 v4 s) (hb : But g X Y) (hr : RRl Y g s') (h1 : k1 ≠ g) (h0 : k0 ≠ g) : DI g k0 k1 W0 Y nm v1 v2 v3 v4 s' :=
  ⟨hb.blk h.b1 h1, hb.blk h.b0 h0, hr, h.bt.trans hb, Nat.le_trans h.sz hb.size⟩
def RowS (k1 : Nat) (X : World) (v : Value) (Q : List ByteArray × Rs) : Prop := ∃ A c n xs, v = .slice A n c ∧ xs.length = n ∧ X.ownsRow (k1 + 1) 9 1 v n (xs.flatMap (fun x => [Value.string x])) ∧ (Q.2.err = 0 → Q.1 = xs)
def RowP (k1 : Nat) (X : World) (v : Value) (Q : List (Int × Int) × Rs) : Prop := ∃ A c n xs, v = .slice A n c ∧ xs.length = n ∧ X.ownsRow (k1 + 1) 79 2 v n (xs.flatMap (fun x => [Value.int .i64 x.1, .int .i64 x.2])) ∧ (Q.2.err = 0 → Q.1 = xs)
def RowT (g k1 : Nat) (X : World) (v : Value) (Q : List Ty × Rs) : Prop := ∃ A c n, ∃ ys : List TH, v = .slice A n c ∧ ys.length = n ∧ X.ownsRow (k1 + 1) 83 5 v n (ys.flatMap cellsH) ∧ (Q.2.err = 0 → Q.1 = ys.map (·.t) ∧ ∀ y ∈ ys, FldAt g X y)
def RowL (k1 : Nat) (X : World) (v : Value) (Q : List Lc × Rs) : Prop := ∃ A c n xs, v = .slice A n c ∧ xs.length = n ∧ X.ownsRow (k1 + 1) 87 2 v n (xs.flatMap (fun x => [Value.string x.name, .int .i64 x.type])) ∧ (Q.2.err = 0 → Q.1 = xs)
theorem RowS.keep {g k1 : Nat} {e : TypeId} {X Y : World} {v : Value} {Q : List ByteArray × Rs} (h : RowS k1 X v Q) (hg : g ≤ k1) (hk : Keeps g k1 e X Y) (hne : 9 ≠ e) : RowS k1 Y v Q := by
  obtain ⟨A, c, n, xs, h1, h2, h3, h4⟩ := h
  exact ⟨A, c, n, xs, h1, h2, hk _ _ _ _ _ _ (by omega) hne (.inl (by omega)) h3, h4⟩
theorem RowP.keep {g k1 : Nat} {e : TypeId} {X Y : World} {v : Value} {Q : List (Int × Int) × Rs} (h : RowP k1 X v Q) (hg : g ≤ k1) (hk : Keeps g k1 e X Y) (hne : 79 ≠ e) : RowP k1 Y v Q := by
  obtain ⟨A, c, n, xs, h1, h2, h3, h4⟩ := h
  exact ⟨A, c, n, xs, h1, h2, hk _ _ _ _ _ _ (by omega) hne (.inl (by omega)) h3, h4⟩
theorem RowL.keep {g k1 : Nat} {e : TypeId} {X Y : World} {v : Value} {Q : List Lc × Rs} (h : RowL k1 X v Q) (hg : g ≤ k1) (hk : Keeps g k1 e X Y) (hne : 87 ≠ e) : RowL k1 Y v Q := by
  obtain ⟨A, c, n, xs, h1, h2, h3, h4⟩ := h
  exact ⟨A, c, n, xs, h1, h2, hk _ _ _ _ _ _ (by omega) hne (.inl (by omega)) h3, h4⟩
theorem FldAt.keep {g k1 : Nat} {e : TypeId} {X Y : World} {y : TH} (h : FldAt g X y) (hk : Keeps g k1 e X Y) (hne : 3 ≠ e) : FldAt g Y y := hk _ _ _ _ _ _ (Nat.lt_succ_self _) hne (.inr (by decide)) h
theorem RowT.keep {g k1 : Nat} {e : TypeId} {X Y : World} {v : Value} {Q : List Ty × Rs} (h : RowT g k1 X v Q) (hg : g ≤ k1) (hk : Keeps g k1 e X Y) (hne : 83 ≠ e) (hne2 : 3 ≠ e) : RowT g k1 Y v Q := by
  obtain ⟨A, c, n, ys, h1, h2, h3, h4⟩ := h
  exact ⟨A, c, n, ys, h1, h2, hk _ _ _ _ _ _ (by omega) hne (.inl (by omega)) h3, fun h0 => ⟨(h4 h0).1, fun y hy => ((h4 h0).2 y hy).keep hk hne2⟩⟩
/-- A slice's value is a slice. -/
theorem own_isSlice {X : World} {b m n : Nat} {e : TypeId} {v : Value} {xs : List Value} (h : X.ownsRow b e m v n xs) : ∃ A c, v = .slice A n c := by
  rcases h.2 with ⟨h1, h2⟩ | ⟨g', cap, cur, h1, _⟩
  · exact ⟨none, 0, by rw [h1, h2]⟩
  · exact ⟨_, cap, h1⟩
/-- How a loop of the reference stands: what is to come, unless an error has come. -/
structure At16 {α : Type} (f : Rs → α × Rs) (Q : List α × Rs) (n k : Nat) (sk : Rs) (xs : List α) : Prop where
  good : sk.err = 0 → Q = (xs ++ (itemsS f (n - k) sk).1, (itemsS f (n - k) sk).2)
  bad : sk.err ≠ 0 → Q.2 = sk
theorem At16.start {α : Type} {f : Rs → α × Rs} {s : Rs} {n : Nat} {s0 : Rs} {Q : List α × Rs} (h : listS f s = Q) (hc : countS 65535 s = (n, s0)) : At16 f Q n 0 s0 [] := by
  have hz := count_zero 65535 s
  unfold listS at h
  rw [hc] at h hz
  simp only at h hz
  exact ⟨fun _ => by rw [← h]; rfl, fun h1 => by rw [← h, hz h1]; rfl⟩
theorem At16.next {α : Type} {f : Rs → α × Rs} {Q : List α × Rs} {n k : Nat} {sk s' : Rs} {xs : List α} {x : α} (h : At16 f Q n k sk xs) (hk : k < n) (he : sk.err = 0) (hf : f sk = (x, s')) : At16 f Q n (k + 1) s' (xs ++ [x]) := by
  have h1 := h.good he
  rw [show n - k = (n - (k + 1)) + 1 by omega, items_succ, hf] at h1
  simp only at h1
  refine ⟨fun h0 => ?_, fun h0 => ?_⟩
  · rw [if_pos h0] at h1
    rw [h1, List.append_assoc]; rfl
  · rw [if_neg h0] at h1
    rw [h1]
theorem At16.done {α : Type} {f : Rs → α × Rs} {Q : List α × Rs} {n k : Nat} {sk : Rs} {xs : List α} (h : At16 f Q n k sk xs) (hk : k ≤ n) (hx : ¬ (k < n ∧ sk.err = 0)) : Q.2 = sk ∧ (Q.2.err = 0 → Q.1 = xs) := by
  by_cases he : sk.err = 0
  · have hkn : k = n := by
      rcases Nat.lt_or_ge k n with h | h
      · exact absurd ⟨h, he⟩ hx
      · omega
    have h1 := h.good he
    rw [hkn, Nat.sub_self] at h1
    simp only [itemsS, List.append_nil] at h1
    rw [h1]
    exact ⟨rfl, fun _ => rfl⟩
  · have h1 := h.bad he
    exact ⟨h1, fun h2 => absurd (h1 ▸ h2) he⟩
end Go.Proofs.YtbnljlpefpllcaaGreatDoor
namespace Go.Proofs.YtbnljlpefpllcaaGreatDoor
open Go Go.RowKit
theorem less_iff (s x : ByteArray) : Op.bytesLess s.toList x.toList = decide (bl s < bl x) := by
  rw [Go.Proofs.bytesLess_eq, Lib.toList_data, Lib.toList_data]; rfl
theorem eq_iff (s x : ByteArray) : (s.toList == x.toList) = decide (s = x) := by
  rw [Lib.toList_data, Lib.toList_data]
  by_cases h : s = x
  · subst h; simp
  · rw [beq_false_of_ne (fun e => h (ba_ext e))]
    simp [h]
theorem app_c1 (w : World) (x : ByteArray) : ∀ j u, [Value.string x][j]? = some u → (w.alloc (.cells #[.string x] 9)).cell? ((⟨w.heap.size, 0, none⟩ : Addr).add j) = some u := fun j u hj => by
  rw [add0]
  exact row_new w [.string x] 9 j u hj
theorem app_c2 (x : ByteArray) : ∀ u ∈ [Value.string x], u.oneCell' = true := fun u hu => by simp at hu; subst hu; rfl
theorem insB_cons (s x : ByteArray) (r : List ByteArray) : insB s (x :: r) = if bl s < bl x then s :: x :: r else if s = x then x :: r else x :: insB s r := rfl
set_option maxRecDepth 100000 in
set_option maxHeartbeats 4000000 in
theorem rinsert_any (l : List ByteArray) (s : ByteArray) (A : Option Addr) (c : Nat) (w : World) (hs : Slc 1 RN w A c l) (hl : l.length ≤ 1000000) :
    Calls Tryz.prog 65 #[.slice A l.length c, .string s] w fun e' w' => ∃ A' c', e' = .returned (.slice A' (insB s l).length c') ∧ w'.ownsRow w.heap.size 9 1 (.slice A' (insB s l).length c') (insB s l).length ((insB s l).map Value.string) ∧ Below w.heap.size w w' := by
  obtain ⟨iS, iS0, iS1, iS2, iS3⟩ := info_parts infoStr
  have hle := hs.le
  have hbg := hs.big
  have HS := Lib.hid hs
  obtain ⟨Q, hQ⟩ : ∃ Q, insB s l = Q := ⟨_, rfl⟩
  rw [hQ]
  have HQ := Lib.hid hQ
  clear hs hQ
  go_enter Tryz.func65, Tryz.ntmps65
  go_wp2_with fail
  go_loopw [5, 6, 7] (fun v d i wr => ∃ (k n : Nat) (acc : List ByteArray) (dn : Bool), k ≤ l.length ∧ i = .int .i64 k ∧ d = .bool dn ∧ acc.length = n ∧ (dn = false → n ≤ k) ∧ n ≤ k + 1 ∧ Hid (wr.ownsRow w.heap.size 9 1 v n (acc.map Value.string)) ∧ Hid (Below w.heap.size w wr) ∧ Hid (Q = acc ++ (if dn = true then l.drop k else insB s (l.drop k)))) (fun _ _ i _ => l.length - (intOf i).toNat)
  case atStart => exact ⟨0, 0, [], false, by omega, rfl, rfl, rfl, by omega, by omega, Lib.hid (World.ownsRow_nil _ _ _ _), Lib.hid (Below.refl _ _), Lib.hid (by rw [← HQ.out]; rfl)⟩
  case round =>
    obtain ⟨k, n, acc, dn, hk, rfl, rfl, hal, hnf, hnk, HO, HB, HR⟩ := hrel
    have HNF := Lib.hid hnf
    clear hnf
    have hsz := HB.out.size
    by_cases hlt : k < l.length
    · have hd : l.drop k = l[k] :: l.drop (k + 1) := List.drop_eq_getElem_cons hlt
      obtain ⟨b, o, rfl, hb, y⟩ := HS.out.sl.at_ hlt
      have HX : Hid (∀ X, Below w.heap.size w X → X.cell? ⟨b, o + k, none⟩ = some (.string l[k])) := Lib.hid (fun X hX => by
        have h := RN.keeps w X w.heap.size w.heap.size b _ _ (Nat.le_refl _) hb hX y
        simpa [RN] using h)
      rw [hd] at HR
      generalize l[k] = x at *
      have p0 := HX.out wr HB.out
      clear y hd
      have fin : ∀ (dn' : Bool) (acc' : List ByteArray), Hid (Q = acc ++ (if dn = true then x :: l.drop (k + 1) else insB s (x :: l.drop (k + 1)))) → acc ++ (if dn = true then x :: l.drop (k + 1) else insB s (x :: l.drop (k + 1))) = acc' ++ (if dn' = true then l.drop (k + 1) else insB s (l.drop (k + 1))) → Hid (Q = acc' ++ (if dn' = true then l.drop (k + 1) else insB s (l.drop (k + 1)))) := fun _ _ h1 h2 => Lib.hid (h1.out.trans h2)
      have FIN := Lib.hid fin
      clear fin
      cases dn with
      | true =>
        have hown2 := HO.out.alloc (.cells #[.string x] 9)
        go_wp2_with (at_builtin; refine wpList_append_own _ rfl _ _ 22 rfl w.heap.size 9 iS (.string { data := #[] }) 1 16 Tryz.underlying22 iS0 iS1 iS2 iS3 rfl (by decide) _ _ _ rfl hown2 ⟨wr.heap.size, 0, none⟩ 1 1 [.string x] rfl rfl (app_c1 _ _) (app_c2 _) (by unfold maxLen; omega) (by omega) (by simp; omega) ?_)
        intro v' w2 hown' hgrow _
        have HO2 : Hid (w2.ownsRow w.heap.size 9 1 v' (n + 1) ((acc ++ [x]).map Value.string)) := Lib.hid (by rw [List.map_append]; exact hown')
        have HB2 : Hid (Below w.heap.size w w2) := Lib.hid ((HB.out.alloc hsz _).grown hgrow (by simp; omega) (fun g hg => (hown2.lt g hg).1))
        clear hown' hgrow hown2
        go_wp2_with fail
        go_roundw
        case rel => exact ⟨k + 1, n + 1, acc ++ [x], true, by omega, by go_num, rfl, by simp [hal], (by first | (intro h; cases h; done) | (intro _; have := HNF.out (by simp); omega)), by omega, HO2, HB2, FIN.out true _ HR (by simp)⟩
        case measure => simp [intOf]; omega
      | false =>
        rcases lt_tri (bl s) (bl x) with h1 | h1 | h1
        · have e1 : Op.bytesLess s.toList x.toList = true := by rw [less_iff]; simp [h1]
          have hI : ∀ r, insB s (x :: r) = s :: x :: r := fun r => by rw [insB_cons, if_pos h1]
          have HRR := FIN.out true (acc ++ [s] ++ [x]) HR (by simp [hI])
          clear hI
          clear h1 HR FIN
          have hown2 := HO.out.alloc (.cells #[.string s] 9)
          go_wp2_with (at_builtin; refine wpList_append_own _ rfl _ _ 22 rfl w.heap.size 9 iS (.string { data := #[] }) 1 16 Tryz.underlying22 iS0 iS1 iS2 iS3 rfl (by decide) _ _ _ rfl hown2 ⟨wr.heap.size, 0, none⟩ 1 1 [.string s] rfl rfl (app_c1 _ _) (app_c2 _) (by unfold maxLen; omega) (by omega) (by simp; omega) ?_)
          intro v' w2 hown' hgrow _
          have HO2 : Hid (w2.ownsRow w.heap.size 9 1 v' (n + 1) ((acc ++ [s]).map Value.string)) := Lib.hid (by rw [List.map_append]; exact hown')
          have hB2 : Below w.heap.size w w2 := (HB.out.alloc hsz _).grown hgrow (by simp; omega) (fun g hg => (hown2.lt g hg).1)
          have hsz2 := hB2.size
          have p1 := HX.out w2 hB2
          have HB2 := Lib.hid hB2
          clear hown' hgrow hown2 hB2
          have hown3 := HO2.out.alloc (.cells #[.string x] 9)
          go_wp2_with (at_builtin; refine wpList_append_own _ rfl _ _ 22 rfl w.heap.size 9 iS (.string { data := #[] }) 1 16 Tryz.underlying22 iS0 iS1 iS2 iS3 rfl (by decide) _ _ _ rfl hown3 ⟨w2.heap.size, 0, none⟩ 1 1 [.string x] rfl rfl (app_c1 _ _) (app_c2 _) (by unfold maxLen; omega) (by omega) (by simp; omega) ?_)
          intro v'' w3 hown' hgrow _
          have HO3 : Hid (w3.ownsRow w.heap.size 9 1 v'' (n + 1 + 1) ((acc ++ [s] ++ [x]).map Value.string)) := Lib.hid (by have h := hown'; simp only [List.map_append, List.map_cons, List.map_nil, List.append_assoc, List.cons_append, List.nil_append] at h ⊢; exact h)
          have HB3 : Hid (Below w.heap.size w w3) := Lib.hid ((HB2.out.alloc hsz2 _).grown hgrow (by simp; omega) (fun g hg => (hown3.lt g hg).1))
          clear hown' hgrow hown3
          go_wp2_with fail
          go_roundw
          case rel => exact ⟨k + 1, n + 1 + 1, acc ++ [s] ++ [x], true, by omega, by go_num, rfl, by simp [hal], (by intro h; cases h), (by have := HNF.out (by simp); omega), HO3, HB3, HRR⟩
          case measure => simp [intOf]; omega
        · have hsx : s = x := bl_inj h1
          have hI : ∀ r, insB s (x :: r) = x :: r := fun r => by rw [insB_cons, if_neg (by rw [h1]; exact lt_irr _), if_pos hsx]
          have HRR := FIN.out true (acc ++ [x]) HR (by simp [hI])
          clear hI
          have e1 : Op.bytesLess x.toList x.toList = false := by rw [less_iff]; simp [lt_irr]
          subst hsx
          clear h1 HR FIN
          have hown2 := HO.out.alloc (.cells #[.string s] 9)
          go_wp2_with (at_builtin; refine wpList_append_own _ rfl _ _ 22 rfl w.heap.size 9 iS (.string { data := #[] }) 1 16 Tryz.underlying22 iS0 iS1 iS2 iS3 rfl (by decide) _ _ _ rfl hown2 ⟨wr.heap.size, 0, none⟩ 1 1 [.string s] rfl rfl (app_c1 _ _) (app_c2 _) (by unfold maxLen; omega) (by omega) (by simp; omega) ?_)
          intro v' w2 hown' hgrow _
          have HO2 : Hid (w2.ownsRow w.heap.size 9 1 v' (n + 1) ((acc ++ [s]).map Value.string)) := Lib.hid (by rw [List.map_append]; exact hown')
          have HB2 : Hid (Below w.heap.size w w2) := Lib.hid ((HB.out.alloc hsz _).grown hgrow (by simp; omega) (fun g hg => (hown2.lt g hg).1))
          clear hown' hgrow hown2
          go_wp2_with fail
          go_roundw
          case rel => exact ⟨k + 1, n + 1, acc ++ [s], true, by omega, by go_num, rfl, by simp [hal], (by first | (intro h; cases h; done) | (intro _; have := HNF.out (by simp); omega)), by omega, HO2, HB2, HRR⟩
          case measure => simp [intOf]; omega
        · have e1 : Op.bytesLess s.toList x.toList = false := by rw [less_iff]; simp only [decide_eq_false_iff_not]; exact fun h => lt_irr _ (lt_trans' h h1)
          have hne : ¬ s = x := fun e => by subst e; exact lt_irr _ h1
          have e2 : (s.toList == x.toList) = false := by rw [eq_iff]; simp [hne]
          have hI : ∀ r, insB s (x :: r) = x :: insB s r := fun r => by rw [insB_cons, if_neg (fun h => lt_irr _ (lt_trans' h h1)), if_neg hne]
          have HRR := FIN.out false (acc ++ [x]) HR (by simp [hI])
          clear hI
          clear h1 HR FIN hne
          have hown2 := HO.out.alloc (.cells #[.string x] 9)
          go_wp2_with (at_builtin; refine wpList_append_own _ rfl _ _ 22 rfl w.heap.size 9 iS (.string { data := #[] }) 1 16 Tryz.underlying22 iS0 iS1 iS2 iS3 rfl (by decide) _ _ _ rfl hown2 ⟨wr.heap.size, 0, none⟩ 1 1 [.string x] rfl rfl (app_c1 _ _) (app_c2 _) (by unfold maxLen; omega) (by omega) (by simp; omega) ?_)
          intro v' w2 hown' hgrow _
          have HO2 : Hid (w2.ownsRow w.heap.size 9 1 v' (n + 1) ((acc ++ [x]).map Value.string)) := Lib.hid (by rw [List.map_append]; exact hown')
          have HB2 : Hid (Below w.heap.size w w2) := Lib.hid ((HB.out.alloc hsz _).grown hgrow (by simp; omega) (fun g hg => (hown2.lt g hg).1))
          clear hown' hgrow hown2
          go_wp2_with fail
          go_roundw
          case rel => exact ⟨k + 1, n + 1, acc ++ [x], false, by omega, by go_num, rfl, by simp [hal], (by first | (intro h; cases h; done) | (intro _; have := HNF.out (by simp); omega)), by omega, HO2, HB2, HRR⟩
          case measure => simp [intOf]; omega
    · have hke : k = l.length := by omega
      have hd : l.drop k = [] := by rw [hke, List.drop_length]
      cases dn with
      | true =>
        have hQ2 : Q = acc := by rw [HR.out, if_pos rfl, hd, List.append_nil]
        obtain ⟨A', c', hv⟩ := own_isSlice HO.out
        subst hv
        have HQ2 := Lib.hid hQ2
        clear hke hd hQ2
        go_wp2_with fail
        go_ret
        rw [HQ2.out, hal]
        exact ⟨A', c', rfl, HO.out, HB.out⟩
      | false =>
        have hQ2 : Q = acc ++ [s] := by rw [HR.out, if_neg (by simp), hd]; rfl
        have HQ2 := Lib.hid hQ2
        clear hke hd hQ2
        have hown2 := HO.out.alloc (.cells #[.string s] 9)
        go_wp2_with (at_builtin; refine wpList_append_own _ rfl _ _ 22 rfl w.heap.size 9 iS (.string { data := #[] }) 1 16 Tryz.underlying22 iS0 iS1 iS2 iS3 rfl (by decide) _ _ _ rfl hown2 ⟨wr.heap.size, 0, none⟩ 1 1 [.string s] rfl rfl (app_c1 _ _) (app_c2 _) (by unfold maxLen; omega) (by omega) (by simp; omega) ?_)
        intro v' w2 hown' hgrow _
        have HO2 : Hid (w2.ownsRow w.heap.size 9 1 v' (n + 1) ((acc ++ [s]).map Value.string)) := Lib.hid (by rw [List.map_append]; exact hown')
        have HB2 : Hid (Below w.heap.size w w2) := Lib.hid ((HB.out.alloc hsz _).grown hgrow (by simp; omega) (fun g hg => (hown2.lt g hg).1))
        clear hown' hgrow hown2
        obtain ⟨A', c', hv⟩ := own_isSlice HO2.out
        subst hv
        go_wp2_with fail
        go_ret
        have hl2 : (acc ++ [s]).length = n + 1 := by simp [hal]
        rw [HQ2.out, hl2]
        exact ⟨A', c', rfl, HO2.out, HB2.out⟩
theorem tabB_snoc : ∀ (l acc : List ByteArray) (s : ByteArray), tabB acc (l ++ [s]) = insB s (tabB acc l)
  | [], _, _ => rfl
  | x :: r, acc, s => by rw [List.cons_append, tabB, tabB_snoc r]; rfl
set_option maxRecDepth 100000 in
set_option maxHeartbeats 4000000 in
theorem rnew_any (xs : List ByteArray) (A : Option Addr) (c : Nat) (w : World) (hs : Slc 1 RN w A c xs) (hl : xs.length ≤ 100000) (hz : ∀ s ∈ xs, s.size ≤ 1000000) :
    Calls Tryz.prog 21 #[.slice A xs.length c] w fun e' w' => Below w.heap.size w w' ∧ ((∀ s ∈ xs, isIdent s = true) → ∃ A' c', e' = .returned (.tuple #[.slice A' (tabB [] xs).length c', .int .i64 0]) ∧ Slc 1 RN w' A' c' (tabB [] xs) ∧ (∀ a, A' = some a → a.block < w'.heap.size)) ∧ (¬ (∀ s ∈ xs, isIdent s = true) → e' = .returned (.tuple #[.slice none 0 0, .int .i64 12])) := by
  have hle := hs.le
  have hbg := hs.big
  have HS := Lib.hid hs
  have HZ := Lib.hid hz
  clear hs hz
  go_enter Tryz.func21, Tryz.ntmps21
  go_wp2_with fail
  go_loopw [4, 5] (fun v i wr => ∃ (k : Nat) (B : Option Addr) (d n : Nat), k ≤ xs.length ∧ i = .int .i64 k ∧ v = .slice B n d ∧ n = (tabB [] (xs.take k)).length ∧ n ≤ k ∧ Hid (Slc 1 RN wr B d (tabB [] (xs.take k)) ∧ (∀ a, B = some a → a.block < wr.heap.size)) ∧ Hid (Below w.heap.size w wr) ∧ Hid (∀ s ∈ xs.take k, isIdent s = true)) (fun _ i _ => xs.length - (intOf i).toNat)
  case atStart => exact ⟨0, none, 0, 0, by omega, rfl, rfl, rfl, by omega, Lib.hid ⟨⟨Sl.nil, by simp [tabB], by simp⟩, fun a h => by cases h⟩, Lib.hid (Below.refl _ _), Lib.hid (by simp)⟩
  case round =>
    obtain ⟨k, B, d, n, hk, rfl, rfl, hn, hnk, HT, HB, HI⟩ := hrel
    by_cases hlt : k < xs.length
    · obtain ⟨b, o, rfl, hb, y⟩ := HS.out.sl.at_ hlt
      have HX : Hid (∀ X, Below w.heap.size w X → X.cell? ⟨b, o + k, none⟩ = some (.string xs[k])) := Lib.hid (fun X hX => by
        have h := RN.keeps w X w.heap.size w.heap.size b _ _ (Nat.le_refl _) hb hX y
        simpa [RN] using h)
      have HTK : Hid (xs.take (k + 1) = xs.take k ++ [xs[k]]) := Lib.hid (List.take_succ_eq_append_getElem hlt)
      have HM : Hid (xs[k] ∈ xs) := Lib.hid (List.getElem_mem hlt)
      generalize xs[k] = x at *
      have HID := Lib.hid (rident_any x wr (by have := HZ.out x HM.out; omega))
      have HN := Lib.hid hn
      have HINS := Lib.hid (rinsert_any (tabB [] (xs.take k)) x B d wr HT.out.1 (by omega))
      rw [← hn] at HINS
      have p0 := HX.out wr HB.out
      clear y hn
      by_cases hi : isIdent x = true
      · rw [hi] at HID
        have HII : Hid (∀ s ∈ xs.take (k + 1), isIdent s = true) := Lib.hid (fun s hs => by
          rw [HTK.out] at hs
          rcases List.mem_append.1 hs with h | h
          · exact HI.out s h
          · rw [List.mem_singleton] at h; rw [h]; exact hi)
        have HTS : Hid (tabB [] (xs.take (k + 1)) = insB x (tabB [] (xs.take k))) := Lib.hid (by rw [HTK.out, tabB_snoc])
        have hil := insB_len x (tabB [] (xs.take k))
        rw [← HN.out] at hil
        clear hi
        go_wp2_with (first
          | (go_at_call 65; refine HINS.out.mono ?_; rintro e' w2 ⟨A', c', rfl, hown, hb2⟩; have HO := Lib.hid hown; have HB2 := Lib.hid hb2; clear hown hb2)
          | (go_at_call 67; refine HID.out.mono ?_; rintro e' w1 ⟨rfl, hw⟩; obtain rfl := hw.symm))
        go_roundw
        case rel =>
          refine ⟨k + 1, A', c', _, by omega, by go_num, rfl, by rw [HTS.out], by omega, Lib.hid ?_, Lib.hid (HB.out.trans (HB2.out.mono HB.out.size)), HII⟩
          obtain ⟨A2, c2, hv, h1, h2⟩ := slc_own (R := RN) (fun w B b o x h => h) HO.out rfl
          injection hv with hv1 _ hv2
          subst hv1 hv2
          rw [HTS.out]
          exact ⟨h1, fun a ha => (h2 a ha).2⟩
        case measure => simp [intOf]; omega
      · have hif : isIdent x = false := by simpa using hi
        rw [hif] at HID
        have HNO : Hid (¬ ∀ s ∈ xs, isIdent s = true) := Lib.hid (fun h => hi (h x HM.out))
        clear hi hif
        go_wp2_with (go_at_call 67; refine HID.out.mono ?_; rintro e' w1 ⟨rfl, hw⟩; obtain rfl := hw.symm)
        refine bodyPost_ret (v := .tuple #[.slice none 0 0, .int .i64 12]) (by simp [results, Tryz.results21, go_sem] <;> rfl) rfl ?_
        exact ⟨HB.out, fun h => absurd h HNO.out, fun _ => rfl⟩
    · have hke : k = xs.length := by omega
      have HK := Lib.hid hke
      have HN := Lib.hid hn
      clear hke hn
      go_wp2_with fail
      refine bodyPost_ret (v := .tuple #[.slice B n d, .int .i64 0]) (by simp [results, Tryz.results21, go_sem] <;> rfl) rfl ?_
      have ht : xs.take k = xs := by rw [HK.out, List.take_length]
      have hn := HN.out
      have h1 := HT.out
      have h2 := HI.out
      rw [ht] at h1 h2 hn
      subst hn
      exact ⟨HB.out, fun _ => ⟨B, d, rfl, h1.1, h1.2⟩, fun h => absurd h2 h⟩
end Go.Proofs.YtbnljlpefpllcaaGreatDoor
