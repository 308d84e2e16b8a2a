/-
  Parts of the proof: P9T P9S P9P P9L PD0 PD.
-/
import Derived.Test.YtbnljlpefpllcaaGreatDoorMD5
import Derived.Test.YtbnljlpefpllcaaGreatDoorMD7
namespace Go.Proofs.YtbnljlpefpllcaaGreatDoor
open Go Go.RowKit
theorem own_two {w : World} {b1 b2 n1 n2 k1 k2 : Nat} {e1 e2 : TypeId} {v1 v2 : Value} {xs1 xs2 : List Value} (h1 : w.ownsRow b1 e1 k1 v1 n1 xs1) (h2 : w.ownsRow b2 e2 k2 v2 n2 xs2) (hne : e1 ≠ e2) (j : Nat) (hj : some j = v1.ownBlock) : some j ≠ v2.ownBlock := by
  rcases h1.2 with ⟨rfl, _⟩ | ⟨g', cap, cur, rfl, _, hh, _⟩
  · simp [Value.ownBlock] at hj
  · have : j = g' := by simpa [Value.ownBlock] using hj
    subst this
    exact own_ne h2 hh (Ne.symm hne)
/-- The row of a type's fields. -/
def FldAt (g : Nat) (w : World) (y : TH) : Prop := w.ownsRow (g + 1) 3 1 (.slice y.A y.t.flds.length y.c) y.t.flds.length (y.t.flds.map (Value.int .i64))
theorem FldAt.but {g : Nat} {w w' : World} {y : TH} (h : FldAt g w y) (hb : But g w w') : FldAt g w' y := own_block h (fun k h1 h2 _ => hb.block k h2 (by omega))
theorem ptypes_any (h g t : Nat) (T : Option Addr) (c : Nat) (tbl : List ByteArray) (s : Rs) (w : World) (H : DTab w h g t T c tbl) (hr : PRd w g s) : Calls Tryz.prog 47 #[.pointer (some ⟨h, 0, none⟩)] w (TypePost g w (typeS s)) := by
  by_cases he : (byteS s).2.err = 0
  · rcases (show (byteS s).1 ≤ 2 ∨ (byteS s).1 = 3 ∨ (byteS s).1 = 4 ∨ (byteS s).1 = 5 ∨ 5 < (byteS s).1 by omega) with h1 | h1 | h1 | h1 | h1
    · exact ptypes_plain h g t T c tbl s w H hr (.inr h1)
    · exact ptypes_3 h g t T c tbl s w H hr he h1
    · exact ptypes_4 h g t T c tbl s w H hr he h1
    · exact ptypes_5 h g t T c tbl s w H hr he h1
    · exact ptypes_bad h g t T c tbl s w H hr he h1
  · exact ptypes_plain h g t T c tbl s w H hr (.inl he)
set_option maxRecDepth 100000 in
set_option maxHeartbeats 4000000 in
theorem pitems_typ (h g t : Nat) (T : Option Addr) (c : Nat) (tbl : List ByteArray) (s : Rs) (w : World) (H : DTab w h g t T c tbl) (hr : PRd w g s) :
    Calls Tryz.prog 46 #[.pointer (some ⟨h, 0, none⟩), .func (.func 47) #[.pointer (some ⟨h, 0, none⟩)] #[]] w fun e' w' => ∃ A c n, e' = .returned (.slice A n c) ∧ PRd w' g (listS typeS s).2 ∧ But g w w' ∧
      ((listS typeS s).2.err = 0 → ∃ ys : List TH, ys.map (·.t) = (listS typeS s).1 ∧ ys.length = n ∧ w'.ownsRow w.heap.size 83 5 (.slice A n c) n (ys.flatMap cellsH) ∧ ∀ y ∈ ys, FldAt g w' y) := by
  obtain ⟨i0, hi, hz0, hz1, hz2⟩ := info_parts infoTy
  have hC := pcount_any g s w hr
  have hgl := hr.lt
  have hD0 := H.c0
  have HH := Lib.hid H
  have hnl := count_le 65535 s
  have hn0 := count_zero 65535 s
  obtain ⟨Q, hQ⟩ : ∃ Q, listS typeS s = Q := ⟨_, rfl⟩
  rw [hQ]
  unfold listS at hQ
  generalize countS 65535 s = K at *
  obtain ⟨n, s0⟩ := K
  simp only at hC hQ hnl hn0
  have HQ := Lib.hid hQ
  have HC := Lib.hid hC
  clear hQ hC hr H
  go_enter Tryz.func46, Tryz.ntmps46
  go_wp2_with (go_at_call 88; refine HC.out.mono ?_; rintro e' w1 ⟨rfl, hr1, hb1⟩; have HR1 := Lib.hid hr1; have HB1 := Lib.hid hb1; clear hr1 hb1)
  have hI0 : ∃ (k : Nat) (sk : Rs) (ys : List TH), n - n = k ∧ k ≤ n ∧ ys.length = k ∧ w1.ownsRow w.heap.size 83 5 (.slice none 0 0) k (ys.flatMap cellsH) ∧ (∀ y ∈ ys, FldAt g w1 y) ∧ PRd w1 g sk ∧ But g w w1 ∧ (0 < n → sk.err = 0) ∧ Hid (Q = (ys.map (·.t) ++ (itemsS typeS (n - k) sk).1, (itemsS typeS (n - k) sk).2)) :=
    ⟨0, s0, [], by omega, by omega, rfl, World.ownsRow_nil _ _ _ _, by simp, HR1.out, HB1.out, fun h => Decidable.byContradiction fun h1 => by have := hn0 h1; omega, Lib.hid (by rw [← HQ.out]; rfl)⟩
  have HI0 := Lib.hid hI0
  clear hI0 HR1 HB1 HC
  go_loopw [5, 12] (fun v i wr => ∃ (k : Nat) (sk : Rs) (ys : List TH), i = .int .i64 k ∧ k ≤ n ∧ ys.length = k ∧ wr.ownsRow w.heap.size 83 5 v k (ys.flatMap cellsH) ∧ (∀ y ∈ ys, FldAt g wr y) ∧ PRd wr g sk ∧ But g w wr ∧ (0 < n → sk.err = 0) ∧ Hid (Q = (ys.map (·.t) ++ (itemsS typeS (n - k) sk).1, (itemsS typeS (n - k) sk).2))) (fun _ i _ => n - (intOf i).toNat)
  case atStart =>
    obtain ⟨k, sk, ys, hk, h1⟩ := HI0.out
    have : k = 0 := by omega
    subst this
    exact ⟨0, sk, ys, rfl, h1⟩
  case round =>
    clear HI0
    obtain ⟨k, sk, ys, rfl, hk, hyl, hown, hfl, hrd, hbt, hsk, HQ2⟩ := hrel
    by_cases hlt : k < n
    · have hsz := hbt.size
      have hst : Hid (itemsS typeS (n - k) sk = if (typeS sk).2.err = 0 then ((typeS sk).1 :: (itemsS typeS (n - (k + 1)) (typeS sk).2).1, (itemsS typeS (n - (k + 1)) (typeS sk).2).2) else ([], (typeS sk).2)) := Lib.hid (by
        rw [show n - k = (n - (k + 1)) + 1 by omega]
        rfl)
      have HN := Lib.hid (ptypes_any h g t T c tbl sk wr (HH.out.but hbt) hrd)
      have HHW := Lib.hid (HH.out.but hbt)
      generalize typeS sk = Z at *
      obtain ⟨x, s'⟩ := Z
      simp only at hst HN
      have HOWN := Lib.hid hown
      have HBT := Lib.hid hbt
      have HFL := Lib.hid hfl
      clear hfl
      clear hown hrd hbt
      go_wp2_with fail
      go_at_call 47
      refine HN.out.mono ?_
      rintro e' w2 ⟨y, rfl, hr2, hb2, hy2⟩
      obtain ⟨W3, hW3⟩ : ∃ W3, w2.alloc (.cells #[.int .i64 y.t.kind, .bool y.t.mu, .int .i64 y.t.reg, .int .i64 y.t.elem, .slice y.A y.t.flds.length y.c] 83) = W3 := ⟨_, rfl⟩
      have hbW : Below w2.heap.size w2 W3 := by rw [← hW3]; exact (Below.refl _ _).alloc (Nat.le_refl _) _
      have hkW : W3.heap[w2.heap.size]? = some (.cells #[.int .i64 y.t.kind, .bool y.t.mu, .int .i64 y.t.reg, .int .i64 y.t.elem, .slice y.A y.t.flds.length y.c] 83 (0, 0)) := by rw [← hW3]; exact heap_alloc_new w2 _
      obtain ⟨z0, z1, z2, z3, z4, _⟩ := blk5 hkW
      have hr3 := hr2.keep hbW
      have hb3 : But g wr W3 := hb2.trans (But.of_below hbW)
      have HY2 : Hid (s'.err = 0 → y.t = x ∧ FldAt g W3 y) := Lib.hid (fun h0 => ⟨(hy2 h0).1, FldAt.but (show FldAt g w2 y from own_mono (hy2 h0).2 (by omega)) (But.of_below hbW)⟩)
      clear hr2 hb2 hbW hkW hy2
      have y0 := (HHW.out.but hb3).c0
      have HE := Lib.hid (perr_any g s' W3 hr3)
      have HR3 := Lib.hid hr3
      have HB3 := Lib.hid hb3
      clear hr3 hb3 HN
      by_cases he : s'.err = 0
      · rw [he] at HE
        rw [if_pos he] at hst
        obtain ⟨hyx, hyf⟩ := HY2.out he
        have HYX := Lib.hid hyx
        have HYF := Lib.hid hyf
        clear hyx hyf
        have hown2 : (W3.alloc (.cells #[.int .i64 y.t.kind, .bool y.t.mu, .int .i64 y.t.reg, .int .i64 y.t.elem, .slice y.A y.t.flds.length y.c] 83)).ownsRow w.heap.size 83 5 u5 k (ys.flatMap cellsH) :=
          (own_block HOWN.out (fun k hk1 hk2 _ => HB3.out.block k hk2 (by omega))).alloc _
        have hbw : But g w W3 := HBT.out.trans HB3.out
        have hwz := hbw.size
        have HBW := Lib.hid hbw
        clear hbw
        go_wp2_with (first
          | (at_builtin; refine wpList_append_own _ rfl _ _ 24 rfl w.heap.size 83 i0 (.agg #[.int .i64 0, .bool false, .int .i64 0, .int .i64 0, .slice none 0 0]) 5 56 Tryz.underlying24 hi hz0 hz1 hz2 rfl (by decide) _ _ _ rfl hown2 ⟨W3.heap.size, 0, none⟩ 1 1 [.int .i64 y.t.kind, .bool y.t.mu, .int .i64 y.t.reg, .int .i64 y.t.elem, .slice y.A y.t.flds.length y.c] rfl rfl ?c1 ?c2 ?c3 ?c4 ?c5 ?_)
          | (go_at_call 89; refine HE.out.mono ?_; rintro e' w3 ⟨rfl, hw⟩; obtain rfl := hw.symm))
        case c1 =>
          intro j u hj
          rw [add0]
          exact row_new W3 [.int .i64 y.t.kind, .bool y.t.mu, .int .i64 y.t.reg, .int .i64 y.t.elem, .slice y.A y.t.flds.length y.c] 83 j u hj
        case c2 => intro u hu; simp at hu; (rcases hu with rfl | rfl | rfl | rfl | rfl <;> rfl)
        case c3 => unfold maxLen; omega
        case c4 => omega
        case c5 => simp; omega
        intro v' w4 hown' hgrow _
        have hown3 : w4.ownsRow w.heap.size 83 5 v' (k + 1) ((ys ++ [y]).flatMap cellsH) := by
          rw [List.flatMap_append, List.flatMap_singleton]; exact hown'
        have hg4 : ∀ j, j < w.heap.size → w4.heap[j]? = W3.heap[j]? := fun j hj => (hgrow.block j (by simp; omega) (own_ne_low hown2 hj)).trans (Below.heap_alloc _ _ _ (by omega))
        have hb4 : But g w w4 := ⟨hgrow.os.trans HBW.out.os, hgrow.tape.trans HBW.out.tape, hgrow.output.trans HBW.out.output, by have := hgrow.size; simp at this; omega, fun j hj hne => (hg4 j hj).trans (HBW.out.block j hj hne)⟩
        have hr4 : PRd w4 g s' := HR3.out.low (by have := hgrow.size; simp at this; omega) (fun j hj => hg4 j (by omega))
        have hf4 : ∀ z ∈ ys ++ [y], FldAt g w4 z := fun z hz => by
          have h3 : FldAt g W3 z := by
            rcases List.mem_append.1 hz with h1 | h1
            · exact (HFL.out z h1).but HB3.out
            · rw [List.mem_singleton] at h1
              rw [h1]
              exact HYF.out
          have h3' := World.ownsRow.alloc h3 (.cells #[.int .i64 y.t.kind, .bool y.t.mu, .int .i64 y.t.reg, .int .i64 y.t.elem, .slice y.A y.t.flds.length y.c] 83)
          exact own_block h3' (fun j _ hj2 hj3 => hgrow.block j hj2 (own_two h3' hown2 (by decide) j hj3))
        clear hown' hgrow hown2 hg4
        go_wp2_with fail
        go_roundw
        case rel => exact ⟨k + 1, s', ys ++ [y], by go_num, by omega, by simp [hyl], hown3, hf4, hr4, hb4, fun _ => he, Lib.hid (by rw [HQ2.out, hst.out, ← HYX.out]; simp)⟩
        case measure => simp [intOf]; omega
      · have e2 : (s'.err == 0) = false := by simp [he]
        have e3 : (s'.err != 0) = true := by simp [he]
        rw [if_neg he] at hst
        have HHE := Lib.hid he
        have HQ3 : Hid (Q = (ys.map (·.t), s')) := Lib.hid (by rw [HQ2.out, hst.out]; simp)
        clear he
        generalize s'.err = er at HE e2 e3
        go_wp2_with (go_at_call 89; refine HE.out.mono ?_; rintro e' w3 ⟨rfl, hw⟩; obtain rfl := hw)
        go_ret
        rw [HQ3.out]
        exact ⟨none, 0, 0, rfl, HR3.out, HBT.out.trans HB3.out, fun h0 => absurd h0 HHE.out⟩
    · have hkn : k = n := by omega
      have HQ3 : Hid (Q = (ys.map (·.t), sk)) := Lib.hid (by rw [HQ2.out, hkn, Nat.sub_self]; simp [itemsS])
      obtain ⟨A, cc, hv⟩ : ∃ A cc, u5 = .slice A k cc := by
        rcases hown.2 with ⟨h1, h2⟩ | ⟨g', cap, cur, h1, _⟩
        · exact ⟨none, 0, by rw [h1, h2]⟩
        · exact ⟨_, cap, h1⟩
      subst hv
      have HOWN := Lib.hid hown
      have HRD := Lib.hid hrd
      have HBT := Lib.hid hbt
      have HFL := Lib.hid hfl
      clear hfl
      clear hown hrd hbt
      go_wp2_with fail
      go_ret
      rw [HQ3.out]
      exact ⟨A, cc, k, rfl, HRD.out, HBT.out, fun _ => ⟨ys, rfl, hyl, HOWN.out, HFL.out⟩⟩
end Go.Proofs.YtbnljlpefpllcaaGreatDoor
namespace Go.Proofs.YtbnljlpefpllcaaGreatDoor
open Go Go.RowKit
theorem infoStr : (Tryz.prog.info? 9).map (fun i => (i.zero, i.size, i.bytes)) = some (some (.string { data := #[] }), 1, 16) := by kernel_rfl
set_option maxRecDepth 100000 in
set_option maxHeartbeats 4000000 in
theorem pitems_str (h g t : Nat) (T : Option Addr) (c : Nat) (tbl : List ByteArray) (s : Rs) (w : World) (H : DTab w h g t T c tbl) (hr : PRd w g s) :
    Calls Tryz.prog 43 #[.pointer (some ⟨h, 0, none⟩), .func (.func 42) #[.pointer (some ⟨h, 0, none⟩)] #[]] w fun e' w' => ∃ A c n, e' = .returned (.slice A n c) ∧ PRd w' g (listS (nameS tbl) s).2 ∧ But g w w' ∧
      ((listS (nameS tbl) s).2.err = 0 → (listS (nameS tbl) s).1.length = n ∧ w'.ownsRow w.heap.size 9 1 (.slice A n c) n ((listS (nameS tbl) s).1.flatMap (fun x => [Value.string x]))) := by
  obtain ⟨i0, hi, hz0, hz1, hz2⟩ := info_parts infoStr
  have hC := pcount_any g s w hr
  have hgl := hr.lt
  have hD0 := H.c0
  have HH := Lib.hid H
  have hnl := count_le 65535 s
  have hn0 := count_zero 65535 s
  obtain ⟨Q, hQ⟩ : ∃ Q, listS (nameS tbl) s = Q := ⟨_, rfl⟩
  rw [hQ]
  unfold listS at hQ
  generalize countS 65535 s = K at *
  obtain ⟨n, s0⟩ := K
  simp only at hC hQ hnl hn0
  have HQ := Lib.hid hQ
  have HC := Lib.hid hC
  clear hQ hC hr H
  go_enter Tryz.func43, Tryz.ntmps43
  go_wp2_with (go_at_call 88; refine HC.out.mono ?_; rintro e' w1 ⟨rfl, hr1, hb1⟩; have HR1 := Lib.hid hr1; have HB1 := Lib.hid hb1; clear hr1 hb1)
  have hI0 : ∃ (k : Nat) (sk : Rs) (ys : List ByteArray), n - n = k ∧ k ≤ n ∧ ys.length = k ∧ w1.ownsRow w.heap.size 9 1 (.slice none 0 0) k (ys.flatMap (fun x => [Value.string x])) ∧ PRd w1 g sk ∧ But g w w1 ∧ (0 < n → sk.err = 0) ∧ Hid (Q = (ys ++ (itemsS (nameS tbl) (n - k) sk).1, (itemsS (nameS tbl) (n - k) sk).2)) :=
    ⟨0, s0, [], by omega, by omega, rfl, World.ownsRow_nil _ _ _ _, HR1.out, HB1.out, fun h => Decidable.byContradiction fun h1 => by have := hn0 h1; omega, Lib.hid (by rw [← HQ.out]; rfl)⟩
  have HI0 := Lib.hid hI0
  clear hI0 HR1 HB1 HC
  go_loopw [5, 12] (fun v i wr => ∃ (k : Nat) (sk : Rs) (ys : List ByteArray), i = .int .i64 k ∧ k ≤ n ∧ ys.length = k ∧ wr.ownsRow w.heap.size 9 1 v k (ys.flatMap (fun x => [Value.string x])) ∧ PRd wr g sk ∧ But g w wr ∧ (0 < n → sk.err = 0) ∧ Hid (Q = (ys ++ (itemsS (nameS tbl) (n - k) sk).1, (itemsS (nameS tbl) (n - k) sk).2))) (fun _ i _ => n - (intOf i).toNat)
  case atStart =>
    obtain ⟨k, sk, ys, hk, h1⟩ := HI0.out
    have : k = 0 := by omega
    subst this
    exact ⟨0, sk, ys, rfl, h1⟩
  case round =>
    clear HI0
    obtain ⟨k, sk, ys, rfl, hk, hyl, hown, hrd, hbt, hsk, HQ2⟩ := hrel
    by_cases hlt : k < n
    · have hsz := hbt.size
      have hst : Hid (itemsS (nameS tbl) (n - k) sk = if ((nameS tbl) sk).2.err = 0 then (((nameS tbl) sk).1 :: (itemsS (nameS tbl) (n - (k + 1)) ((nameS tbl) sk).2).1, (itemsS (nameS tbl) (n - (k + 1)) ((nameS tbl) sk).2).2) else ([], ((nameS tbl) sk).2)) := Lib.hid (by
        rw [show n - k = (n - (k + 1)) + 1 by omega]
        rfl)
      have HN := Lib.hid (pname_any h g t T c tbl sk wr (HH.out.but hbt) hrd)
      have HHW := Lib.hid (HH.out.but hbt)
      generalize (nameS tbl) sk = Z at *
      obtain ⟨x, s'⟩ := Z
      simp only at hst HN
      have HOWN := Lib.hid hown
      have HBT := Lib.hid hbt
      clear hown hrd hbt
      go_wp2_with fail
      go_at_call 42
      refine HN.out.mono ?_
      rintro e' W3 ⟨v0, rfl, hv0, hr3, hb3⟩
      have HV0 := Lib.hid hv0
      clear hv0
      have y0 := (HHW.out.but hb3).c0
      have HE := Lib.hid (perr_any g s' W3 hr3)
      have HR3 := Lib.hid hr3
      have HB3 := Lib.hid hb3
      clear hr3 hb3 HN
      by_cases he : s'.err = 0
      · rw [he] at HE
        rw [if_pos he] at hst
        obtain rfl : x = v0 := (HV0.out he).symm
        have hown2 : (W3.alloc (.cells #[.string x] 9)).ownsRow w.heap.size 9 1 u5 k (ys.flatMap (fun x => [Value.string x])) :=
          (own_block HOWN.out (fun k hk1 hk2 _ => HB3.out.block k hk2 (by omega))).alloc _
        have hbw : But g w W3 := HBT.out.trans HB3.out
        have hwz := hbw.size
        have HBW := Lib.hid hbw
        clear hbw
        go_wp2_with (first
          | (at_builtin; refine wpList_append_own _ rfl _ _ 22 rfl w.heap.size 9 i0 (.string { data := #[] }) 1 16 Tryz.underlying22 hi hz0 hz1 hz2 rfl (by decide) _ _ _ rfl hown2 ⟨W3.heap.size, 0, none⟩ 1 1 [.string x] rfl rfl ?c1 ?c2 ?c3 ?c4 ?c5 ?_)
          | (go_at_call 89; refine HE.out.mono ?_; rintro e' w3 ⟨rfl, hw⟩; obtain rfl := hw.symm))
        case c1 =>
          intro j u hj
          rw [add0]
          exact row_new W3 [.string x] 9 j u hj
        case c2 => intro u hu; simp at hu; (subst hu; rfl)
        case c3 => unfold maxLen; omega
        case c4 => omega
        case c5 => simp; omega
        intro v' w4 hown' hgrow _
        have hown3 : w4.ownsRow w.heap.size 9 1 v' (k + 1) ((ys ++ [x]).flatMap (fun x => [Value.string x])) := by
          rw [List.flatMap_append, List.flatMap_singleton]; exact hown'
        have hg4 : ∀ j, j < w.heap.size → w4.heap[j]? = W3.heap[j]? := fun j hj => (hgrow.block j (by simp; omega) (own_ne_low hown2 hj)).trans (Below.heap_alloc _ _ _ (by omega))
        have hb4 : But g w w4 := ⟨hgrow.os.trans HBW.out.os, hgrow.tape.trans HBW.out.tape, hgrow.output.trans HBW.out.output, by have := hgrow.size; simp at this; omega, fun j hj hne => (hg4 j hj).trans (HBW.out.block j hj hne)⟩
        have hr4 : PRd w4 g s' := HR3.out.low (by have := hgrow.size; simp at this; omega) (fun j hj => hg4 j (by omega))
        clear hown' hgrow hown2 hg4
        go_wp2_with fail
        go_roundw
        case rel => exact ⟨k + 1, s', ys ++ [x], by go_num, by omega, by simp [hyl], hown3, hr4, hb4, fun _ => he, Lib.hid (by rw [HQ2.out, hst.out]; simp)⟩
        case measure => simp [intOf]; omega
      · have e2 : (s'.err == 0) = false := by simp [he]
        have e3 : (s'.err != 0) = true := by simp [he]
        rw [if_neg he] at hst
        have HHE := Lib.hid he
        have HQ3 : Hid (Q = (ys, s')) := Lib.hid (by rw [HQ2.out, hst.out]; simp)
        clear he
        generalize s'.err = er at HE e2 e3
        go_wp2_with (go_at_call 89; refine HE.out.mono ?_; rintro e' w3 ⟨rfl, hw⟩; obtain rfl := hw)
        go_ret
        rw [HQ3.out]
        exact ⟨none, 0, 0, rfl, HR3.out, HBT.out.trans HB3.out, fun h0 => absurd h0 HHE.out⟩
    · have hkn : k = n := by omega
      have HQ3 : Hid (Q = (ys, sk)) := Lib.hid (by rw [HQ2.out, hkn, Nat.sub_self]; simp [itemsS])
      obtain ⟨A, cc, hv⟩ : ∃ A cc, u5 = .slice A k cc := by
        rcases hown.2 with ⟨h1, h2⟩ | ⟨g', cap, cur, h1, _⟩
        · exact ⟨none, 0, by rw [h1, h2]⟩
        · exact ⟨_, cap, h1⟩
      subst hv
      have HOWN := Lib.hid hown
      have HRD := Lib.hid hrd
      have HBT := Lib.hid hbt
      clear hown hrd hbt
      go_wp2_with fail
      go_ret
      rw [HQ3.out]
      exact ⟨A, cc, k, rfl, HRD.out, HBT.out, fun _ => ⟨hyl, HOWN.out⟩⟩
end Go.Proofs.YtbnljlpefpllcaaGreatDoor
namespace Go.Proofs.YtbnljlpefpllcaaGreatDoor
open Go Go.RowKit
theorem infoPr : (Tryz.prog.info? 79).map (fun i => (i.zero, i.size, i.bytes)) = some (some (.agg #[.int .i64 0, .int .i64 0]), 2, 16) := by kernel_rfl
set_option maxRecDepth 100000 in
set_option maxHeartbeats 4000000 in
theorem pitems_pair (h g t : Nat) (T : Option Addr) (c : Nat) (tbl : List ByteArray) (s : Rs) (w : World) (H : DTab w h g t T c tbl) (hr : PRd w g s) :
    Calls Tryz.prog 44 #[.pointer (some ⟨h, 0, none⟩), .func (.func 45) #[.pointer (some ⟨h, 0, none⟩)] #[]] w fun e' w' => ∃ A c n, e' = .returned (.slice A n c) ∧ PRd w' g (listS pairS s).2 ∧ But g w w' ∧
      ((listS pairS s).2.err = 0 → (listS pairS s).1.length = n ∧ w'.ownsRow w.heap.size 79 2 (.slice A n c) n ((listS pairS s).1.flatMap (fun x => [Value.int .i64 x.1, .int .i64 x.2]))) := by
  obtain ⟨i0, hi, hz0, hz1, hz2⟩ := info_parts infoPr
  have hC := pcount_any g s w hr
  have hgl := hr.lt
  have hD0 := H.c0
  have HH := Lib.hid H
  have hnl := count_le 65535 s
  have hn0 := count_zero 65535 s
  obtain ⟨Q, hQ⟩ : ∃ Q, listS pairS s = Q := ⟨_, rfl⟩
  rw [hQ]
  unfold listS at hQ
  generalize countS 65535 s = K at *
  obtain ⟨n, s0⟩ := K
  simp only at hC hQ hnl hn0
  have HQ := Lib.hid hQ
  have HC := Lib.hid hC
  clear hQ hC hr H
  go_enter Tryz.func44, Tryz.ntmps44
  go_wp2_with (go_at_call 88; refine HC.out.mono ?_; rintro e' w1 ⟨rfl, hr1, hb1⟩; have HR1 := Lib.hid hr1; have HB1 := Lib.hid hb1; clear hr1 hb1)
  have hI0 : ∃ (k : Nat) (sk : Rs) (ys : List (Int × Int)), n - n = k ∧ k ≤ n ∧ ys.length = k ∧ w1.ownsRow w.heap.size 79 2 (.slice none 0 0) k (ys.flatMap (fun x => [Value.int .i64 x.1, .int .i64 x.2])) ∧ PRd w1 g sk ∧ But g w w1 ∧ (0 < n → sk.err = 0) ∧ Hid (Q = (ys ++ (itemsS pairS (n - k) sk).1, (itemsS pairS (n - k) sk).2)) :=
    ⟨0, s0, [], by omega, by omega, rfl, World.ownsRow_nil _ _ _ _, HR1.out, HB1.out, fun h => Decidable.byContradiction fun h1 => by have := hn0 h1; omega, Lib.hid (by rw [← HQ.out]; rfl)⟩
  have HI0 := Lib.hid hI0
  clear hI0 HR1 HB1 HC
  go_loopw [5, 12] (fun v i wr => ∃ (k : Nat) (sk : Rs) (ys : List (Int × Int)), i = .int .i64 k ∧ k ≤ n ∧ ys.length = k ∧ wr.ownsRow w.heap.size 79 2 v k (ys.flatMap (fun x => [Value.int .i64 x.1, .int .i64 x.2])) ∧ PRd wr g sk ∧ But g w wr ∧ (0 < n → sk.err = 0) ∧ Hid (Q = (ys ++ (itemsS pairS (n - k) sk).1, (itemsS pairS (n - k) sk).2))) (fun _ i _ => n - (intOf i).toNat)
  case atStart =>
    obtain ⟨k, sk, ys, hk, h1⟩ := HI0.out
    have : k = 0 := by omega
    subst this
    exact ⟨0, sk, ys, rfl, h1⟩
  case round =>
    clear HI0
    obtain ⟨k, sk, ys, rfl, hk, hyl, hown, hrd, hbt, hsk, HQ2⟩ := hrel
    by_cases hlt : k < n
    · have hsz := hbt.size
      have hst : Hid (itemsS pairS (n - k) sk = if (pairS sk).2.err = 0 then ((pairS sk).1 :: (itemsS pairS (n - (k + 1)) (pairS sk).2).1, (itemsS pairS (n - (k + 1)) (pairS sk).2).2) else ([], (pairS sk).2)) := Lib.hid (by
        rw [show n - k = (n - (k + 1)) + 1 by omega]
        rfl)
      have HN := Lib.hid (ppair_any h g t T c tbl sk wr (HH.out.but hbt) hrd)
      have HHW := Lib.hid (HH.out.but hbt)
      generalize pairS sk = Z at *
      obtain ⟨x, s'⟩ := Z
      simp only at hst HN
      have HOWN := Lib.hid hown
      have HBT := Lib.hid hbt
      clear hown hrd hbt
      go_wp2_with fail
      go_at_call 45
      refine HN.out.mono ?_
      rintro e' w2 ⟨rfl, hr2, hb2⟩
      obtain ⟨W3, hW3⟩ : ∃ W3, w2.alloc (.cells #[.int .i64 x.1, .int .i64 x.2] 79) = W3 := ⟨_, rfl⟩
      have hbW : Below w2.heap.size w2 W3 := by rw [← hW3]; exact (Below.refl _ _).alloc (Nat.le_refl _) _
      have hkW : W3.heap[w2.heap.size]? = some (.cells #[.int .i64 x.1, .int .i64 x.2] 79 (0, 0)) := by rw [← hW3]; exact heap_alloc_new w2 _
      obtain ⟨z0, z1, _, _⟩ := blk2 hkW
      have hr3 := hr2.keep hbW
      have hb3 : But g wr W3 := hb2.trans (But.of_below hbW)
      clear hr2 hb2 hbW hkW
      have y0 := (HHW.out.but hb3).c0
      have HE := Lib.hid (perr_any g s' W3 hr3)
      have HR3 := Lib.hid hr3
      have HB3 := Lib.hid hb3
      clear hr3 hb3 HN
      by_cases he : s'.err = 0
      · rw [he] at HE
        rw [if_pos he] at hst
        skip
        have hown2 : (W3.alloc (.cells #[.int .i64 x.1, .int .i64 x.2] 79)).ownsRow w.heap.size 79 2 u5 k (ys.flatMap (fun x => [Value.int .i64 x.1, .int .i64 x.2])) :=
          (own_block HOWN.out (fun k hk1 hk2 _ => HB3.out.block k hk2 (by omega))).alloc _
        have hbw : But g w W3 := HBT.out.trans HB3.out
        have hwz := hbw.size
        have HBW := Lib.hid hbw
        clear hbw
        go_wp2_with (first
          | (at_builtin; refine wpList_append_own _ rfl _ _ 23 rfl w.heap.size 79 i0 (.agg #[.int .i64 0, .int .i64 0]) 2 16 Tryz.underlying23 hi hz0 hz1 hz2 rfl (by decide) _ _ _ rfl hown2 ⟨W3.heap.size, 0, none⟩ 1 1 [.int .i64 x.1, .int .i64 x.2] rfl rfl ?c1 ?c2 ?c3 ?c4 ?c5 ?_)
          | (go_at_call 89; refine HE.out.mono ?_; rintro e' w3 ⟨rfl, hw⟩; obtain rfl := hw.symm))
        case c1 =>
          intro j u hj
          rw [add0]
          exact row_new W3 [.int .i64 x.1, .int .i64 x.2] 79 j u hj
        case c2 => intro u hu; simp at hu; (rcases hu with rfl | rfl <;> rfl)
        case c3 => unfold maxLen; omega
        case c4 => omega
        case c5 => simp; omega
        intro v' w4 hown' hgrow _
        have hown3 : w4.ownsRow w.heap.size 79 2 v' (k + 1) ((ys ++ [x]).flatMap (fun x => [Value.int .i64 x.1, .int .i64 x.2])) := by
          rw [List.flatMap_append, List.flatMap_singleton]; exact hown'
        have hg4 : ∀ j, j < w.heap.size → w4.heap[j]? = W3.heap[j]? := fun j hj => (hgrow.block j (by simp; omega) (own_ne_low hown2 hj)).trans (Below.heap_alloc _ _ _ (by omega))
        have hb4 : But g w w4 := ⟨hgrow.os.trans HBW.out.os, hgrow.tape.trans HBW.out.tape, hgrow.output.trans HBW.out.output, by have := hgrow.size; simp at this; omega, fun j hj hne => (hg4 j hj).trans (HBW.out.block j hj hne)⟩
        have hr4 : PRd w4 g s' := HR3.out.low (by have := hgrow.size; simp at this; omega) (fun j hj => hg4 j (by omega))
        clear hown' hgrow hown2 hg4
        go_wp2_with fail
        go_roundw
        case rel => exact ⟨k + 1, s', ys ++ [x], by go_num, by omega, by simp [hyl], hown3, hr4, hb4, fun _ => he, Lib.hid (by rw [HQ2.out, hst.out]; simp)⟩
        case measure => simp [intOf]; omega
      · have e2 : (s'.err == 0) = false := by simp [he]
        have e3 : (s'.err != 0) = true := by simp [he]
        rw [if_neg he] at hst
        have HHE := Lib.hid he
        have HQ3 : Hid (Q = (ys, s')) := Lib.hid (by rw [HQ2.out, hst.out]; simp)
        clear he
        generalize s'.err = er at HE e2 e3
        go_wp2_with (go_at_call 89; refine HE.out.mono ?_; rintro e' w3 ⟨rfl, hw⟩; obtain rfl := hw)
        go_ret
        rw [HQ3.out]
        exact ⟨none, 0, 0, rfl, HR3.out, HBT.out.trans HB3.out, fun h0 => absurd h0 HHE.out⟩
    · have hkn : k = n := by omega
      have HQ3 : Hid (Q = (ys, sk)) := Lib.hid (by rw [HQ2.out, hkn, Nat.sub_self]; simp [itemsS])
      obtain ⟨A, cc, hv⟩ : ∃ A cc, u5 = .slice A k cc := by
        rcases hown.2 with ⟨h1, h2⟩ | ⟨g', cap, cur, h1, _⟩
        · exact ⟨none, 0, by rw [h1, h2]⟩
        · exact ⟨_, cap, h1⟩
      subst hv
      have HOWN := Lib.hid hown
      have HRD := Lib.hid hrd
      have HBT := Lib.hid hbt
      clear hown hrd hbt
      go_wp2_with fail
      go_ret
      rw [HQ3.out]
      exact ⟨A, cc, k, rfl, HRD.out, HBT.out, fun _ => ⟨hyl, HOWN.out⟩⟩
end Go.Proofs.YtbnljlpefpllcaaGreatDoor
namespace Go.Proofs.YtbnljlpefpllcaaGreatDoor
open Go Go.RowKit
theorem infoLc : (Tryz.prog.info? 87).map (fun i => (i.zero, i.size, i.bytes)) = some (some (.agg #[.string { data := #[] }, .int .i64 0]), 2, 24) := by kernel_rfl
set_option maxRecDepth 100000 in
set_option maxHeartbeats 4000000 in
theorem pitems_loc (h g t : Nat) (T : Option Addr) (c : Nat) (tbl : List ByteArray) (s : Rs) (w : World) (H : DTab w h g t T c tbl) (hr : PRd w g s) :
    Calls Tryz.prog 48 #[.pointer (some ⟨h, 0, none⟩), .func (.func 49) #[.pointer (some ⟨h, 0, none⟩)] #[]] w fun e' w' => ∃ A c n, e' = .returned (.slice A n c) ∧ PRd w' g (listS (localS tbl) s).2 ∧ But g w w' ∧
      ((listS (localS tbl) s).2.err = 0 → (listS (localS tbl) s).1.length = n ∧ w'.ownsRow w.heap.size 87 2 (.slice A n c) n ((listS (localS tbl) s).1.flatMap (fun x => [Value.string x.name, .int .i64 x.type]))) := by
  obtain ⟨i0, hi, hz0, hz1, hz2⟩ := info_parts infoLc
  have hC := pcount_any g s w hr
  have hgl := hr.lt
  have hD0 := H.c0
  have HH := Lib.hid H
  have hnl := count_le 65535 s
  have hn0 := count_zero 65535 s
  obtain ⟨Q, hQ⟩ : ∃ Q, listS (localS tbl) s = Q := ⟨_, rfl⟩
  rw [hQ]
  unfold listS at hQ
  generalize countS 65535 s = K at *
  obtain ⟨n, s0⟩ := K
  simp only at hC hQ hnl hn0
  have HQ := Lib.hid hQ
  have HC := Lib.hid hC
  clear hQ hC hr H
  go_enter Tryz.func48, Tryz.ntmps48
  go_wp2_with (go_at_call 88; refine HC.out.mono ?_; rintro e' w1 ⟨rfl, hr1, hb1⟩; have HR1 := Lib.hid hr1; have HB1 := Lib.hid hb1; clear hr1 hb1)
  have hI0 : ∃ (k : Nat) (sk : Rs) (ys : List Lc), n - n = k ∧ k ≤ n ∧ ys.length = k ∧ w1.ownsRow w.heap.size 87 2 (.slice none 0 0) k (ys.flatMap (fun x => [Value.string x.name, .int .i64 x.type])) ∧ PRd w1 g sk ∧ But g w w1 ∧ (0 < n → sk.err = 0) ∧ Hid (Q = (ys ++ (itemsS (localS tbl) (n - k) sk).1, (itemsS (localS tbl) (n - k) sk).2)) :=
    ⟨0, s0, [], by omega, by omega, rfl, World.ownsRow_nil _ _ _ _, HR1.out, HB1.out, fun h => Decidable.byContradiction fun h1 => by have := hn0 h1; omega, Lib.hid (by rw [← HQ.out]; rfl)⟩
  have HI0 := Lib.hid hI0
  clear hI0 HR1 HB1 HC
  go_loopw [5, 12] (fun v i wr => ∃ (k : Nat) (sk : Rs) (ys : List Lc), i = .int .i64 k ∧ k ≤ n ∧ ys.length = k ∧ wr.ownsRow w.heap.size 87 2 v k (ys.flatMap (fun x => [Value.string x.name, .int .i64 x.type])) ∧ PRd wr g sk ∧ But g w wr ∧ (0 < n → sk.err = 0) ∧ Hid (Q = (ys ++ (itemsS (localS tbl) (n - k) sk).1, (itemsS (localS tbl) (n - k) sk).2))) (fun _ i _ => n - (intOf i).toNat)
  case atStart =>
    obtain ⟨k, sk, ys, hk, h1⟩ := HI0.out
    have : k = 0 := by omega
    subst this
    exact ⟨0, sk, ys, rfl, h1⟩
  case round =>
    clear HI0
    obtain ⟨k, sk, ys, rfl, hk, hyl, hown, hrd, hbt, hsk, HQ2⟩ := hrel
    by_cases hlt : k < n
    · have hsz := hbt.size
      have hst : Hid (itemsS (localS tbl) (n - k) sk = if ((localS tbl) sk).2.err = 0 then (((localS tbl) sk).1 :: (itemsS (localS tbl) (n - (k + 1)) ((localS tbl) sk).2).1, (itemsS (localS tbl) (n - (k + 1)) ((localS tbl) sk).2).2) else ([], ((localS tbl) sk).2)) := Lib.hid (by
        rw [show n - k = (n - (k + 1)) + 1 by omega]
        rfl)
      have HN := Lib.hid (plocal_any h g t T c tbl sk wr (HH.out.but hbt) hrd)
      have HHW := Lib.hid (HH.out.but hbt)
      generalize (localS tbl) sk = Z at *
      obtain ⟨x, s'⟩ := Z
      simp only at hst HN
      have HOWN := Lib.hid hown
      have HBT := Lib.hid hbt
      clear hown hrd hbt
      go_wp2_with fail
      go_at_call 49
      refine HN.out.mono ?_
      rintro e' w2 ⟨v0, rfl, hv0, hr2, hb2⟩
      have HV0 := Lib.hid hv0
      clear hv0
      obtain ⟨W3, hW3⟩ : ∃ W3, w2.alloc (.cells #[.string v0, .int .i64 x.type] 87) = W3 := ⟨_, rfl⟩
      have hbW : Below w2.heap.size w2 W3 := by rw [← hW3]; exact (Below.refl _ _).alloc (Nat.le_refl _) _
      have hkW : W3.heap[w2.heap.size]? = some (.cells #[.string v0, .int .i64 x.type] 87 (0, 0)) := by rw [← hW3]; exact heap_alloc_new w2 _
      obtain ⟨z0, z1, _, _⟩ := blk2 hkW
      have hr3 := hr2.keep hbW
      have hb3 : But g wr W3 := hb2.trans (But.of_below hbW)
      clear hr2 hb2 hbW hkW
      have y0 := (HHW.out.but hb3).c0
      have HE := Lib.hid (perr_any g s' W3 hr3)
      have HR3 := Lib.hid hr3
      have HB3 := Lib.hid hb3
      clear hr3 hb3 HN
      by_cases he : s'.err = 0
      · rw [he] at HE
        rw [if_pos he] at hst
        obtain rfl : v0 = x.name := HV0.out he
        have hown2 : (W3.alloc (.cells #[.string x.name, .int .i64 x.type] 87)).ownsRow w.heap.size 87 2 u5 k (ys.flatMap (fun x => [Value.string x.name, .int .i64 x.type])) :=
          (own_block HOWN.out (fun k hk1 hk2 _ => HB3.out.block k hk2 (by omega))).alloc _
        have hbw : But g w W3 := HBT.out.trans HB3.out
        have hwz := hbw.size
        have HBW := Lib.hid hbw
        clear hbw
        go_wp2_with (first
          | (at_builtin; refine wpList_append_own _ rfl _ _ 25 rfl w.heap.size 87 i0 (.agg #[.string { data := #[] }, .int .i64 0]) 2 24 Tryz.underlying25 hi hz0 hz1 hz2 rfl (by decide) _ _ _ rfl hown2 ⟨W3.heap.size, 0, none⟩ 1 1 [.string x.name, .int .i64 x.type] rfl rfl ?c1 ?c2 ?c3 ?c4 ?c5 ?_)
          | (go_at_call 89; refine HE.out.mono ?_; rintro e' w3 ⟨rfl, hw⟩; obtain rfl := hw.symm))
        case c1 =>
          intro j u hj
          rw [add0]
          exact row_new W3 [.string x.name, .int .i64 x.type] 87 j u hj
        case c2 => intro u hu; simp at hu; (rcases hu with rfl | rfl <;> rfl)
        case c3 => unfold maxLen; omega
        case c4 => omega
        case c5 => simp; omega
        intro v' w4 hown' hgrow _
        have hown3 : w4.ownsRow w.heap.size 87 2 v' (k + 1) ((ys ++ [x]).flatMap (fun x => [Value.string x.name, .int .i64 x.type])) := by
          rw [List.flatMap_append, List.flatMap_singleton]; exact hown'
        have hg4 : ∀ j, j < w.heap.size → w4.heap[j]? = W3.heap[j]? := fun j hj => (hgrow.block j (by simp; omega) (own_ne_low hown2 hj)).trans (Below.heap_alloc _ _ _ (by omega))
        have hb4 : But g w w4 := ⟨hgrow.os.trans HBW.out.os, hgrow.tape.trans HBW.out.tape, hgrow.output.trans HBW.out.output, by have := hgrow.size; simp at this; omega, fun j hj hne => (hg4 j hj).trans (HBW.out.block j hj hne)⟩
        have hr4 : PRd w4 g s' := HR3.out.low (by have := hgrow.size; simp at this; omega) (fun j hj => hg4 j (by omega))
        clear hown' hgrow hown2 hg4
        go_wp2_with fail
        go_roundw
        case rel => exact ⟨k + 1, s', ys ++ [x], by go_num, by omega, by simp [hyl], hown3, hr4, hb4, fun _ => he, Lib.hid (by rw [HQ2.out, hst.out]; simp)⟩
        case measure => simp [intOf]; omega
      · have e2 : (s'.err == 0) = false := by simp [he]
        have e3 : (s'.err != 0) = true := by simp [he]
        rw [if_neg he] at hst
        have HHE := Lib.hid he
        have HQ3 : Hid (Q = (ys, s')) := Lib.hid (by rw [HQ2.out, hst.out]; simp)
        clear he
        generalize s'.err = er at HE e2 e3
        go_wp2_with (go_at_call 89; refine HE.out.mono ?_; rintro e' w3 ⟨rfl, hw⟩; obtain rfl := hw)
        go_ret
        rw [HQ3.out]
        exact ⟨none, 0, 0, rfl, HR3.out, HBT.out.trans HB3.out, fun h0 => absurd h0 HHE.out⟩
    · have hkn : k = n := by omega
      have HQ3 : Hid (Q = (ys, sk)) := Lib.hid (by rw [HQ2.out, hkn, Nat.sub_self]; simp [itemsS])
      obtain ⟨A, cc, hv⟩ : ∃ A cc, u5 = .slice A k cc := by
        rcases hown.2 with ⟨h1, h2⟩ | ⟨g', cap, cur, h1, _⟩
        · exact ⟨none, 0, by rw [h1, h2]⟩
        · exact ⟨_, cap, h1⟩
      subst hv
      have HOWN := Lib.hid hown
      have HRD := Lib.hid hrd
      have HBT := Lib.hid hbt
      clear hown hrd hbt
      go_wp2_with fail
      go_ret
      rw [HQ3.out]
      exact ⟨A, cc, k, rfl, HRD.out, HBT.out, fun _ => ⟨hyl, HOWN.out⟩⟩
end Go.Proofs.YtbnljlpefpllcaaGreatDoor
namespace Go.Proofs.YtbnljlpefpllcaaGreatDoor
open Go Go.RowKit
/-- An own row of two cells an element, read. -/
theorem slc_own2 {α : Type} {enc : α → List Value} (hk : ∀ x, (enc x).length = 2) {R : Rd α} (hR : ∀ (w : World) (B b o : Nat) (x : α), (∀ j u, (enc x)[j]? = some u → w.cell? ⟨b, o + j, none⟩ = some u) → R w B b o x) {w : World} {base n : Nat} {e : TypeId} {v : Value} {xs : List α}
    (h : w.ownsRow base e 2 v n (xs.flatMap enc)) (hn : xs.length = n) : ∃ A c, v = .slice A n c ∧ Slc 2 R w A c xs := by
  subst hn
  rcases h.2 with ⟨rfl, hz⟩ | ⟨g, cap, cur, rfl, hg, hh, hnc, hm, _, _⟩
  · have : xs = [] := List.length_eq_zero_iff.1 (by omega)
    subst this
    exact ⟨none, 0, rfl, Sl.nil, by simp, by omega⟩
  · refine ⟨some ⟨g, 0, none⟩, cap, rfl, ⟨fun _ => ⟨g, 0, rfl, (Array.getElem?_eq_some_iff.1 hh).1, fun i x hx => hR w _ g _ x (fun j u hu => ?_)⟩, by simpa using hnc, by simp only [maxLen] at hm; omega⟩⟩
    have hj : j < 2 := by
      have := (List.getElem?_eq_some_iff.1 hu).1
      rwa [hk] at this
    have hc := h.cells (g := g) rfl (i * 2 + j) u ((flat_get enc hk xs i x hx j hj).trans hu)
    rw [add0] at hc
    rw [Nat.zero_add]
    exact hc
theorem fld_good {g : Nat} {w : World} {y : TH} (h : FldAt g w y) : GoodH w y := by
  obtain ⟨A, c, hv, hs, _⟩ := slc_own (R := RInt) (fun w B b o x h => h) h rfl
  injection hv with h1 _ h3
  unfold GoodH
  rw [h1, h3]
  exact ⟨hs.sl, hs.le, hs.big⟩
def set7 (w : World) (k : Nat) (a b c d e f z : Value) : World := ((((((w.setCell ⟨k, 0, none⟩ a).setCell ⟨k, 1, none⟩ b).setCell ⟨k, 2, none⟩ c).setCell ⟨k, 3, none⟩ d).setCell ⟨k, 4, none⟩ e).setCell ⟨k, 5, none⟩ f).setCell ⟨k, 6, none⟩ z
theorem set7_far {w : World} {k j : Nat} (a b c d e f z : Value) (h : j ≠ k) : (set7 w k a b c d e f z).heap[j]? = w.heap[j]? := by
  unfold set7
  rw [Below.heap_setCell _ _ _ j (by simpa using h), Below.heap_setCell _ _ _ j (by simpa using h), Below.heap_setCell _ _ _ j (by simpa using h), Below.heap_setCell _ _ _ j (by simpa using h), Below.heap_setCell _ _ _ j (by simpa using h), Below.heap_setCell _ _ _ j (by simpa using h), Below.heap_setCell _ _ _ j (by simpa using h)]
theorem set7_size (w : World) (k : Nat) (a b c d e f z : Value) : (set7 w k a b c d e f z).heap.size = w.heap.size := by simp [set7]
theorem set7_below {w w2 : World} {n k : Nat} (a b c d e f z : Value) (h : Below n w w2) (hk : n ≤ k) : Below n w (set7 w2 k a b c d e f z) := by
  unfold set7
  exact ((((((h.setCell (p := ⟨k, 0, none⟩) hk _).setCell (p := ⟨k, 1, none⟩) hk _).setCell (p := ⟨k, 2, none⟩) hk _).setCell (p := ⟨k, 3, none⟩) hk _).setCell (p := ⟨k, 4, none⟩) hk _).setCell (p := ⟨k, 5, none⟩) hk _).setCell (p := ⟨k, 6, none⟩) hk _
theorem set7_but {g k : Nat} {w w2 : World} (a b c d e f z : Value) (h : But g w w2) (hk : w.heap.size ≤ k) : But g w (set7 w2 k a b c d e f z) := by
  unfold set7
  exact but_far (but_far (but_far (but_far (but_far (but_far (but_far h hk _ _) hk _ _) hk _ _) hk _ _) hk _ _) hk _ _) hk _ _
theorem set7_prd {g k : Nat} {w : World} {s : Rs} (a b c d e f z : Value) (h : PRd w g s) (hk : g < k) : PRd (set7 w k a b c d e f z) g s :=
  h.low (by rw [set7_size]; exact Nat.le_refl _) (fun j hj => set7_far _ _ _ _ _ _ _ (by omega))
theorem blk7 {w : World} {k : Nat} {a b c d e f z : Value} {t : TypeId} (h : w.heap[k]? = some (.cells #[a, b, c, d, e, f, z] t (0, 0))) :
    w.cell? ⟨k, 0, none⟩ = some a ∧ w.cell? ⟨k, 1, none⟩ = some b ∧ w.cell? ⟨k, 2, none⟩ = some c ∧ w.cell? ⟨k, 3, none⟩ = some d ∧ w.cell? ⟨k, 4, none⟩ = some e ∧ w.cell? ⟨k, 5, none⟩ = some f ∧ w.cell? ⟨k, 6, none⟩ = some z ∧ (∀ i, w.frozen? ⟨k, i, none⟩ = false) :=
  ⟨by rw [cell_of_row w _ 0 _ _ _ h]; rfl, by rw [cell_of_row w _ 1 _ _ _ h]; rfl, by rw [cell_of_row w _ 2 _ _ _ h]; rfl, by rw [cell_of_row w _ 3 _ _ _ h]; rfl, by rw [cell_of_row w _ 4 _ _ _ h]; rfl, by rw [cell_of_row w _ 5 _ _ _ h]; rfl, by rw [cell_of_row w _ 6 _ _ _ h]; rfl, fun i => by simp [World.frozen?, h]⟩
theorem blk7_set {w : World} {k : Nat} {a b c d e f z : Value} {t : TypeId} (a' b' c' d' e' f' z' : Value) (h : w.heap[k]? = some (.cells #[a, b, c, d, e, f, z] t (0, 0))) :
    (set7 w k a' b' c' d' e' f' z').heap[k]? = some (.cells #[a', b', c', d', e', f', z'] t (0, 0)) := by
  simp [set7, World.setCell, Array.getElem?_modify, h]
theorem blk7_put {w : World} {k i : Nat} {a b c d e f z v : Value} {t : TypeId} (h : w.heap[k]? = some (.cells #[a, b, c, d, e, f, z] t (0, 0))) :
    (w.setCell ⟨k, i, none⟩ v).heap[k]? = some (.cells (#[a, b, c, d, e, f, z].setIfInBounds i v) t (0, 0)) := by
  simp [World.setCell, Array.getElem?_modify, h]
/-- Where nothing lies. -/
def noBH : BH := ⟨none, 0, none, 0, none, 0, none, 0, none, 0⟩
theorem noBd (w : World) : BdAt w noBody noBH := ⟨⟨Sl.nil, by simp [noBody], by simp [noBH]⟩, ⟨Sl.nil, by simp [noBody], by simp [noBH]⟩, ⟨Sl.nil, by simp [noBody], by simp [noBH]⟩, ⟨Sl.nil, by simp [noBody], by simp [noBH]⟩, ⟨Sl.nil, by simp [noBody], by simp [noBH]⟩⟩
end Go.Proofs.YtbnljlpefpllcaaGreatDoor
namespace Go.Proofs.YtbnljlpefpllcaaGreatDoor
open Go Go.RowKit
theorem but_put {g k i : Nat} {w X : World} {v : Value} (h : But g w X) (hk : w.heap.size ≤ k) : But g w (X.setCell ⟨k, i, none⟩ v) := but_far h hk i v
theorem prd_put {g k i : Nat} {X : World} {s : Rs} {v : Value} (h : PRd X g s) (hk : g < k) : PRd (X.setCell ⟨k, i, none⟩ v) g s :=
  h.low (by simp) (fun j hj => Below.heap_setCell _ _ _ j (by simp; omega))
theorem own_put {base n m k i : Nat} {X : World} {e : TypeId} {u v : Value} {xs : List Value} (h : X.ownsRow base e m u n xs) (hk : k < base) : (X.setCell ⟨k, i, none⟩ v).ownsRow base e m u n xs :=
  own_block h (fun j h1 _ _ => Below.heap_setCell _ _ _ j (by simp; omega))
theorem own_but {g base n m : Nat} {X Y : World} {e : TypeId} {u : Value} {xs : List Value} (h : X.ownsRow base e m u n xs) (hb : But g X Y) (hg : g < base) : Y.ownsRow base e m u n xs :=
  own_block h (fun j h1 h2 _ => hb.block j h2 (by omega))
theorem fld_put {g k : Nat} {X : World} {y : TH} {cs : Array Value} {z : Nat × Nat} (h : FldAt g X y) (hk : X.heap[k]? = some (.cells cs 28 z)) (i : Nat) (v : Value) : FldAt g (X.setCell ⟨k, i, none⟩ v) y :=
  own_block h (fun j _ _ hj => Below.heap_setCell _ _ _ j (fun e => by
    simp only at e
    rw [e] at hj
    exact own_ne h hk (by decide) hj))
/-- The rows of a body that is being read. -/
structure Rows (g b0 : Nat) (W : World) (rg : List ByteArray) (ot : List (Int × Int)) (ys : List TH) (lc : List Lc) (v1 v2 v3 v4 : Value) : Prop where
  r1 : W.ownsRow b0 9 1 v1 rg.length (rg.flatMap (fun x => [Value.string x]))
  r2 : W.ownsRow b0 79 2 v2 ot.length (ot.flatMap (fun x => [Value.int .i64 x.1, .int .i64 x.2]))
  r3 : W.ownsRow b0 83 5 v3 ys.length (ys.flatMap cellsH)
  r3f : ∀ y ∈ ys, FldAt g W y
  r4 : W.ownsRow b0 87 2 v4 lc.length (lc.flatMap (fun x => [Value.string x.name, .int .i64 x.type]))
set_option maxRecDepth 100000 in
set_option maxHeartbeats 4000000 in
theorem pdecode_any (data : List UInt8) (A : Option Addr) (c : Nat) (t : Nat) (T : Option Addr) (ct : Nat) (tbl : List ByteArray) (w : World) (hs : Slc 1 RB w A c data) (hl : data.length ≤ 1000000) (ht : TabAt w t T ct tbl) :
    Calls Tryz.prog 14 #[.slice A data.length c, .pointer (some ⟨t, 0, none⟩)] w fun e' w' => ∃ bh, e' = .returned (.tuple #[.agg (bdC (decS tbl data).1 bh).toArray, .int .i64 (decS tbl data).2]) ∧ BdAt w' (decS tbl data).1 bh ∧ Below w.heap.size w w' := by
  obtain ⟨W, hW⟩ : ∃ W, w.alloc (.cells #[.string ⟨#[]⟩, .slice none 0 0, .slice none 0 0, .slice none 0 0, .slice none 0 0, .int .i64 0, .slice none 0 0] 28) = W := ⟨_, rfl⟩
  have hb : Below w.heap.size w W := by rw [← hW]; exact (Below.refl _ _).alloc (Nat.le_refl _) _
  have hk : W.heap[w.heap.size]? = some (.cells #[.string ⟨#[]⟩, .slice none 0 0, .slice none 0 0, .slice none 0 0, .slice none 0 0, .int .i64 0, .slice none 0 0] 28 (0, 0)) := by rw [← hW]; exact heap_alloc_new w _
  have hWs : W.heap.size = w.heap.size + 1 := by rw [← hW]; simp
  have HNR := Lib.hid (pnew_any data A c W (hs.keep RB.keeps hb) hl)
  have HT := Lib.hid (ht.keep hb)
  have htl : t < w.heap.size := (Array.getElem?_eq_some_iff.1 ht.at_).1
  have hTl := ht.lt
  have HK := Lib.hid hk
  have HW := Lib.hid hb
  obtain ⟨Q, hQ⟩ : ∃ Q, decS tbl data = Q := ⟨_, rfl⟩
  rw [hQ]
  have HQ := Lib.hid hQ
  obtain ⟨N1, hN1⟩ : ∃ x, nameS tbl ⟨data, 0⟩ = x := ⟨_, rfl⟩
  obtain ⟨R1, hR1⟩ : ∃ x, listS (nameS tbl) N1.2 = x := ⟨_, rfl⟩
  obtain ⟨R2, hR2⟩ : ∃ x, listS pairS R1.2 = x := ⟨_, rfl⟩
  obtain ⟨R3, hR3⟩ : ∃ x, listS typeS R2.2 = x := ⟨_, rfl⟩
  obtain ⟨R4, hR4⟩ : ∃ x, listS (localS tbl) R3.2 = x := ⟨_, rfl⟩
  obtain ⟨R5, hR5⟩ : ∃ x, numS R4.2 = x := ⟨_, rfl⟩
  have HBODY : Hid (bodyS tbl ⟨data, 0⟩ = (⟨N1.1, R1.1, R2.1, R3.1, R4.1, R5.1, []⟩, R5.2)) := Lib.hid (by rw [← hR5, ← hR4, ← hR3, ← hR2, ← hR1, ← hN1]; rfl)
  have HST : Hid (R5.2.err = 0 → N1.2.err = 0 ∧ R1.2.err = 0 ∧ R2.2.err = 0 ∧ R3.2.err = 0 ∧ R4.2.err = 0) := Lib.hid (fun h5 => by
    have h4 : R4.2.err = 0 := Decidable.byContradiction fun h => h (by rw [← num_stay R4.2 h, hR5]; exact h5)
    have h3 : R3.2.err = 0 := Decidable.byContradiction fun h => h (by rw [← list_stay (local_stay tbl) R3.2 h, hR4]; exact h4)
    have h2 : R2.2.err = 0 := Decidable.byContradiction fun h => h (by rw [← list_stay type_stay R2.2 h, hR3]; exact h3)
    have h1 : R1.2.err = 0 := Decidable.byContradiction fun h => h (by rw [← list_stay pair_stay R1.2 h, hR2]; exact h2)
    have h0 : N1.2.err = 0 := Decidable.byContradiction fun h => h (by rw [← list_stay (name_stay tbl) N1.2 h, hR1]; exact h1)
    exact ⟨h0, h1, h2, h3, h4⟩)
  have HCALL1 := Lib.hid (fun h g t T ct w H hr => hR1 ▸ pitems_str h g t T ct tbl N1.2 w H hr)
  have HCALL2 := Lib.hid (fun h g t T ct w H hr => hR2 ▸ pitems_pair h g t T ct tbl R1.2 w H hr)
  have HCALL3 := Lib.hid (fun h g t T ct w H hr => hR3 ▸ pitems_typ h g t T ct tbl R2.2 w H hr)
  have HCALL4 := Lib.hid (fun h g t T ct w H hr => hR4 ▸ pitems_loc h g t T ct tbl R3.2 w H hr)
  have HCALL5 := Lib.hid (fun h g t T ct w H hr => hR5 ▸ pnum_any h g t T ct tbl R4.2 w H hr)
  have HCALL0 := Lib.hid (fun h g t T ct w H hr => hN1 ▸ pname_any h g t T ct tbl ⟨data, 0⟩ w H hr)
  clear hs ht hk hb hQ hN1 hR1 hR2 hR3 hR4 hR5
  go_enter Tryz.func14, Tryz.ntmps14
  go_wp2_with fail
  go_at_call 41
  refine HNR.out.mono ?_
  rintro e' w1 ⟨g, rfl, hg, hr1, hb1⟩
  have hgl := hr1.lt
  obtain ⟨W0, hW0⟩ : ∃ W0, w1.alloc (.cells #[.pointer (some ⟨g, 0, none⟩), .pointer (some ⟨t, 0, none⟩)] 96) = W0 := ⟨_, rfl⟩
  have hb0 : Below w1.heap.size w1 W0 := by rw [← hW0]; exact (Below.refl _ _).alloc (Nat.le_refl _) _
  have hh0 : W0.heap[w1.heap.size]? = some (.cells #[.pointer (some ⟨g, 0, none⟩), .pointer (some ⟨t, 0, none⟩)] 96 (0, 0)) := by rw [← hW0]; exact heap_alloc_new w1 _
  have hW0s : W0.heap.size = w1.heap.size + 1 := by rw [← hW0]; simp
  have hD0 : DTab W0 w1.heap.size g t T ct tbl := ⟨hh0, by omega, by omega, (HT.out.keep hb1).keep hb0, fun a ha => by have := hTl a ha; omega⟩
  have hr0 := hr1.keep hb0
  have hbW0 : Below w.heap.size w W0 := HW.out.trans ((hb1.mono HW.out.size).trans (hb0.mono (by omega)))
  have hk0 : W0.heap[w.heap.size]? = some (.cells #[.string ⟨#[]⟩, .slice none 0 0, .slice none 0 0, .slice none 0 0, .slice none 0 0, .int .i64 0, .slice none 0 0] 28 (0, 0)) := (hb0.block _ (by omega)).trans ((hb1.block _ (by omega)).trans HK.out)
  have hgw : w.heap.size < g := by omega
  have HN := Lib.hid (HCALL0.out w1.heap.size g t T ct W0 hD0 hr0)
  have HD0 := Lib.hid hD0
  have HBW0 := Lib.hid hbW0
  have HK0 := Lib.hid hk0
  clear hr1 hb1 hb0 hh0 hD0 hr0 hbW0 hk0 HNR HT HK HW
  go_wp2_with fail
  go_at_call 42
  refine HN.out.mono ?_
  rintro e' w2 ⟨nm, rfl, hnm, hr2, hb2⟩
  have hs2 := hb2.size
  obtain ⟨A2, hA2⟩ : ∃ A2, w2.alloc (.cells #[.string ⟨#[]⟩, .slice none 0 0, .slice none 0 0, .slice none 0 0, .slice none 0 0, .int .i64 0, .slice none 0 0] 28) = A2 := ⟨_, rfl⟩
  have hbA : Below w2.heap.size w2 A2 := by rw [← hA2]; exact (Below.refl _ _).alloc (Nat.le_refl _) _
  have hkA : A2.heap[w2.heap.size]? = some (.cells #[.string ⟨#[]⟩, .slice none 0 0, .slice none 0 0, .slice none 0 0, .slice none 0 0, .int .i64 0, .slice none 0 0] 28 (0, 0)) := by rw [← hA2]; exact heap_alloc_new w2 _
  obtain ⟨W3, hW3⟩ : ∃ W3, set7 A2 w2.heap.size (.string nm) (.slice none 0 0) (.slice none 0 0) (.slice none 0 0) (.slice none 0 0) (.int .i64 0) (.slice none 0 0) = W3 := ⟨_, rfl⟩
  have hk3 : W3.heap[w2.heap.size]? = some (.cells #[.string nm, .slice none 0 0, .slice none 0 0, .slice none 0 0, .slice none 0 0, .int .i64 0, .slice none 0 0] 28 (0, 0)) := by rw [← hW3]; exact blk7_set _ _ _ _ _ _ _ hkA
  have hb3 : But g W0 W3 := by rw [← hW3]; exact set7_but _ _ _ _ _ _ _ (hb2.trans (But.of_below hbA)) hs2
  have hr3 : PRd W3 g N1.2 := by rw [← hW3]; exact set7_prd _ _ _ _ _ _ _ (hr2.keep hbA) (by omega)
  have hW3s : W3.heap.size = w2.heap.size + 1 := by rw [← hW3, set7_size, ← hA2]; simp
  obtain ⟨a0, a1, a2, a3, a4, a5, a6, a7⟩ := blk7 hkA
  have a70 := a7 0
  have a71 := a7 1
  have a72 := a7 2
  have a73 := a7 3
  have a74 := a7 4
  have a75 := a7 5
  have a76 := a7 6
  have HNM := Lib.hid hnm
  have HR3 := Lib.hid hr3
  have HB3 := Lib.hid hb3
  have HK3 := Lib.hid hk3
  unfold set7 at hW3
  clear hr2 hb2 hbA hkA hr3 hb3 hk3 a7 HN hnm
  go_wp2_with fail
  go_at_call 43
  refine (HCALL1.out w1.heap.size g t T ct W3 (HD0.out.but HB3.out) HR3.out).mono ?_
  rintro e' Y1 ⟨A1', c1', n1', rfl, hr, hb, hrow⟩
  have hkY := hb.blk HK3.out (by omega)
  have hbX := HB3.out.trans hb
  have hXs := HB3.out.size
  have hYs := hbX.size
  have hXY := hb.size
  obtain ⟨X1, hX1⟩ : ∃ X, Y1.setCell ⟨w2.heap.size, 1, none⟩ (.slice A1' n1' c1') = X := ⟨_, rfl⟩
  have hk' : X1.heap[w2.heap.size]? = some (.cells #[.string nm, .slice A1' n1' c1', .slice none 0 0, .slice none 0 0, .slice none 0 0, .int .i64 0, .slice none 0 0] 28 (0, 0)) := by rw [← hX1]; exact blk7_put hkY
  have hsz1 : w2.heap.size + 1 ≤ X1.heap.size := by
    have h9 : (Y1.setCell ⟨w2.heap.size, 1, none⟩ (.slice A1' n1' c1')).heap.size = Y1.heap.size := by simp
    rw [hX1] at h9
    omega
  have hb' : But g W0 X1 := by rw [← hX1]; exact but_put hbX hs2
  have hr' : PRd X1 g R1.2 := by rw [← hX1]; exact prd_put hr (by omega)
  have hrow1' := fun h0 => (⟨(hrow h0).1, own_put (k := w2.heap.size) (i := 1) (v := .slice A1' n1' c1') (own_mono (hrow h0).2 (by omega)) (by omega)⟩ : R1.1.length = n1' ∧ (Y1.setCell ⟨w2.heap.size, 1, none⟩ (.slice A1' n1' c1')).ownsRow (w2.heap.size + 1) 9 1 (.slice A1' n1' c1') n1' (R1.1.flatMap (fun x => [Value.string x])))
  rw [hX1] at hrow1'
  obtain ⟨a0, a1, a2, a3, a4, a5, a6, a7⟩ := blk7 hkY
  have a71 := a7 1
  have HROW1 := Lib.hid hrow1'
  clear hrow1'
  have HKX1 := Lib.hid hk'
  have HBX1 := Lib.hid hb'
  have HRX1 := Lib.hid hr'
  have y0 := (HD0.out.but hb').c0
  clear hkY hbX hk' hb' hr' hr hb a7 hXs hYs hXY hrow
  go_wp2_with fail
  go_at_call 44
  refine (HCALL2.out w1.heap.size g t T ct X1 (HD0.out.but HBX1.out) HRX1.out).mono ?_
  rintro e' Y2 ⟨A2', c2', n2', rfl, hr, hb, hrow⟩
  have hkY := hb.blk HKX1.out (by omega)
  have hbX := HBX1.out.trans hb
  have hXs := HBX1.out.size
  have hYs := hbX.size
  have hXY := hb.size
  obtain ⟨X2, hX2⟩ : ∃ X, Y2.setCell ⟨w2.heap.size, 2, none⟩ (.slice A2' n2' c2') = X := ⟨_, rfl⟩
  have hk' : X2.heap[w2.heap.size]? = some (.cells #[.string nm, .slice A1' n1' c1', .slice A2' n2' c2', .slice none 0 0, .slice none 0 0, .int .i64 0, .slice none 0 0] 28 (0, 0)) := by rw [← hX2]; exact blk7_put hkY
  have hsz2 : w2.heap.size + 1 ≤ X2.heap.size := by
    have h9 : (Y2.setCell ⟨w2.heap.size, 2, none⟩ (.slice A2' n2' c2')).heap.size = Y2.heap.size := by simp
    rw [hX2] at h9
    omega
  have hb' : But g W0 X2 := by rw [← hX2]; exact but_put hbX hs2
  have hr' : PRd X2 g R2.2 := by rw [← hX2]; exact prd_put hr (by omega)
  have hrow1' := fun h0 => (⟨(HROW1.out h0).1, own_put (k := w2.heap.size) (i := 2) (v := .slice A2' n2' c2') (own_but (HROW1.out h0).2 hb (by omega)) (by omega)⟩ : R1.1.length = n1' ∧ (Y2.setCell ⟨w2.heap.size, 2, none⟩ (.slice A2' n2' c2')).ownsRow (w2.heap.size + 1) 9 1 (.slice A1' n1' c1') n1' (R1.1.flatMap (fun x => [Value.string x])))
  rw [hX2] at hrow1'
  have hrow2' := fun h0 => (⟨(hrow h0).1, own_put (k := w2.heap.size) (i := 2) (v := .slice A2' n2' c2') (own_mono (hrow h0).2 (by omega)) (by omega)⟩ : R2.1.length = n2' ∧ (Y2.setCell ⟨w2.heap.size, 2, none⟩ (.slice A2' n2' c2')).ownsRow (w2.heap.size + 1) 79 2 (.slice A2' n2' c2') n2' (R2.1.flatMap (fun x => [Value.int .i64 x.1, .int .i64 x.2])))
  rw [hX2] at hrow2'
  obtain ⟨a0, a1, a2, a3, a4, a5, a6, a7⟩ := blk7 hkY
  have a72 := a7 2
  clear HROW1
  have HROW1 := Lib.hid hrow1'
  clear hrow1'
  have HROW2 := Lib.hid hrow2'
  clear hrow2'
  have HKX2 := Lib.hid hk'
  have HBX2 := Lib.hid hb'
  have HRX2 := Lib.hid hr'
  have y0 := (HD0.out.but hb').c0
  clear hkY hbX hk' hb' hr' hr hb a7 hXs hYs hXY hrow
  go_wp2_with fail
  go_at_call 46
  refine (HCALL3.out w1.heap.size g t T ct X2 (HD0.out.but HBX2.out) HRX2.out).mono ?_
  rintro e' Y3 ⟨A3', c3', n3', rfl, hr, hb, hrow⟩
  have hkY := hb.blk HKX2.out (by omega)
  have hbX := HBX2.out.trans hb
  have hXs := HBX2.out.size
  have hYs := hbX.size
  have hXY := hb.size
  obtain ⟨X3, hX3⟩ : ∃ X, Y3.setCell ⟨w2.heap.size, 3, none⟩ (.slice A3' n3' c3') = X := ⟨_, rfl⟩
  have hk' : X3.heap[w2.heap.size]? = some (.cells #[.string nm, .slice A1' n1' c1', .slice A2' n2' c2', .slice A3' n3' c3', .slice none 0 0, .int .i64 0, .slice none 0 0] 28 (0, 0)) := by rw [← hX3]; exact blk7_put hkY
  have hsz3 : w2.heap.size + 1 ≤ X3.heap.size := by
    have h9 : (Y3.setCell ⟨w2.heap.size, 3, none⟩ (.slice A3' n3' c3')).heap.size = Y3.heap.size := by simp
    rw [hX3] at h9
    omega
  have hb' : But g W0 X3 := by rw [← hX3]; exact but_put hbX hs2
  have hr' : PRd X3 g R3.2 := by rw [← hX3]; exact prd_put hr (by omega)
  have hrow1' := fun h0 => (⟨(HROW1.out h0).1, own_put (k := w2.heap.size) (i := 3) (v := .slice A3' n3' c3') (own_but (HROW1.out h0).2 hb (by omega)) (by omega)⟩ : R1.1.length = n1' ∧ (Y3.setCell ⟨w2.heap.size, 3, none⟩ (.slice A3' n3' c3')).ownsRow (w2.heap.size + 1) 9 1 (.slice A1' n1' c1') n1' (R1.1.flatMap (fun x => [Value.string x])))
  rw [hX3] at hrow1'
  have hrow2' := fun h0 => (⟨(HROW2.out h0).1, own_put (k := w2.heap.size) (i := 3) (v := .slice A3' n3' c3') (own_but (HROW2.out h0).2 hb (by omega)) (by omega)⟩ : R2.1.length = n2' ∧ (Y3.setCell ⟨w2.heap.size, 3, none⟩ (.slice A3' n3' c3')).ownsRow (w2.heap.size + 1) 79 2 (.slice A2' n2' c2') n2' (R2.1.flatMap (fun x => [Value.int .i64 x.1, .int .i64 x.2])))
  rw [hX3] at hrow2'
  have hrow3' : R3.2.err = 0 → ∃ ys : List TH, ys.map (·.t) = R3.1 ∧ ys.length = n3' ∧ (Y3.setCell ⟨w2.heap.size, 3, none⟩ (.slice A3' n3' c3')).ownsRow (w2.heap.size + 1) 83 5 (.slice A3' n3' c3') n3' (ys.flatMap cellsH) ∧ ∀ y ∈ ys, FldAt g (Y3.setCell ⟨w2.heap.size, 3, none⟩ (.slice A3' n3' c3')) y := fun h0 => by
    obtain ⟨ys, q1, q2, q3, q4⟩ := hrow h0
    exact (⟨ys, q1, q2, own_put (X := Y3) (k := w2.heap.size) (i := 3) (v := .slice A3' n3' c3') (own_mono q3 (by omega)) (by omega), fun y hy => fld_put (q4 y hy) hkY 3 (.slice A3' n3' c3')⟩ : ∃ ys : List TH, ys.map (·.t) = R3.1 ∧ ys.length = n3' ∧ (Y3.setCell ⟨w2.heap.size, 3, none⟩ (.slice A3' n3' c3')).ownsRow (w2.heap.size + 1) 83 5 (.slice A3' n3' c3') n3' (ys.flatMap cellsH) ∧ ∀ y ∈ ys, FldAt g (Y3.setCell ⟨w2.heap.size, 3, none⟩ (.slice A3' n3' c3')) y)
  rw [hX3] at hrow3'
  obtain ⟨a0, a1, a2, a3, a4, a5, a6, a7⟩ := blk7 hkY
  have a73 := a7 3
  clear HROW1
  have HROW1 := Lib.hid hrow1'
  clear hrow1'
  clear HROW2
  have HROW2 := Lib.hid hrow2'
  clear hrow2'
  have HROW3 := Lib.hid hrow3'
  clear hrow3'
  have HKX3 := Lib.hid hk'
  have HBX3 := Lib.hid hb'
  have HRX3 := Lib.hid hr'
  have y0 := (HD0.out.but hb').c0
  clear hkY hbX hk' hb' hr' hr hb a7 hXs hYs hXY hrow
  go_wp2_with fail
  go_at_call 48
  refine (HCALL4.out w1.heap.size g t T ct X3 (HD0.out.but HBX3.out) HRX3.out).mono ?_
  rintro e' Y4 ⟨A4', c4', n4', rfl, hr, hb, hrow⟩
  have hkY := hb.blk HKX3.out (by omega)
  have hbX := HBX3.out.trans hb
  have hXs := HBX3.out.size
  have hYs := hbX.size
  have hXY := hb.size
  obtain ⟨X4, hX4⟩ : ∃ X, Y4.setCell ⟨w2.heap.size, 4, none⟩ (.slice A4' n4' c4') = X := ⟨_, rfl⟩
  have hk' : X4.heap[w2.heap.size]? = some (.cells #[.string nm, .slice A1' n1' c1', .slice A2' n2' c2', .slice A3' n3' c3', .slice A4' n4' c4', .int .i64 0, .slice none 0 0] 28 (0, 0)) := by rw [← hX4]; exact blk7_put hkY
  have hsz4 : w2.heap.size + 1 ≤ X4.heap.size := by
    have h9 : (Y4.setCell ⟨w2.heap.size, 4, none⟩ (.slice A4' n4' c4')).heap.size = Y4.heap.size := by simp
    rw [hX4] at h9
    omega
  have hb' : But g W0 X4 := by rw [← hX4]; exact but_put hbX hs2
  have hr' : PRd X4 g R4.2 := by rw [← hX4]; exact prd_put hr (by omega)
  have hrow1' := fun h0 => (⟨(HROW1.out h0).1, own_put (k := w2.heap.size) (i := 4) (v := .slice A4' n4' c4') (own_but (HROW1.out h0).2 hb (by omega)) (by omega)⟩ : R1.1.length = n1' ∧ (Y4.setCell ⟨w2.heap.size, 4, none⟩ (.slice A4' n4' c4')).ownsRow (w2.heap.size + 1) 9 1 (.slice A1' n1' c1') n1' (R1.1.flatMap (fun x => [Value.string x])))
  rw [hX4] at hrow1'
  have hrow2' := fun h0 => (⟨(HROW2.out h0).1, own_put (k := w2.heap.size) (i := 4) (v := .slice A4' n4' c4') (own_but (HROW2.out h0).2 hb (by omega)) (by omega)⟩ : R2.1.length = n2' ∧ (Y4.setCell ⟨w2.heap.size, 4, none⟩ (.slice A4' n4' c4')).ownsRow (w2.heap.size + 1) 79 2 (.slice A2' n2' c2') n2' (R2.1.flatMap (fun x => [Value.int .i64 x.1, .int .i64 x.2])))
  rw [hX4] at hrow2'
  have hrow3' : R3.2.err = 0 → ∃ ys : List TH, ys.map (·.t) = R3.1 ∧ ys.length = n3' ∧ (Y4.setCell ⟨w2.heap.size, 4, none⟩ (.slice A4' n4' c4')).ownsRow (w2.heap.size + 1) 83 5 (.slice A3' n3' c3') n3' (ys.flatMap cellsH) ∧ ∀ y ∈ ys, FldAt g (Y4.setCell ⟨w2.heap.size, 4, none⟩ (.slice A4' n4' c4')) y := fun h0 => by
    obtain ⟨ys, q1, q2, q3, q4⟩ := HROW3.out h0
    exact (⟨ys, q1, q2, own_put (X := Y4) (k := w2.heap.size) (i := 4) (v := .slice A4' n4' c4') (own_but q3 hb (by omega)) (by omega), fun y hy => fld_put ((q4 y hy).but hb) hkY 4 (.slice A4' n4' c4')⟩ : ∃ ys : List TH, ys.map (·.t) = R3.1 ∧ ys.length = n3' ∧ (Y4.setCell ⟨w2.heap.size, 4, none⟩ (.slice A4' n4' c4')).ownsRow (w2.heap.size + 1) 83 5 (.slice A3' n3' c3') n3' (ys.flatMap cellsH) ∧ ∀ y ∈ ys, FldAt g (Y4.setCell ⟨w2.heap.size, 4, none⟩ (.slice A4' n4' c4')) y)
  rw [hX4] at hrow3'
  have hrow4' := fun h0 => (⟨(hrow h0).1, own_put (k := w2.heap.size) (i := 4) (v := .slice A4' n4' c4') (own_mono (hrow h0).2 (by omega)) (by omega)⟩ : R4.1.length = n4' ∧ (Y4.setCell ⟨w2.heap.size, 4, none⟩ (.slice A4' n4' c4')).ownsRow (w2.heap.size + 1) 87 2 (.slice A4' n4' c4') n4' (R4.1.flatMap (fun x => [Value.string x.name, .int .i64 x.type])))
  rw [hX4] at hrow4'
  obtain ⟨a0, a1, a2, a3, a4, a5, a6, a7⟩ := blk7 hkY
  have a74 := a7 4
  clear HROW1
  have HROW1 := Lib.hid hrow1'
  clear hrow1'
  clear HROW2
  have HROW2 := Lib.hid hrow2'
  clear hrow2'
  clear HROW3
  have HROW3 := Lib.hid hrow3'
  clear hrow3'
  have HROW4 := Lib.hid hrow4'
  clear hrow4'
  have HKX4 := Lib.hid hk'
  have HBX4 := Lib.hid hb'
  have HRX4 := Lib.hid hr'
  have y0 := (HD0.out.but hb').c0
  clear hkY hbX hk' hb' hr' hr hb a7 hXs hYs hXY hrow
  go_wp2_with fail
  go_at_call 50
  refine (HCALL5.out w1.heap.size g t T ct X4 (HD0.out.but HBX4.out) HRX4.out).mono ?_
  rintro e' Y5 ⟨rfl, hr, hb⟩
  have hkY := hb.blk HKX4.out (by omega)
  have hbX := HBX4.out.trans hb
  have hXs := HBX4.out.size
  have hYs := hbX.size
  have hXY := hb.size
  obtain ⟨X5, hX5⟩ : ∃ X, Y5.setCell ⟨w2.heap.size, 5, none⟩ (.int .i64 R5.1) = X := ⟨_, rfl⟩
  have hk' : X5.heap[w2.heap.size]? = some (.cells #[.string nm, .slice A1' n1' c1', .slice A2' n2' c2', .slice A3' n3' c3', .slice A4' n4' c4', .int .i64 R5.1, .slice none 0 0] 28 (0, 0)) := by rw [← hX5]; exact blk7_put hkY
  have hsz5 : w2.heap.size + 1 ≤ X5.heap.size := by
    have h9 : (Y5.setCell ⟨w2.heap.size, 5, none⟩ (.int .i64 R5.1)).heap.size = Y5.heap.size := by simp
    rw [hX5] at h9
    omega
  have hb' : But g W0 X5 := by rw [← hX5]; exact but_put hbX hs2
  have hr' : PRd X5 g R5.2 := by rw [← hX5]; exact prd_put hr (by omega)
  have hrow1' := fun h0 => (⟨(HROW1.out h0).1, own_put (k := w2.heap.size) (i := 5) (v := .int .i64 R5.1) (own_but (HROW1.out h0).2 hb (by omega)) (by omega)⟩ : R1.1.length = n1' ∧ (Y5.setCell ⟨w2.heap.size, 5, none⟩ (.int .i64 R5.1)).ownsRow (w2.heap.size + 1) 9 1 (.slice A1' n1' c1') n1' (R1.1.flatMap (fun x => [Value.string x])))
  rw [hX5] at hrow1'
  have hrow2' := fun h0 => (⟨(HROW2.out h0).1, own_put (k := w2.heap.size) (i := 5) (v := .int .i64 R5.1) (own_but (HROW2.out h0).2 hb (by omega)) (by omega)⟩ : R2.1.length = n2' ∧ (Y5.setCell ⟨w2.heap.size, 5, none⟩ (.int .i64 R5.1)).ownsRow (w2.heap.size + 1) 79 2 (.slice A2' n2' c2') n2' (R2.1.flatMap (fun x => [Value.int .i64 x.1, .int .i64 x.2])))
  rw [hX5] at hrow2'
  have hrow3' : R3.2.err = 0 → ∃ ys : List TH, ys.map (·.t) = R3.1 ∧ ys.length = n3' ∧ (Y5.setCell ⟨w2.heap.size, 5, none⟩ (.int .i64 R5.1)).ownsRow (w2.heap.size + 1) 83 5 (.slice A3' n3' c3') n3' (ys.flatMap cellsH) ∧ ∀ y ∈ ys, FldAt g (Y5.setCell ⟨w2.heap.size, 5, none⟩ (.int .i64 R5.1)) y := fun h0 => by
    obtain ⟨ys, q1, q2, q3, q4⟩ := HROW3.out h0
    exact (⟨ys, q1, q2, own_put (X := Y5) (k := w2.heap.size) (i := 5) (v := .int .i64 R5.1) (own_but q3 hb (by omega)) (by omega), fun y hy => fld_put ((q4 y hy).but hb) hkY 5 (.int .i64 R5.1)⟩ : ∃ ys : List TH, ys.map (·.t) = R3.1 ∧ ys.length = n3' ∧ (Y5.setCell ⟨w2.heap.size, 5, none⟩ (.int .i64 R5.1)).ownsRow (w2.heap.size + 1) 83 5 (.slice A3' n3' c3') n3' (ys.flatMap cellsH) ∧ ∀ y ∈ ys, FldAt g (Y5.setCell ⟨w2.heap.size, 5, none⟩ (.int .i64 R5.1)) y)
  rw [hX5] at hrow3'
  have hrow4' := fun h0 => (⟨(HROW4.out h0).1, own_put (k := w2.heap.size) (i := 5) (v := .int .i64 R5.1) (own_but (HROW4.out h0).2 hb (by omega)) (by omega)⟩ : R4.1.length = n4' ∧ (Y5.setCell ⟨w2.heap.size, 5, none⟩ (.int .i64 R5.1)).ownsRow (w2.heap.size + 1) 87 2 (.slice A4' n4' c4') n4' (R4.1.flatMap (fun x => [Value.string x.name, .int .i64 x.type])))
  rw [hX5] at hrow4'
  obtain ⟨a0, a1, a2, a3, a4, a5, a6, a7⟩ := blk7 hkY
  have a75 := a7 5
  clear HROW1
  have HROW1 := Lib.hid hrow1'
  clear hrow1'
  clear HROW2
  have HROW2 := Lib.hid hrow2'
  clear hrow2'
  clear HROW3
  have HROW3 := Lib.hid hrow3'
  clear hrow3'
  clear HROW4
  have HROW4 := Lib.hid hrow4'
  clear hrow4'
  have HKX5 := Lib.hid hk'
  have HBX5 := Lib.hid hb'
  have HRX5 := Lib.hid hr'
  have y0 := (HD0.out.but hb').c0
  clear hkY hbX hk' hb' hr' hr hb a7 hXs hYs hXY
  have HEND := Lib.hid (pend_any g R5.2 X5 HRX5.out)
  have hX5s := HBX5.out.size
  by_cases hend : endS R5.2 = 0
  · have HQ5 : Hid (Q = (⟨N1.1, R1.1, R2.1, R3.1, R4.1, R5.1, []⟩, 0)) := Lib.hid (by
      rw [← HQ.out]
      unfold decS
      rw [HBODY.out]
      rw [if_pos hend])
    have herr : R5.2.err = 0 := by
      unfold endS at hend
      by_cases h : R5.2.err = 0
      · exact h
      · rw [if_neg h] at hend; exact hend
    obtain ⟨e0, e1, e2, e3, e4⟩ := HST.out herr
    obtain ⟨l1, o1⟩ := HROW1.out e1
    obtain ⟨l2, o2⟩ := HROW2.out e2
    obtain ⟨ys, m3, l3, o3, o3f⟩ := HROW3.out e3
    obtain ⟨l4, o4⟩ := HROW4.out e4
    have hnm := HNM.out e0
    subst hnm l1 l2 l3 l4
    have O1 := Lib.hid o1
    have O2 := Lib.hid o2
    have O3 := Lib.hid o3
    have O3F := Lib.hid o3f
    have O4 := Lib.hid o4
    have M3 := Lib.hid m3
    rw [hend] at HEND
    clear hend herr e0 e1 e2 e3 e4 o1 o2 o3 o3f o4 m3 HROW1 HROW2 HROW3 HROW4 HNM
    go_wp2_with fail
    go_at_call 51
    refine HEND.out.mono ?_
    rintro e' w6 ⟨rfl, hb6⟩
    have hk6 := (hb6.block _ (Array.getElem?_eq_some_iff.1 HKX5.out).1).trans HKX5.out
    have hk06 : w6.heap[w.heap.size]? = some (.cells #[.string ⟨#[]⟩, .slice none 0 0, .slice none 0 0, .slice none 0 0, .slice none 0 0, .int .i64 0, .slice none 0 0] 28 (0, 0)) := (hb6.block _ (by omega)).trans (HBX5.out.blk HK0.out (by omega))
    obtain ⟨b0, b1, b2, b3, b4, b5, b6, b7⟩ := blk7 hk6
    obtain ⟨d0, d1, d2, d3, d4, d5, d6, d7⟩ := blk7 hk06
    have d70 := d7 0
    have d71 := d7 1
    have d72 := d7 2
    have d73 := d7 3
    have d74 := d7 4
    have d75 := d7 5
    have d76 := d7 6
    have HB6 := Lib.hid hb6
    have HK06 := Lib.hid hk06
    have hs6 := hb6.size
    clear hb6 hk6 hk06 b7 d7
    go_wp2_with fail
    generalize hW7 : ((((((w6.setCell ⟨w.heap.size, 0, none⟩ (.string N1.1)).setCell ⟨w.heap.size, 1, none⟩ (.slice A1' R1.1.length c1')).setCell ⟨w.heap.size, 2, none⟩ (.slice A2' R2.1.length c2')).setCell ⟨w.heap.size, 3, none⟩ (.slice A3' ys.length c3')).setCell ⟨w.heap.size, 4, none⟩ (.slice A4' R4.1.length c4')).setCell ⟨w.heap.size, 5, none⟩ (.int .i64 R5.1)).setCell ⟨w.heap.size, 6, none⟩ (.slice none 0 0) = W7
    have hW7' : set7 w6 w.heap.size (.string N1.1) (.slice A1' R1.1.length c1') (.slice A2' R2.1.length c2') (.slice A3' ys.length c3') (.slice A4' R4.1.length c4') (.int .i64 R5.1) (.slice none 0 0) = W7 := hW7
    have n := blk7_set (.string N1.1) (.slice A1' R1.1.length c1') (.slice A2' R2.1.length c2') (.slice A3' ys.length c3') (.slice A4' R4.1.length c4') (.int .i64 R5.1) (.slice none 0 0) HK06.out
    have hB7 : Below w.heap.size w W7 := by
      rw [← hW7']
      exact set7_below _ _ _ _ _ _ _ (HBW0.out.trans ((HBX5.out.below (by omega) (by omega)).trans (HB6.out.mono (by omega)))) (Nat.le_refl _)
    have hfar : ∀ j, w2.heap.size + 1 ≤ j → j < X5.heap.size → W7.heap[j]? = X5.heap[j]? := fun j h1 h2 => by rw [← hW7', set7_far _ _ _ _ _ _ _ (by omega)]; exact HB6.out.block j h2
    have q1 := own_block O1.out (fun j h1 h2 _ => hfar j h1 h2)
    have q2 := own_block O2.out (fun j h1 h2 _ => hfar j h1 h2)
    have q3 := own_block O3.out (fun j h1 h2 _ => hfar j h1 h2)
    have q4 := own_block O4.out (fun j h1 h2 _ => hfar j h1 h2)
    have q3f : ∀ y ∈ ys, GoodH W7 y := fun y hy => fld_good (g := g) (own_block (O3F.out y hy) (fun j h1 h2 _ => by rw [← hW7', set7_far _ _ _ _ _ _ _ (by omega)]; exact HB6.out.block j h2))
    rw [hW7'] at n
    clear hW7 hW7' hfar
    rw [flat1] at q1
    obtain ⟨B1, k1, hv1, p1, _⟩ := slc_own (R := RN) (fun w B b o x h => h) q1 rfl
    obtain ⟨B2, k2, hv2, p2⟩ := slc_own2 (R := RPr) (fun _ => rfl) (fun w B b o x h => ⟨h 0 _ rfl, h 1 _ rfl⟩) q2 rfl
    obtain ⟨B3, k3, hv3, p3⟩ := slc_of_rows q3 q3f
    obtain ⟨B4, k4, hv4, p4⟩ := slc_own2 (R := RLc) (fun _ => rfl) (fun w B b o x h => ⟨h 0 _ rfl, h 1 _ rfl⟩) q4 rfl
    injection hv1 with hv1 _ hc1
    injection hv2 with hv2 _ hc2
    injection hv3 with hv3 _ hc3
    injection hv4 with hv4 _ hc4
    subst hv1 hv2 hv3 hv4 hc1 hc2 hc3 hc4
    rw [M3.out] at p3
    have hyl : ys.length = R3.1.length := by rw [← M3.out]; simp
    obtain ⟨u0, u1, u2, u3, u4, u5, u6, _⟩ := blk7 n
    rw [hyl] at u3
    rw [HQ5.out]
    refine bodyPost_ret (v := .tuple #[.agg #[.string N1.1, .slice A1' R1.1.length c1', .slice A2' R2.1.length c2', .slice A3' R3.1.length c3', .slice A4' R4.1.length c4', .int .i64 R5.1, .slice none 0 0], .int .i64 0]) (by simp [results, Tryz.results14, go_sem, u0, u1, u2, u3, u4, u5, u6] <;> rfl) rfl ?_
    exact ⟨⟨A1', c1', A2', c2', A3', c3', A4', c4', none, 0⟩, rfl, ⟨p1, p2, p3, p4, ⟨Sl.nil, by simp, by simp⟩⟩, hB7⟩
  · have HQ5 : Hid (Q = (noBody, endS R5.2)) := Lib.hid (by
      rw [← HQ.out]
      unfold decS
      rw [HBODY.out]
      rw [if_neg hend])
    have e2 : (endS R5.2 == 0) = false := by simp [hend]
    have e3 : (endS R5.2 != 0) = true := by simp [hend]
    clear hend HROW1 HROW2 HROW3 HROW4 HNM HST
    generalize endS R5.2 = er at *
    go_wp2_with fail
    go_at_call 51
    refine HEND.out.mono ?_
    rintro e' w6 ⟨rfl, hb6⟩
    have hk06 : w6.heap[w.heap.size]? = some (.cells #[.string ⟨#[]⟩, .slice none 0 0, .slice none 0 0, .slice none 0 0, .slice none 0 0, .int .i64 0, .slice none 0 0] 28 (0, 0)) := (hb6.block _ (by omega)).trans (HBX5.out.blk HK0.out (by omega))
    obtain ⟨d0, d1, d2, d3, d4, d5, d6, d7⟩ := blk7 hk06
    have d70 := d7 0
    have d71 := d7 1
    have d72 := d7 2
    have d73 := d7 3
    have d74 := d7 4
    have d75 := d7 5
    have d76 := d7 6
    have HB6 := Lib.hid hb6
    have HK06 := Lib.hid hk06
    have hs6 := hb6.size
    clear hb6 hk06 d7
    go_wp2_with fail
    generalize hW7 : ((((((w6.setCell ⟨w.heap.size, 0, none⟩ (.string ⟨#[]⟩)).setCell ⟨w.heap.size, 1, none⟩ (.slice none 0 0)).setCell ⟨w.heap.size, 2, none⟩ (.slice none 0 0)).setCell ⟨w.heap.size, 3, none⟩ (.slice none 0 0)).setCell ⟨w.heap.size, 4, none⟩ (.slice none 0 0)).setCell ⟨w.heap.size, 5, none⟩ (.int .i64 0)).setCell ⟨w.heap.size, 6, none⟩ (.slice none 0 0) = W7
    have hW7' : set7 w6 w.heap.size (.string ⟨#[]⟩) (.slice none 0 0) (.slice none 0 0) (.slice none 0 0) (.slice none 0 0) (.int .i64 0) (.slice none 0 0) = W7 := hW7
    have n := blk7_set (.string ⟨#[]⟩) (.slice none 0 0) (.slice none 0 0) (.slice none 0 0) (.slice none 0 0) (.int .i64 0) (.slice none 0 0) HK06.out
    have hB7 : Below w.heap.size w W7 := by
      rw [← hW7']
      exact set7_below _ _ _ _ _ _ _ (HBW0.out.trans ((HBX5.out.below (by omega) (by omega)).trans (HB6.out.mono (by omega)))) (Nat.le_refl _)
    rw [hW7'] at n
    clear hW7 hW7'
    obtain ⟨u0, u1, u2, u3, u4, u5, u6, _⟩ := blk7 n
    rw [HQ5.out]
    refine bodyPost_ret (v := .tuple #[.agg #[.string ⟨#[]⟩, .slice none 0 0, .slice none 0 0, .slice none 0 0, .slice none 0 0, .int .i64 0, .slice none 0 0], .int .i64 er]) (by simp [results, Tryz.results14, go_sem, u0, u1, u2, u3, u4, u5, u6] <;> rfl) rfl ?_
    exact ⟨noBH, rfl, noBd _, hB7⟩
end Go.Proofs.YtbnljlpefpllcaaGreatDoor
