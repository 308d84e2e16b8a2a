/-
  Walk: scan.
-/
import Derived.Test.YtmfdppgfbgjmcaaDoorL5
namespace Go.Proofs.YtmfdppgfbgjmcaaDoor
open Go Go.RowKit Go.WideShapes

/-- A block of a token's four cells. -/
def Box (w : World) (b : Nat) (v0 v1 v2 v3 : Value) : Prop := w.heap[b]? = some (.cells #[v0, v1, v2, v3] 28 (0, 0))
theorem Box.keep {w w' : World} {b : Nat} {v0 v1 v2 v3 : Value} (h : Box w b v0 v1 v2 v3) (hb : Below w.heap.size w w') : Box w' b v0 v1 v2 v3 :=
  (hb.block b (Array.getElem?_eq_some_iff.1 h).1).trans h
theorem Box.cells {w : World} {b : Nat} {v0 v1 v2 v3 : Value} (h : Box w b v0 v1 v2 v3) : w.cell? ⟨b, 0, none⟩ = some v0 ∧ w.cell? ⟨b, 1, none⟩ = some v1 ∧ w.cell? ⟨b, 2, none⟩ = some v2 ∧ w.cell? ⟨b, 3, none⟩ = some v3 :=
  ⟨cell_of_row w b 0 _ _ _ h, cell_of_row w b 1 _ _ _ h, cell_of_row w b 2 _ _ _ h, cell_of_row w b 3 _ _ _ h⟩
theorem Box.free {w : World} {b : Nat} {v0 v1 v2 v3 : Value} (h : Box w b v0 v1 v2 v3) (j : Nat) : w.frozen? ⟨b, j, none⟩ = false := by
  unfold Box at h
  simp [World.frozen?, h]
theorem Box.lt {w : World} {b : Nat} {v0 v1 v2 v3 : Value} (h : Box w b v0 v1 v2 v3) : b < w.heap.size := (Array.getElem?_eq_some_iff.1 h).1
theorem Box.set0 {w : World} {b : Nat} {v0 v1 v2 v3 : Value} (x : Value) (h : Box w b v0 v1 v2 v3) : Box (w.setCell ⟨b, 0, none⟩ x) b x v1 v2 v3 := by
  unfold Box at *
  simp [World.setCell, Array.getElem?_modify, h]
theorem Box.far {w : World} {b b' j : Nat} {v0 v1 v2 v3 : Value} (x : Value) (h : Box w b v0 v1 v2 v3) (hne : b' ≠ b) : Box (w.setCell ⟨b', j, none⟩ x) b v0 v1 v2 v3 := by
  unfold Box at *
  rw [← h]
  exact Below.heap_setCell w ⟨b', j, none⟩ x b (fun e => hne e.symm)

theorem Box.new2 (w : World) (o : Obj) (v0 v1 v2 v3 : Value) : Box ((w.alloc o).alloc (.cells #[v0, v1, v2, v3] 28)) (w.heap.size + 1) v0 v1 v2 v3 := by
  have := heap_alloc_new (w.alloc o) (.cells #[v0, v1, v2, v3] 28)
  rw [World.size_alloc] at this
  exact this
theorem Box.new1 (w : World) (o : Obj) (v0 v1 v2 v3 : Value) : Box ((w.alloc (.cells #[v0, v1, v2, v3] 28)).alloc o) w.heap.size v0 v1 v2 v3 :=
  (Below.heap_alloc _ _ _ (by simp)).trans (heap_alloc_new w _)

theorem bytes_of {s : ByteArray} {l : List UInt8} (h : s.data.toList = l) : s = ⟨l.toArray⟩ := bytes_inj (by rw [h])
theorem cut_of (s : ByteArray) (a n : Nat) : s.extract a (a + n) = ⟨((s.data.toList.drop a).take n).toArray⟩ := bytes_of (by rw [Lib.extract_data, show a + n - a = n by omega])

/-- What scan answers at the suffix l that begins at k. -/
def scanP (l : List UInt8) (k : Nat) (e' : Ending) : Prop := ∃ (a n tt : Int) (t : ByteArray), e' = .returned (.tuple #[.agg #[.int .i64 a, .string t, .int .i64 n, .int .i64 k], .int .i64 tt, .int .i64 (scanL l).err]) ∧
  ((scanL l).err = 0 → a = (scanL l).kind ∧ t = ⟨(scanL l).text.toArray⟩ ∧ n = (scanL l).num ∧ tt = k + (scanL l).len)

theorem kind_not (c : UInt8) : isN (kindC c) = (kindC c == 2 || kindC c == 6 || kindC c == 7) := rfl
theorem index_any (set : ByteArray) (c : UInt8) (W : World) : Calls Tryd.prog 13 #[.string set, .int .u8 c.toNat] W fun e' w' => e' = .returned (.int .i64 (Lib.indexByte set.data.toList c)) ∧ w' = W := by
  have h := Tryd.strings_IndexByte set c.toNat W
  rwa [byte_back] at h

set_option maxRecDepth 100000 in
set_option maxHeartbeats 4000000 in
theorem scan_any (s : ByteArray) (k : Nat) (w : World) (hk : k < s.size) (hs : s.size ≤ 1000000) (hv : VarsOk w) :
    Calls Tryd.prog 14 #[.string s, .int .i64 k] w fun e' w' => scanP (s.data.toList.drop k) k e' ∧ Below w.heap.size w w' := by
  have hd := drop_at s k hk
  obtain ⟨l, hl⟩ : ∃ l, s.data.toList.drop k = l := ⟨_, rfl⟩
  obtain ⟨c, hc⟩ : ∃ c, s[k] = c := ⟨_, rfl⟩
  obtain ⟨j1, hj1⟩ : ∃ j, Lib.indexByte puncts c = j := ⟨_, rfl⟩
  obtain ⟨j2, hj2⟩ : ∃ j, Lib.indexByte digits c = j := ⟨_, rfl⟩
  have I1 : Hid (∀ W, Calls Tryd.prog 13 #[.string ⟨#[123, 125, 40, 41, 44, 59, 58, 61, 38, 46, 42]⟩, .int .u8 c.toNat] W fun e' w' => e' = .returned (.int .i64 j1) ∧ w' = W) := Lib.hid (fun W => by rw [← hj1]; exact index_any _ c W)
  have I2 : Hid (∀ W, Calls Tryd.prog 13 #[.string ⟨#[48, 49, 50, 51, 52, 53, 54, 55, 56, 57]⟩, .int .u8 c.toNat] W fun e' w' => e' = .returned (.int .i64 j2) ∧ w' = W) := Lib.hid (fun W => by rw [← hj2]; exact index_any _ c W)
  have P1 := index_of_mem c puncts
  have P2 := index_of_mem c digits
  rw [hj1] at P1
  rw [hj2] at P2
  rw [hl, hc] at hd
  rw [hl]
  have HD := Lib.hid hd
  have HL := Lib.hid hl
  have HV := Lib.hid hv
  clear hj1 hj2 hd hl hv
  rcases P1 with ⟨hj, hp⟩ | ⟨rfl, hp⟩
  · have HR : Hid (scanL l = ⟨8, [c], 0, 1, 0⟩) := Lib.hid (by rw [HD.out, scanL, if_pos hp])
    have HT : Hid (s.extract k (k + 1) = ⟨#[c]⟩) := Lib.hid (by rw [cut_of, HL.out, HD.out]; rfl)
    clear hp P2
    go_enter Tryd.func14, Tryd.ntmps14
    go_wp2_with (go_at_call 13; refine (I1.out _).mono ?_; rintro e' w' ⟨rfl, rfl⟩)
    refine bodyPost_ret (v := .tuple #[.agg #[.int .i64 8, .string (s.extract k (k + 1)), .int .i64 0, .int .i64 k], .int .i64 (k + 1), .int .i64 0]) (by simp [results, Tryd.results14, go_sem]) rfl ⟨⟨8, 0, k + 1, _, by rw [HR.out], fun _ => by rw [HR.out]; exact ⟨rfl, HT.out, rfl, rfl⟩⟩, ((Below.refl _ _).alloc (Nat.le_refl _) _).alloc (by simp) _⟩
  · have HP : Hid (puncts.contains c = false) := Lib.hid hp
    clear hp
    go_enter Tryd.func14, Tryd.ntmps14
    go_wp2_with (go_at_call 13; refine (I1.out _).mono ?_; rintro e' w' ⟨rfl, rfl⟩)
    go_at_call 24
    refine (signs_any _).mono ?_
    rintro e' w1 ⟨rfl, hS, hb1⟩
    have B4 := Lib.hid ((Box.new1 w _ _ _ _ _).keep hb1)
    have b7 := (Box.new2 w _ _ _ _ _).keep hb1
    have HB : Hid (Below w.heap.size w w1) := Lib.hid ((((Below.refl _ _).alloc (Nat.le_refl _) _).alloc (by simp) _).trans (hb1.mono (by simp; omega)))
    obtain ⟨v, ok, hrun, hvo⟩ : ∃ v ok, (Instr.lookup 53 (.map (some ((w.alloc (.cells #[.int .i64 0, .string ⟨#[]⟩, .int .i64 0, .int .i64 0] 28)).alloc (.cells #[.int .i64 1, .string ⟨#[]⟩, .int .i64 0, .int .i64 k] 28)).heap.size)) (.int .u8 c.toNat) true).run Tryd.prog w1 = .ok (.tuple #[.int .i64 v, .bool ok]) w1 ∧ ((signK c ≠ 0 ∧ v = signK c ∧ ok = true) ∨ (signK c = 0 ∧ ok = false)) := by
      rcases sign_look w1 _ hS c with ⟨h1, h2⟩ | ⟨h1, h2⟩
      · exact ⟨_, _, h2, Or.inl ⟨h1, rfl, rfl⟩⟩
      · exact ⟨_, _, h2, Or.inr ⟨h1, rfl⟩⟩
    simp only [World.size_alloc] at hrun
    have B7 := Lib.hid b7
    have VO := Lib.hid hvo
    have hlt7 := b7.lt
    clear hb1 hS hvo b7
    go_upto_if 42 with fail
    go_cut [9] (fun s9 wx => s9 = .int .i64 ((k + fromC c : Nat)) ∧ Box wx (w.heap.size + 1) (.int .i64 (kindC c)) (.string ⟨#[]⟩) (.int .i64 0) (.int .i64 k) ∧ Box wx w.heap.size (.int .i64 0) (.string ⟨#[]⟩) (.int .i64 0) (.int .i64 0) ∧ Below w.heap.size w wx)
    case first =>
      obtain ⟨q0, q1, q2, q3⟩ := B7.out.cells
      have qf := B7.out.free 0
      rcases VO.out with ⟨h1, rfl, rfl⟩ | ⟨h1, rfl⟩
      · have hkc : kindC c = signK c := by simp [kindC, h1]
        have hfc : fromC c = 1 := by simp [fromC, h1]
        have HKC := Lib.hid hkc
        have HFC := Lib.hid hfc
        clear hkc hfc h1 hrun
        go_wp2_with fail
        go_meet
        rw [HKC.out, HFC.out]
        exact ⟨by go_num, B7.out.set0 _, B4.out.far _ (by omega), HB.out.setCell (by simp) _⟩
      · have hfc : fromC c = 0 := by simp [fromC, h1]
        rcases P2 with ⟨hj, hp⟩ | ⟨rfl, hp⟩
        · have hkc : kindC c = 2 := by unfold kindC; rw [if_neg (by simpa using h1), if_pos hp]
          have HKC := Lib.hid hkc
          have HFC := Lib.hid hfc
          clear hkc hfc h1 hrun hp
          go_wp2_with (go_at_call 13; refine (I2.out _).mono ?_; rintro e' w' ⟨rfl, rfl⟩)
          go_meet
          rw [HKC.out, HFC.out]
          exact ⟨by go_num, B7.out.set0 _, B4.out.far _ (by omega), HB.out.setCell (by simp) _⟩
        · have hkc : kindC c = 1 := by unfold kindC; rw [if_neg (by simpa using h1), hp]; rfl
          have HKC := Lib.hid hkc
          have HFC := Lib.hid hfc
          clear hkc hfc h1 hrun hp
          go_wp2_with (go_at_call 13; refine (I2.out _).mono ?_; rintro e' w' ⟨rfl, rfl⟩)
          go_meet
          rw [HKC.out, HFC.out]
          exact ⟨by go_num, B7.out, B4.out, HB.out⟩
    case rest =>
    obtain ⟨rfl, b7, b4, hb⟩ := hcut
    obtain ⟨wr, rfl⟩ : ∃ wr : World, wr = wc := ⟨_, rfl⟩
    have HSC : Hid (scanL l = if isN (kindC c) then
      ⟨kindC c, [], (numL (if kindC c = 2 then l.take (fromC c + spanL digits (l.drop (fromC c))) else (l.drop (fromC c)).take (spanL digits (l.drop (fromC c)))) (if kindC c = 2 then 9223372036854775807 else 65535)).1,
        fromC c + spanL digits (l.drop (fromC c)), (numL (if kindC c = 2 then l.take (fromC c + spanL digits (l.drop (fromC c))) else (l.drop (fromC c)).take (spanL digits (l.drop (fromC c)))) (if kindC c = 2 then 9223372036854775807 else 65535)).2⟩
      else if spanL letters (l.drop (fromC c)) = 0 then ⟨kindC c, [], 0, 0, 18⟩
      else if 255 < spanL (letters ++ digits) (l.drop (fromC c)) then ⟨kindC c, [], 0, 0, 20⟩
      else ⟨kindC c, (l.drop (fromC c)).take (spanL (letters ++ digits) (l.drop (fromC c))), 0, fromC c + spanL (letters ++ digits) (l.drop (fromC c)), 0⟩) := Lib.hid (by
        have hp := HP.out
        rw [HD.out, scanL, hp]
        rfl)
    have hf1 : fromC c ≤ 1 := by unfold fromC; split <;> omega
    have HVR := Lib.hid (HV.out.keep hb)
    have B4 := Lib.hid b4
    have HB := Lib.hid hb
    clear b4 hb B7 VO hrun P2 I1 I2 HV hlt7
    generalize fromC c = f at *
    obtain ⟨p, hpf⟩ : ∃ p, p = k + f := ⟨_, rfl⟩
    rw [← hpf]
    have hps : p ≤ s.size := by omega
    have hlp : s.data.toList.drop p = l.drop f := by rw [hpf, ← HL.out, List.drop_drop]
    have hkp : k ≤ p ∧ p ≤ k + 1 := by omega
    obtain ⟨hkp1, hkp2⟩ := hkp
    have HPF := Lib.hid hpf
    obtain ⟨n1, hn1⟩ : ∃ n, spanL digits (l.drop f) = n := ⟨_, rfl⟩
    obtain ⟨n2, hn2⟩ : ∃ n, spanL letters (l.drop f) = n := ⟨_, rfl⟩
    obtain ⟨n3, hn3⟩ : ∃ n, spanL (letters ++ digits) (l.drop f) = n := ⟨_, rfl⟩
    have hlen : (l.drop f).length = s.size - p := by rw [← hlp, List.length_drop, len_list]
    have l1 := spanL_le digits (l.drop f)
    have l2 := spanL_le letters (l.drop f)
    have l3 := spanL_le (letters ++ digits) (l.drop f)
    have HS1 := Lib.hid (span_any s ⟨#[48, 49, 50, 51, 52, 53, 54, 55, 56, 57]⟩ p wr hps hs)
    have HS2 := Lib.hid (span_any s ⟨#[95, 97, 98, 99, 100, 101, 102, 103, 104, 105, 106, 107, 108, 109, 110, 111, 112, 113, 114, 115, 116, 117, 118, 119, 120, 121, 122, 65, 66, 67, 68, 69, 70, 71, 72, 73, 74, 75, 76, 77, 78, 79, 80, 81, 82, 83, 84, 85, 86, 87, 88, 89, 90]⟩ p wr hps hs)
    have HS3 := Lib.hid (span_any s ⟨#[95, 97, 98, 99, 100, 101, 102, 103, 104, 105, 106, 107, 108, 109, 110, 111, 112, 113, 114, 115, 116, 117, 118, 119, 120, 121, 122, 65, 66, 67, 68, 69, 70, 71, 72, 73, 74, 75, 76, 77, 78, 79, 80, 81, 82, 83, 84, 85, 86, 87, 88, 89, 90, 48, 49, 50, 51, 52, 53, 54, 55, 56, 57]⟩ p wr hps hs)
    rw [hlp, show (⟨#[48, 49, 50, 51, 52, 53, 54, 55, 56, 57]⟩ : ByteArray).data.toList = digits from rfl, hn1] at HS1
    rw [hlp, show (⟨#[95, 97, 98, 99, 100, 101, 102, 103, 104, 105, 106, 107, 108, 109, 110, 111, 112, 113, 114, 115, 116, 117, 118, 119, 120, 121, 122, 65, 66, 67, 68, 69, 70, 71, 72, 73, 74, 75, 76, 77, 78, 79, 80, 81, 82, 83, 84, 85, 86, 87, 88, 89, 90]⟩ : ByteArray).data.toList = letters from rfl, hn2] at HS2
    rw [hlp, show (⟨#[95, 97, 98, 99, 100, 101, 102, 103, 104, 105, 106, 107, 108, 109, 110, 111, 112, 113, 114, 115, 116, 117, 118, 119, 120, 121, 122, 65, 66, 67, 68, 69, 70, 71, 72, 73, 74, 75, 76, 77, 78, 79, 80, 81, 82, 83, 84, 85, 86, 87, 88, 89, 90, 48, 49, 50, 51, 52, 53, 54, 55, 56, 57]⟩ : ByteArray).data.toList = letters ++ digits from rfl, hn3] at HS3
    rw [hn1, hn2, hn3] at HSC
    rw [hn1, hlen] at l1
    rw [hn2, hlen] at l2
    rw [hn3, hlen] at l3
    have hnot := kind_not c
    generalize kindC c = kd at *
    clear hn1 hn2 hn3 hlen hpf
    by_cases hN : kd = 2 ∨ kd = 6 ∨ kd = 7
    · rcases hN with hkd | hkd | hkd
      · obtain ⟨nn, ee, hnum⟩ : ∃ nn ee, numL (s.extract k (p + n1)).data.toList 9223372036854775807 = (nn, ee) := ⟨_, _, rfl⟩
        have HN := Lib.hid (number_any (s.extract k (p + n1)) 9223372036854775807 wr HVR.out (by simp; omega))
        rw [hnum] at HN
        have HR : Hid (scanL l = ⟨2, [], nn, f + n1, ee⟩) := Lib.hid (by
          have h1 : ((s.extract k (p + n1)).data.toList, (9223372036854775807 : Int)) = (if (2 : Int) = 2 then l.take (f + n1) else (l.drop f).take n1, if (2 : Int) = 2 then 9223372036854775807 else 65535) := by
            rw [Lib.extract_data]
            rw [show p + n1 - k = f + n1 by have := HPF.out; omega, HL.out]; rfl
          have h2 := (Prod.mk.injEq _ _ _ _).mp h1
          have hsc := HSC.out
          rw [hkd] at hsc
          rw [hsc, if_pos (by rfl), ← h2.1, ← h2.2, hnum])
        rw [hkd] at b7
        obtain ⟨q0, q1, q2, q3⟩ := b7.cells
        have B7 := Lib.hid b7
        clear hnum hkd b7 hlp hnot
        go_wp2_with (go_at_call 21; refine HS1.out.mono ?_; rintro e' w' ⟨rfl, rfl⟩)
        go_at_call 25
        refine HN.out.mono ?_
        rintro e' w5 ⟨rfl, hb5⟩
        have d7 := B7.out.keep hb5
        have d4 := B4.out.keep hb5
        have HB5 := Lib.hid (HB.out.trans (hb5.mono HB.out.size))
        obtain ⟨q0', q1', q2', q3'⟩ := d7.cells
        obtain ⟨z0', z1', z2', z3'⟩ := d4.cells
        have f7 := d7.free
        have f4 := d4.free
        clear q0 q1 q2 q3 hb5 B7 B4 HB d7 d4
        go_wp2_with fail
        refine bodyPost_ret (v := .tuple #[.agg #[.int .i64 2, .string ⟨#[]⟩, .int .i64 nn, .int .i64 k], .int .i64 (p + n1), .int .i64 ee]) (by simp [results, Tryd.results14, go_sem, *]) rfl ⟨⟨2, nn, p + n1, _, by rw [HR.out], fun _ => by rw [HR.out]; exact ⟨rfl, rfl, rfl, by rw [HPF.out]; simp; omega⟩⟩, ((((HB5.out.setCell (by simp) _).setCell (by simp) _).setCell (by simp) _).setCell (by simp) _).setCell (by simp) _⟩
      · obtain ⟨nn, ee, hnum⟩ : ∃ nn ee, numL (s.extract p (p + n1)).data.toList 65535 = (nn, ee) := ⟨_, _, rfl⟩
        have HN := Lib.hid (number_any (s.extract p (p + n1)) 65535 wr HVR.out (by simp; omega))
        rw [hnum] at HN
        have HR : Hid (scanL l = ⟨6, [], nn, f + n1, ee⟩) := Lib.hid (by
          have h1 : ((s.extract p (p + n1)).data.toList, (65535 : Int)) = (if (6 : Int) = 2 then l.take (f + n1) else (l.drop f).take n1, if (6 : Int) = 2 then 9223372036854775807 else 65535) := by
            rw [Lib.extract_data]
            rw [show p + n1 - p = n1 by omega, hlp]; rfl
          have h2 := (Prod.mk.injEq _ _ _ _).mp h1
          have hsc := HSC.out
          rw [hkd] at hsc
          rw [hsc, if_pos (by rfl), ← h2.1, ← h2.2, hnum])
        rw [hkd] at b7
        obtain ⟨q0, q1, q2, q3⟩ := b7.cells
        have B7 := Lib.hid b7
        clear hnum hkd b7 hlp hnot
        go_wp2_with (go_at_call 21; refine HS1.out.mono ?_; rintro e' w' ⟨rfl, rfl⟩)
        go_at_call 25
        refine HN.out.mono ?_
        rintro e' w5 ⟨rfl, hb5⟩
        have d7 := B7.out.keep hb5
        have d4 := B4.out.keep hb5
        have HB5 := Lib.hid (HB.out.trans (hb5.mono HB.out.size))
        obtain ⟨q0', q1', q2', q3'⟩ := d7.cells
        obtain ⟨z0', z1', z2', z3'⟩ := d4.cells
        have f7 := d7.free
        have f4 := d4.free
        clear q0 q1 q2 q3 hb5 B7 B4 HB d7 d4
        go_wp2_with fail
        refine bodyPost_ret (v := .tuple #[.agg #[.int .i64 6, .string ⟨#[]⟩, .int .i64 nn, .int .i64 k], .int .i64 (p + n1), .int .i64 ee]) (by simp [results, Tryd.results14, go_sem, *]) rfl ⟨⟨6, nn, p + n1, _, by rw [HR.out], fun _ => by rw [HR.out]; exact ⟨rfl, rfl, rfl, by rw [HPF.out]; simp; omega⟩⟩, ((((HB5.out.setCell (by simp) _).setCell (by simp) _).setCell (by simp) _).setCell (by simp) _).setCell (by simp) _⟩
      · obtain ⟨nn, ee, hnum⟩ : ∃ nn ee, numL (s.extract p (p + n1)).data.toList 65535 = (nn, ee) := ⟨_, _, rfl⟩
        have HN := Lib.hid (number_any (s.extract p (p + n1)) 65535 wr HVR.out (by simp; omega))
        rw [hnum] at HN
        have HR : Hid (scanL l = ⟨7, [], nn, f + n1, ee⟩) := Lib.hid (by
          have h1 : ((s.extract p (p + n1)).data.toList, (65535 : Int)) = (if (7 : Int) = 2 then l.take (f + n1) else (l.drop f).take n1, if (7 : Int) = 2 then 9223372036854775807 else 65535) := by
            rw [Lib.extract_data]
            rw [show p + n1 - p = n1 by omega, hlp]; rfl
          have h2 := (Prod.mk.injEq _ _ _ _).mp h1
          have hsc := HSC.out
          rw [hkd] at hsc
          rw [hsc, if_pos (by rfl), ← h2.1, ← h2.2, hnum])
        rw [hkd] at b7
        obtain ⟨q0, q1, q2, q3⟩ := b7.cells
        have B7 := Lib.hid b7
        clear hnum hkd b7 hlp hnot
        go_wp2_with (go_at_call 21; refine HS1.out.mono ?_; rintro e' w' ⟨rfl, rfl⟩)
        go_at_call 25
        refine HN.out.mono ?_
        rintro e' w5 ⟨rfl, hb5⟩
        have d7 := B7.out.keep hb5
        have d4 := B4.out.keep hb5
        have HB5 := Lib.hid (HB.out.trans (hb5.mono HB.out.size))
        obtain ⟨q0', q1', q2', q3'⟩ := d7.cells
        obtain ⟨z0', z1', z2', z3'⟩ := d4.cells
        have f7 := d7.free
        have f4 := d4.free
        clear q0 q1 q2 q3 hb5 B7 B4 HB d7 d4
        go_wp2_with fail
        refine bodyPost_ret (v := .tuple #[.agg #[.int .i64 7, .string ⟨#[]⟩, .int .i64 nn, .int .i64 k], .int .i64 (p + n1), .int .i64 ee]) (by simp [results, Tryd.results14, go_sem, *]) rfl ⟨⟨7, nn, p + n1, _, by rw [HR.out], fun _ => by rw [HR.out]; exact ⟨rfl, rfl, rfl, by rw [HPF.out]; simp; omega⟩⟩, ((((HB5.out.setCell (by simp) _).setCell (by simp) _).setCell (by simp) _).setCell (by simp) _).setCell (by simp) _⟩
    · have e2 : (kd == 2) = false := by simp; omega
      have e6 : (kd == 6) = false := by simp; omega
      have e7 : (kd == 7) = false := by simp; omega
      have hsc := HSC.out
      rw [show isN kd = false by simp [isN, e2, e6, e7]] at hsc
      simp only [Bool.false_eq_true, if_false] at hsc
      obtain ⟨q0, q1, q2, q3⟩ := b7.cells
      obtain ⟨z0, z1, z2, z3⟩ := B4.out.cells
      have f7 := b7.free
      have f4 := B4.out.free
      have HSC2 := Lib.hid hsc
      clear hsc b7 hlp hnot hN HSC
      by_cases h2 : n2 = 0
      · subst h2
        have HR : Hid (scanL l = ⟨kd, [], 0, 0, 18⟩) := Lib.hid (by rw [HSC2.out, if_pos rfl])
        clear HSC2
        go_wp2_with (go_at_call 21; refine HS2.out.mono ?_; rintro e' w' ⟨rfl, rfl⟩)
        refine bodyPost_ret (v := .tuple #[.agg #[.int .i64 kd, .string ⟨#[]⟩, .int .i64 0, .int .i64 k], .int .i64 (k), .int .i64 18]) (by simp [results, Tryd.results14, go_sem, *]) rfl ⟨⟨kd, 0, k, _, by rw [HR.out], fun h => absurd h (by rw [HR.out]; simp)⟩, (((HB.out.setCell (by simp) _).setCell (by simp) _).setCell (by simp) _).setCell (by simp) _⟩
      · have h3 : ((n2 : Int) == 0) = false := by simp; omega
        go_wp2_with fail
        go_at_call 21
        refine HS2.out.mono ?_
        rintro e' w' ⟨rfl, rfl⟩
        go_wp2_with fail
        go_at_call 21
        refine HS3.out.mono ?_
        rintro e' w' ⟨rfl, rfl⟩
        by_cases h4 : 255 < n3
        · have HR : Hid (scanL l = ⟨kd, [], 0, 0, 20⟩) := Lib.hid (by rw [HSC2.out, if_neg h2, if_pos h4])
          clear HSC2
          go_wp2_with fail
          refine bodyPost_ret (v := .tuple #[.agg #[.int .i64 kd, .string ⟨#[]⟩, .int .i64 0, .int .i64 k], .int .i64 (k), .int .i64 20]) (by simp [results, Tryd.results14, go_sem, *]) rfl ⟨⟨kd, 0, k, _, by rw [HR.out], fun h => absurd h (by rw [HR.out]; simp)⟩, (((HB.out.setCell (by simp) _).setCell (by simp) _).setCell (by simp) _).setCell (by simp) _⟩
        · have HR : Hid (scanL l = ⟨kd, (l.drop f).take n3, 0, f + n3, 0⟩) := Lib.hid (by rw [HSC2.out, if_neg h2, if_neg h4])
          have HT : Hid (s.extract p (p + n3) = ⟨((l.drop f).take n3).toArray⟩) := Lib.hid (by rw [cut_of, HPF.out, ← HL.out, List.drop_drop])
          clear HSC2
          go_wp2_with fail
          refine bodyPost_ret (v := .tuple #[.agg #[.int .i64 kd, .string (s.extract p (p + n3)), .int .i64 0, .int .i64 k], .int .i64 (p + n3), .int .i64 0]) (by simp [results, Tryd.results14, go_sem, *]) rfl ⟨⟨kd, 0, p + n3, _, by rw [HR.out], fun h => by rw [HR.out]; exact ⟨rfl, HT.out, rfl, by rw [HPF.out]; simp; omega⟩⟩, ((((HB.out.setCell (by simp) _).setCell (by simp) _).setCell (by simp) _).setCell (by simp) _).setCell (by simp) _⟩
end Go.Proofs.YtmfdppgfbgjmcaaDoor
