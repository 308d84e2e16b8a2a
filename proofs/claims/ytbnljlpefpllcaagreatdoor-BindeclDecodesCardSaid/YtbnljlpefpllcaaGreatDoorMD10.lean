/-
  Parts of the proof: N2 E7 E8 E9 EA ELI ET ELT.
-/
import Derived.Test.YtbnljlpefpllcaaGreatDoorMD9
import Derived.Test.YtbnljlpefpllcaaGreatDoorSg
import Derived.Test.YtbnljlpefpllcaaGreatDoorMD7
import Derived.Sort.OwnSorted
namespace Go.Proofs.YtbnljlpefpllcaaGreatDoor
open Go Go.RowKit
theorem enc_bl (xs : List ByteArray) : (xs.map bl).map encStr = xs.map Value.string := by
  rw [List.map_map]
  refine List.map_congr_left (fun x _ => ?_)
  show Value.string (ba (bl x)) = _
  rw [ba_bl]
theorem enc_ba (ls : List (List UInt8)) : ls.map encStr = (ls.map ba).map Value.string := by
  rw [List.map_map]; rfl
theorem compact_len (zs : List (List UInt8)) : (Lib.compact zs).length ≤ zs.length := by
  have key : ∀ m, (Lib.compactUpTo zs.toArray m).length ≤ m := by
    intro m
    induction m with
    | zero => simp [Lib.compactUpTo]
    | succ m ih =>
      rw [Lib.compactUpTo_succ, List.length_append]
      split
      · simp; omega
      · simp; omega
  exact key zs.length
set_option maxRecDepth 100000 in
set_option maxHeartbeats 4000000 in
theorem pnewtab_any (xs : List ByteArray) (A : Option Addr) (c : Nat) (w : World) (hs : Slc 1 RN w A c xs) (hl : xs.length ≤ 100000) :
    Calls Tryz.prog 22 #[.slice A xs.length c] w fun e' w' => Below w.heap.size w w' ∧ ((∀ s ∈ xs, isIdent s = true) → ∃ t B d, e' = .returned (.tuple #[.pointer (some ⟨t, 0, none⟩), .int .i64 0]) ∧ TabAt w' t B d (tabB [] xs)) ∧ (¬ (∀ s ∈ xs, isIdent s = true) → e' = .returned (.tuple #[.pointer none, .int .i64 12])) := by
  have hle := hs.le
  have hbg := hs.big
  have HS := Lib.hid hs
  clear hs
  go_enter Tryz.func22, Tryz.ntmps22
  go_wp2_with fail
  go_loopw [9] (fun i wr => ∃ k : Nat, k ≤ xs.length ∧ i = .int .i64 k ∧ Hid (Below w.heap.size w wr) ∧ Hid (∀ s ∈ xs.take k, isIdent s = true)) (fun i _ => xs.length - (intOf i).toNat)
  case atStart => exact ⟨0, by omega, rfl, Lib.hid (Below.refl _ _), Lib.hid (by simp)⟩
  case round =>
    obtain ⟨k, hk, rfl, HB, HI⟩ := hrel
    by_cases hlt : k < xs.length
    · obtain ⟨b, o, rfl, hb, y⟩ := HS.out.sl.at_ hlt
      have HX : Hid (∀ X, Below w.heap.size w X → X.cell? ⟨b, o + k, none⟩ = some (.string xs[k])) := Lib.hid (fun X hX => by
        have h := RN.keeps w X w.heap.size w.heap.size b _ _ (Nat.le_refl _) hb hX y
        simpa [RN] using h)
      have HTK : Hid (xs.take (k + 1) = xs.take k ++ [xs[k]]) := Lib.hid (List.take_succ_eq_append_getElem hlt)
      have HM : Hid (xs[k] ∈ xs) := Lib.hid (List.getElem_mem hlt)
      generalize xs[k] = x at *
      have HID := Lib.hid (isIdent_any x wr)
      have p0 := HX.out wr HB.out
      clear y
      by_cases hi : isIdent x = true
      · rw [hi] at HID
        have HII : Hid (∀ s ∈ xs.take (k + 1), isIdent s = true) := Lib.hid (fun s hs => by
          rw [HTK.out] at hs
          rcases List.mem_append.1 hs with h | h
          · exact HI.out s h
          · rw [List.mem_singleton] at h; rw [h]; exact hi)
        clear hi
        go_wp2_with (go_at_call 68; refine HID.out.mono ?_; rintro e' w1 ⟨rfl, hb1⟩; have HB1 := Lib.hid hb1; clear hb1)
        go_roundw
        case rel => exact ⟨k + 1, by omega, by go_num, Lib.hid (HB.out.trans (HB1.out.mono HB.out.size)), HII⟩
        case measure => simp [intOf]; omega
      · have hif : isIdent x = false := by simpa using hi
        rw [hif] at HID
        have HNO : Hid (¬ ∀ s ∈ xs, isIdent s = true) := Lib.hid (fun h => hi (h x HM.out))
        clear hi hif
        go_wp2_with (go_at_call 68; refine HID.out.mono ?_; rintro e' w1 ⟨rfl, hb1⟩; have HB1 := Lib.hid hb1; clear hb1)
        refine bodyPost_ret (v := .tuple #[.pointer none, .int .i64 12]) (by simp [results, Tryz.results22, go_sem] <;> rfl) rfl ?_
        exact ⟨HB.out.trans (HB1.out.mono HB.out.size), fun h => absurd h HNO.out, fun _ => rfl⟩
    · have hall : ∀ s ∈ xs, isIdent s = true := by
        have h := HI.out
        rwa [show k = xs.length by omega, List.take_length] at h
      have HALL := Lib.hid hall
      clear hall
      by_cases h0 : xs.length = 0
      · have hx : xs = [] := List.length_eq_zero_iff.1 h0
        subst hx
        have HC : Hid (Calls Tryz.prog 69 #[.slice A 0 c] wr fun e w' => ∃ a d, e = .returned (.slice a 0 d) ∧ (∀ x, a = some x → x.block < w'.heap.size) ∧ d ≤ 9223372036854775807 ∧ Below wr.heap.size wr w') := Lib.hid (by
          cases A with
          | none => exact (Tryz.slices_Clone_string_nil 0 c wr).mono (fun e w' h => ⟨none, 0, h.1, (fun x hx => by cases hx), by omega, by rw [h.2]; exact Below.refl _ _⟩)
          | some a =>
            refine (Tryz.slices_Clone_string_zero a c wr).mono ?_
            rintro e w' ⟨v', rfl, hown, _, hb⟩
            obtain ⟨A', c', rfl, h1, h2⟩ := slc_own (R := RN) (enc := Value.string) (xs := []) (fun w B b o x h => h) hown rfl
            exact ⟨A', c', rfl, fun x hx => (h2 x hx).2, h1.big, hb⟩)
        clear h0
        go_wp2_with fail
        go_at_call 69
        refine HC.out.mono ?_
        rintro e' w1 ⟨a, d, rfl, ha, hd, hb1⟩
        have HA := Lib.hid ha
        have HB1 := Lib.hid hb1
        clear ha hb1
        go_wp2_with (first
          | (go_at_call 71; refine (Tryz.slices_Compact_string_empty _ _ _).mono ?_; rintro e' w3 ⟨rfl, hw⟩; obtain rfl := hw.symm)
          | (go_at_call 70; refine (Tryz.slices_Sort_string_none _ _ _).mono ?_; rintro e' w3 ⟨rfl, hw⟩; obtain rfl := hw.symm))
        refine bodyPost_ret (v := .tuple #[.pointer (some ⟨w1.heap.size, 0, none⟩), .int .i64 0]) (by simp [results, Tryz.results22, go_sem] <;> rfl) rfl ?_
        have hb2 := HB.out.trans (HB1.out.mono HB.out.size)
        exact ⟨hb2.alloc hb2.size _, fun _ => ⟨_, a, d, rfl, ⟨heap_alloc_new _ _, ⟨Sl.nil, by simp [tabB], hd⟩, fun x hx => by have := HA.out x hx; simp; omega⟩⟩, fun h => absurd HALL.out h⟩
      · obtain ⟨b, o, rfl, hb, y⟩ := HS.out.sl.at_ (i := 0) (by omega)
        have HCC : Hid (∀ j, j < xs.length → wr.cell? ⟨b, o + j, none⟩ = some (.string (xs.getD j ByteArray.empty))) := Lib.hid (fun j hj => by
          obtain ⟨b', o', he, hb', y'⟩ := (HS.out.keep RN.keeps (w' := wr) (by have := HB.out; exact this)).sl.at_ hj
          injection he with he
          injection he with he1 he2
          subst he1 he2
          simpa [RN, List.getD, List.getElem?_eq_getElem hj] using y')
        have HC := Lib.hid (Tryz.slices_Clone_string b o xs.length c xs wr (Nat.le_refl _) (by omega) HCC.out)
        clear y
        go_wp2_with fail
        go_at_call 69
        refine HC.out.mono ?_
        rintro e' w1 ⟨v', rfl, hown, hnn, hb1⟩
        rw [List.take_length] at hown
        rcases hown.2 with ⟨h1, h2⟩ | ⟨g, cap, cur, rfl, hbase, hh, hnc, hcm, hcs, htk⟩
        · exact absurd h2 h0
        have hold := Go.holds_of_block (ss := xs.map bl) hh (by rw [List.length_map, enc_bl]; simpa using htk)
        have HSO := Lib.hid (Tryz.slices_Sort_string g 0 cap (xs.map bl) w1 hold (Array.getElem?_eq_some_iff.1 hh).1 (by rw [List.length_map]; omega))
        rw [List.length_map] at HSO
        have HH := Lib.hid hh
        have HB1 := Lib.hid hb1
        clear hown hnn hb1 hh htk hold
        go_wp2_with fail
        go_at_call 70
        refine HSO.out.mono ?_
        rintro e' w2 ⟨rfl, q, os, hw2⟩
        have hlen : ((xs.map bl).mergeSort fun x y => decide (x ≤ y)).length = xs.length := by simp
        have hg2 := Go.grownBy_sorted (w := w1) (g := g) (n := q) (os := os) ((xs.map bl).mergeSort fun x y => decide (x ≤ y)).toArray
        have ho2 := Go.ownsRow_sorted (w := w1) (base := wr.heap.size) (g := g) (cap := cap) (n := q) (e := 9) (os := os) (cur := cur) (ss := xs.map bl) (ts := (xs.map bl).mergeSort fun x y => decide (x ≤ y)) (by simp) hbase HH.out (by rw [List.length_map]; exact hnc) hcm hcs
        rw [← hw2] at hg2 ho2
        have HT := Lib.hid (tabB_sort xs)
        have hcl := compact_len ((xs.map bl).mergeSort fun x y => decide (x ≤ y))
        generalize (xs.map bl).mergeSort (fun x y => decide (x ≤ y)) = zs at *
        rw [List.length_map] at ho2
        rcases ho2.2 with ⟨h1, h2⟩ | ⟨g', cap', cur2, he, hbase2, hh2, hnc2, hcm2, hcs2, htk2⟩
        · cases h1
        injection he with he1 _ he3
        injection he1 with he1
        injection he1 with he1
        subst he1 he3
        have hold2 := Go.holds_of_block (ss := zs) hh2 (by rw [hlen]; simpa using htk2)
        have HKO := Lib.hid (Tryz.slices_Compact_string g 0 cap zs w2 hold2 (by omega) (by omega))
        rw [hlen] at HKO
        have HG2 := Lib.hid hg2
        have HH2 := Lib.hid hh2
        clear hw2 hg2 ho2 hh2 htk2 hold2
        go_wp2_with fail
        go_at_call 71
        refine HKO.out.mono ?_
        rintro e' w3 ⟨rfl, q2, hw3⟩
        have hl3 : (Lib.compact zs ++ List.replicate (zs.length - (Lib.compact zs).length) []).length = zs.length := by simp; omega
        have hg3 := Go.grownBy_sorted (w := w2) (g := g) (n := q2) (os := #[]) (Lib.compact zs ++ List.replicate (zs.length - (Lib.compact zs).length) []).toArray
        have ho3 := Go.ownsRow_sorted (w := w2) (base := wr.heap.size) (g := g) (cap := cap) (n := q2) (e := 9) (os := #[]) (cur := cur2) (ss := zs) (ts := Lib.compact zs ++ List.replicate (zs.length - (Lib.compact zs).length) []) hl3 hbase2 HH2.out (by omega) hcm2 hcs2
        rw [hlen] at hg3 ho3
        rw [Go.Sort.grow_empty, ← hw3] at hg3 ho3
        rw [enc_ba] at ho3
        obtain ⟨A', c', hv, hs3, hlt3⟩ := slc_own (R := RN) (enc := Value.string) (fun w B b o x h => h) ho3 (by simp; omega)
        injection hv with hv1 _ hv2
        subst hv1 hv2
        have hB2 : Below w.heap.size w w3 := by
          have h1 := HB.out.trans (HB1.out.mono HB.out.size)
          have h2 : Below w.heap.size w w2 := ⟨HG2.out.os.trans h1.os, HG2.out.tape.trans h1.tape, HG2.out.output.trans h1.output, Nat.le_trans h1.size HG2.out.size, fun j hj => (HG2.out.block j (by have := h1.size; omega) (by intro e; injection e with e; have := HB.out.size; omega)).trans (h1.block j hj)⟩
          exact ⟨hg3.os.trans h2.os, hg3.tape.trans h2.tape, hg3.output.trans h2.output, Nat.le_trans h2.size hg3.size, fun j hj => (hg3.block j (by have := h2.size; omega) (by intro e; injection e with e; have := HB.out.size; omega)).trans (h2.block j hj)⟩
        have hm : (tabB [] xs).length = (Lib.compact zs).length := by rw [HT.out]; simp
        have hslc : Slc 1 RN w3 (some ⟨g, 0, none⟩) cap (tabB [] xs) := by
          refine ⟨?_, by omega, hs3.big⟩
          have h1 := hs3.sl.take (Lib.compact zs).length
          rwa [List.map_append, List.take_append_of_le_length (by simp), List.take_of_length_le (by simp), ← HT.out] at h1
        have HSL := Lib.hid hslc
        have HB2 := Lib.hid hB2
        have hgl := (hlt3 _ rfl).2
        have HM := Lib.hid hm
        clear hw3 hg3 ho3 hs3 hB2 hslc hlt3 hm
        go_wp2_with fail
        refine bodyPost_ret (v := .tuple #[.pointer (some ⟨w3.heap.size, 0, none⟩), .int .i64 0]) (by simp [results, Tryz.results22, go_sem] <;> rfl) rfl ?_
        refine ⟨HB2.out.alloc HB2.out.size _, fun _ => ⟨_, some ⟨g, 0, none⟩, cap, rfl, ⟨?_, HSL.out.keep RN.keeps ((Below.refl _ _).alloc (Nat.le_refl _) _), fun x hx => by injection hx with hx; subst hx; simp; omega⟩⟩, fun h => absurd HALL.out h⟩
        rw [HM.out]
        exact heap_alloc_new _ _
end Go.Proofs.YtbnljlpefpllcaaGreatDoor
namespace Go.Proofs.YtbnljlpefpllcaaGreatDoor
open Go Go.RowKit
theorem lessfun (x s : ByteArray) (bs : Nat) (w : World) (h : w.cell? ⟨bs, 0, none⟩ = some (.string s)) :
    Calls Tryz.prog 135 #[.string x, .pointer (some ⟨bs, 0, none⟩)] w fun e' w' => e' = .returned (.bool (decide (bl x < bl s))) ∧ w' = w := by
  have e1 : Op.bytesLess x.toList s.toList = decide (bl x < bl s) := less_iff x s
  generalize decide (bl x < bl s) = q at *
  go_enter Tryz.func135, Tryz.ntmps135
  go_wp2_with fail
  go_ret
  exact ⟨rfl, rfl⟩
set_option maxRecDepth 100000 in
set_option maxHeartbeats 4000000 in
theorem notless (tbl : List ByteArray) (T : Option Addr) (c i b3 b2 bs : Nat) (s : ByteArray) (w : World) (hs : Slc 1 RN w T c tbl) (hi : i < tbl.length) (h3 : w.cell? ⟨b3, 0, none⟩ = some (.func (.func 135) #[] #[.pointer (some ⟨bs, 0, none⟩)])) (h2 : w.cell? ⟨b2, 0, none⟩ = some (.slice T tbl.length c)) (h1 : w.cell? ⟨bs, 0, none⟩ = some (.string s)) :
    Calls Tryz.prog 186 #[.int .i64 i, .pointer (some ⟨b3, 0, none⟩), .pointer (some ⟨b2, 0, none⟩)] w fun e' w' => e' = .returned (.bool (!decide (bl tbl[i] < bl s))) ∧ Below w.heap.size w w' := by
  have hle := hs.le
  have hbg := hs.big
  obtain ⟨b, o, rfl, hb, y⟩ := hs.sl.at_ hi
  generalize tbl[i] = x at *
  have p0 : w.cell? ⟨b, o + i, none⟩ = some (.string x) := by simpa [RN] using y
  have HL := Lib.hid (lessfun x s bs w.drew h1)
  generalize decide (bl x < bl s) = q at *
  clear y hs
  go_enter Tryz.func186, Tryz.ntmps186
  go_wp2_with fail
  go_still_tail 5, (by kernel_rfl)
  change wpList _ _ _ _ _ w.drew
  go_wp2_with (go_at_call 135; refine HL.out.mono ?_; rintro e' w3 ⟨rfl, hw⟩; obtain rfl := hw.symm)
  go_ret
  exact ⟨rfl, (Below.refl _ w).drew⟩
set_option maxRecDepth 100000 in
set_option maxHeartbeats 4000000 in
theorem psearch_any (n : Nat) (p : Nat → Bool) (lb : Array Value) (w : World) (hn : n ≤ 4611686018427387904) (hmono : ∀ a b, a ≤ b → b < n → p a = true → p b = true)
    (hf : ∀ X, Below w.heap.size w X → ∀ i, i < n → Calls Tryz.prog 186 (#[.int .i64 i] ++ lb) X fun e' X' => e' = .returned (.bool (p i)) ∧ Below X.heap.size X X') :
    Calls Tryz.prog 185 #[.int .i64 n, .func (.func 186) #[] lb] w fun e' w' => ∃ m : Nat, m ≤ n ∧ e' = .returned (.int .i64 m) ∧ (∀ t, t < m → p t = false) ∧ (∀ t, m ≤ t → t < n → p t = true) ∧ Below w.heap.size w w' := by
  have HF := Lib.hid hf
  have HM := Lib.hid hmono
  clear hf hmono
  go_enter Tryz.func185, Tryz.ntmps185
  go_wp2_with fail
  go_loopw [5, 6] (fun u v wr => ∃ lo hi : Nat, u = .int .i64 lo ∧ v = .int .i64 hi ∧ lo ≤ hi ∧ hi ≤ n ∧ Hid ((∀ t, t < lo → p t = false) ∧ (∀ t, hi ≤ t → t < n → p t = true)) ∧ Hid (Below w.heap.size w wr)) (fun u v _ => (intOf v).toNat - (intOf u).toNat)
  case atStart => exact ⟨0, n, rfl, rfl, by omega, by omega, Lib.hid ⟨fun t h => by omega, fun t h1 h2 => by omega⟩, Lib.hid (Below.refl _ _)⟩
  case round =>
    obtain ⟨lo, hi, rfl, rfl, hlh, hhn, HI, HB⟩ := hrel
    by_cases hlt : lo < hi
    · obtain ⟨md, hmd⟩ : ∃ md, (lo + hi) / 2 = md := ⟨_, rfl⟩
      have HC := Lib.hid (HF.out _ HB.out md (by omega))
      have h1 : lo ≤ md := by omega
      have h2 : md < hi := by omega
      have e1 : ((lo : Int) + (hi : Int)) / 2 = (md : Int) := by omega
      clear hmd
      cases hp : p md with
      | true =>
        rw [hp] at HC
        have HP := Lib.hid hp
        clear hp
        go_wp2_with (go_at_call 186; refine HC.out.mono ?_; rintro e' w3 ⟨rfl, hb3⟩; have HB3 := Lib.hid hb3; clear hb3)
        go_roundw
        case rel => exact ⟨lo, md, rfl, by first | rfl | rw [e1], by omega, by omega, Lib.hid ⟨HI.out.1, fun t ht1 ht2 => HM.out md t ht1 ht2 HP.out⟩, Lib.hid (HB.out.trans (HB3.out.mono HB.out.size))⟩
        case measure => simp [intOf]; omega
      | false =>
        rw [hp] at HC
        have HP := Lib.hid hp
        clear hp
        go_wp2_with (go_at_call 186; refine HC.out.mono ?_; rintro e' w3 ⟨rfl, hb3⟩; have HB3 := Lib.hid hb3; clear hb3)
        go_roundw
        case rel =>
          exact ⟨md + 1, hi, by go_num, rfl, by omega, by omega, Lib.hid ⟨fun t ht => by
            cases hq : p t with
            | false => rfl
            | true => exact absurd (HM.out t md (by omega) (by omega) hq) (by rw [HP.out]; simp), HI.out.2⟩, Lib.hid (HB.out.trans (HB3.out.mono HB.out.size))⟩
        case measure => simp [intOf]; omega
    · have hle : lo = hi := by omega
      have HLE := Lib.hid hle
      clear hle
      go_wp2_with fail
      go_ret
      exact ⟨lo, by omega, rfl, HI.out.1, fun t h1 h2 => HI.out.2 t (by have := HLE.out; omega) h2, HB.out⟩
end Go.Proofs.YtbnljlpefpllcaaGreatDoor
namespace Go.Proofs.YtbnljlpefpllcaaGreatDoor
open Go Go.RowKit
set_option maxRecDepth 100000 in
set_option maxHeartbeats 4000000 in
theorem ptsearch (tbl : List ByteArray) (T : Option Addr) (c bs : Nat) (s : ByteArray) (w : World) (hs : Slc 1 RN w T c tbl) (h1 : w.cell? ⟨bs, 0, none⟩ = some (.string s)) (hsort : tbl.Pairwise (fun a b => bl a < bl b)) (hl : tbl.length ≤ 1000000) :
    Calls Tryz.prog 134 #[.slice T tbl.length c, .func (.func 135) #[] #[.pointer (some ⟨bs, 0, none⟩)]] w fun e' w' => ∃ m : Nat, m ≤ tbl.length ∧ e' = .returned (.int .i64 m) ∧ (∀ t (h : t < tbl.length), t < m → bl tbl[t] < bl s) ∧ (∀ t (h : t < tbl.length), m ≤ t → ¬ bl tbl[t] < bl s) ∧ Below w.heap.size w w' := by
  obtain ⟨W, hW⟩ : ∃ W, (w.alloc (.cells #[.slice T tbl.length c] 22)).alloc (.cells #[.func (.func 135) #[] #[.pointer (some ⟨bs, 0, none⟩)]] 126) = W := ⟨_, rfl⟩
  have hb : Below w.heap.size w W := by rw [← hW]; exact ((Below.refl _ _).alloc (Nat.le_refl _) _).alloc (by simp) _
  have c2 : W.cell? ⟨w.heap.size, 0, none⟩ = some (.slice T tbl.length c) := by
    rw [← hW]
    exact cell_keep ((Below.refl _ _).alloc (Nat.le_refl _) _) (cell_new1 w _ _)
  have c3 : W.cell? ⟨w.heap.size + 1, 0, none⟩ = some (.func (.func 135) #[] #[.pointer (some ⟨bs, 0, none⟩)]) := by
    rw [← hW]
    have := cell_new1 (w.alloc (.cells #[.slice T tbl.length c] 22)) (.func (.func 135) #[] #[.pointer (some ⟨bs, 0, none⟩)]) 126
    rwa [World.size_alloc] at this
  have hp : ∀ i (h : i < tbl.length), (tbl.getD i ByteArray.empty) = tbl[i] := fun i h => by simp [List.getD, h]
  have HS := Lib.hid (psearch_any tbl.length (fun i => !decide (bl (tbl.getD i ByteArray.empty) < bl s)) #[.pointer (some ⟨w.heap.size + 1, 0, none⟩), .pointer (some ⟨w.heap.size, 0, none⟩)] W (by omega)
    (fun a b hab hbl hpa => by
      simp only [Bool.not_eq_true', decide_eq_false_iff_not] at hpa ⊢
      rw [hp a (by omega)] at hpa
      rw [hp b hbl]
      intro hlt
      rcases Nat.lt_or_ge a b with h | h
      · exact hpa (lt_trans' (List.pairwise_iff_getElem.1 hsort a b (by omega) hbl h) hlt)
      · have : a = b := by omega
        subst this
        exact hpa hlt)
    (fun X hX i hi => by
      have := notless tbl T c i (w.heap.size + 1) w.heap.size bs s X ((hs.keep RN.keeps hb).keep RN.keeps hX) hi (cell_keep hX c3) (cell_keep hX c2) (cell_keep hX (cell_keep hb h1))
      simp only [hp i hi]
      exact this))
  have HB := Lib.hid hb
  have HPP := Lib.hid hp
  have hst : ∀ (a : Addr) (fn : Fn) (f c : Array Value) (W : World), (store a (.func fn f c)).run Tryz.prog W = stored Tryz.prog W a (.func fn f c) .plain := fun a fn f c W => run_store Tryz.prog W a (.func fn f c) _ rfl
  clear hs h1 hsort hb hp
  go_enter Tryz.func134, Tryz.ntmps134
  go_wp2_with fail
  go_at_call 185
  refine HS.out.mono ?_
  rintro e' w1 ⟨m, hm, rfl, hlo, hhi, hb1⟩
  have H1 := Lib.hid hlo
  have H2 := Lib.hid hhi
  have HB1 := Lib.hid hb1
  clear hlo hhi hb1
  go_wp2_with fail
  go_ret
  refine ⟨m, hm, rfl, fun t h ht => ?_, fun t h ht => ?_, HB.out.trans (HB1.out.mono HB.out.size)⟩
  · have := H1.out t ht
    rw [HPP.out t h] at this
    simpa using this
  · have := H2.out t ht h
    rw [HPP.out t h] at this
    simpa using this
/-- Where the search ends. -/
theorem idx_found {tbl : List ByteArray} {s : ByteArray} {m : Nat} (hs : tbl.Pairwise (fun a b => bl a < bl b)) (h1 : ∀ t (h : t < tbl.length), t < m → bl tbl[t] < bl s) (h2 : ∀ t (h : t < tbl.length), m ≤ t → ¬ bl tbl[t] < bl s) :
    (∀ h : m < tbl.length, tbl[m] = s → memN s tbl = true ∧ idxN s 0 tbl = m) ∧ ((∀ h : m < tbl.length, tbl[m] ≠ s) → memN s tbl = false) := by
  have hnd : tbl.Nodup := List.Pairwise.imp (fun {a b} (h : bl a < bl b) => (fun e : a = b => lt_irr (bl b) (by rw [e] at h; exact h) : a ≠ b)) hs
  constructor
  · intro h e
    refine ⟨memN_iff.2 (e ▸ List.getElem_mem h), ?_⟩
    have := idxN_at hnd m 0 s (by rw [List.getElem?_eq_getElem h, e])
    simpa using this
  · intro h
    by_cases hm : memN s tbl = true
    · exfalso
      obtain ⟨j, hj, e⟩ := List.getElem_of_mem (memN_iff.1 hm)
      have hjm : m ≤ j := by
        rcases Nat.lt_or_ge j m with hx | hx
        · have := h1 j hj hx
          rw [e] at this
          exact absurd this (lt_irr _)
        · exact hx
      rcases Nat.lt_or_ge m j with hx | hx
      · have := List.pairwise_iff_getElem.1 hs m j (by omega) hj hx
        rw [e] at this
        exact h2 m (by omega) (Nat.le_refl _) this
      · have : m = j := by omega
        subst this
        exact h hj e
    · simpa using hm
set_option maxRecDepth 100000 in
set_option maxHeartbeats 4000000 in
theorem pindex_any (t : Nat) (T : Option Addr) (c : Nat) (tbl : List ByteArray) (s : ByteArray) (w : World) (H : TabAt w t T c tbl) (hsort : tbl.Pairwise (fun a b => bl a < bl b)) (hl : tbl.length ≤ 1000000) :
    Calls Tryz.prog 81 #[.pointer (some ⟨t, 0, none⟩), .string s] w fun e' w' => e' = .returned (.tuple #[.int .i64 (if memN s tbl = true then idxN s 0 tbl else 0), .bool (memN s tbl)]) ∧ Below w.heap.size w w' := by
  obtain ⟨W, hW⟩ : ∃ W, w.alloc (.cells #[.string s] 9) = W := ⟨_, rfl⟩
  have hb : Below w.heap.size w W := by rw [← hW]; exact (Below.refl _ _).alloc (Nat.le_refl _) _
  have cs : W.cell? ⟨w.heap.size, 0, none⟩ = some (.string s) := by rw [← hW]; exact cell_new1 w _ _
  have HT := Lib.hid (H.keep hb)
  have ct : W.cell? ⟨t, 0, none⟩ = some (.slice T tbl.length c) := by
    have := HT.out.at_
    simp [World.cell?, this]
  have HS := Lib.hid (ptsearch tbl T c w.heap.size s W HT.out.row cs hsort hl)
  have HI := Lib.hid (fun m (h1 : ∀ t (h : t < tbl.length), t < m → bl tbl[t] < bl s) h2 => idx_found hsort h1 h2)
  have HB := Lib.hid hb
  obtain ⟨q1, hq1⟩ : ∃ q, (if memN s tbl = true then idxN s 0 tbl else 0) = q := ⟨_, rfl⟩
  obtain ⟨q2, hq2⟩ : ∃ q, memN s tbl = q := ⟨_, rfl⟩
  rw [hq1, hq2]
  have HQ1 := Lib.hid hq1
  have HQ2 := Lib.hid hq2
  have hle := HT.out.row.le
  have hbg := HT.out.row.big
  clear H hsort hb hq1 hq2
  go_enter Tryz.func81, Tryz.ntmps81
  go_wp2_with fail
  go_at_call 134
  refine HS.out.mono ?_
  rintro e' w1 ⟨m, hm, rfl, hlo, hhi, hb1⟩
  obtain ⟨hf1, hf2⟩ := HI.out m hlo hhi
  have c1 := cell_keep hb1 cs
  have c2 := cell_keep hb1 ct
  have HB1 := Lib.hid hb1
  by_cases hmn : m < tbl.length
  · obtain ⟨b, o, rfl, hbb, y⟩ := (HT.out.row.keep RN.keeps hb1).sl.at_ hmn
    have hf1 := hf1 hmn
    have hf2' : tbl[m] ≠ s → memN s tbl = false := fun h => hf2 (fun _ => h)
    generalize tbl[m] = x at *
    have p0 : w1.cell? ⟨b, o + m, none⟩ = some (.string x) := by simpa [RN] using y
    have e1 : ((m : Int) == (tbl.length : Int)) = false := beq_false_of_ne (by omega)
    clear y hb1 hlo hhi hf2 cs ct
    by_cases hxs : x = s
    · subst hxs
      obtain ⟨g1, g2⟩ := hf1 rfl
      have G : Hid (q1 = (m : Int) ∧ q2 = true) := Lib.hid ⟨by rw [← HQ1.out, g1, if_pos rfl, g2], by rw [← HQ2.out, g1]⟩
      clear hf1 hf2' g1 g2
      go_wp2_with fail
      go_quiet (fail)
      go_wp2_with fail
      refine bodyPost_ret (v := .tuple #[.int .i64 m, .bool true]) (by simp [results, Tryz.results81, go_sem] <;> rfl) rfl ?_
      rw [G.out.1, G.out.2]
      exact ⟨rfl, HB.out.trans (below_drewN (HB1.out.mono HB.out.size) _)⟩
    · have g1 := hf2' hxs
      have e2 : (x.toList == s.toList) = false := by rw [eq_iff]; simp [hxs]
      have G : Hid (q1 = 0 ∧ q2 = false) := Lib.hid ⟨by rw [← HQ1.out, g1]; rfl, by rw [← HQ2.out, g1]⟩
      clear hf1 hf2' g1 hxs
      go_wp2_with fail
      go_quiet (fail)
      go_wp2_with fail
      refine bodyPost_ret (v := .tuple #[.int .i64 0, .bool false]) (by simp [results, Tryz.results81, go_sem] <;> rfl) rfl ?_
      rw [G.out.1, G.out.2]
      exact ⟨rfl, HB.out.trans (below_drewN (HB1.out.mono HB.out.size) _)⟩
  · have g1 := hf2 (fun h => absurd h hmn)
    have G : Hid (q1 = 0 ∧ q2 = false) := Lib.hid ⟨by rw [← HQ1.out, g1]; rfl, by rw [← HQ2.out, g1]⟩
    have e1 : ((m : Int) == (tbl.length : Int)) = true := by simp; omega
    clear hf1 hf2 g1 hb1 hlo hhi cs ct
    go_wp2_with fail
    go_quiet (fail)
    go_wp2_with fail
    refine bodyPost_ret (v := .tuple #[.int .i64 0, .bool false]) (by simp [results, Tryz.results81, go_sem] <;> rfl) rfl ?_
    rw [G.out.1, G.out.2]
    exact ⟨rfl, HB.out.trans (below_drewN (HB1.out.mono HB.out.size) _)⟩
end Go.Proofs.YtbnljlpefpllcaaGreatDoor
namespace Go.Proofs.YtbnljlpefpllcaaGreatDoor
open Go Go.RowKit
/-- The encoder at block h: it has written l. -/
structure ES (w0 : World) (h g t : Nat) (X : World) (er : Int) (l : List UInt8) : Prop where
  bel : Below w0.heap.size w0 X
  at_ : X.heap[h]? = some (.cells #[.pointer (some ⟨g, 0, none⟩), .pointer (some ⟨t, 0, none⟩), .int .i64 er] 75 (0, 0))
  wr : WRd X g l
  low : w0.heap.size ≤ g
  hg : g < h
/-- What the encoder leaves. -/
structure WrE (g h : Nat) (w w' : World) : Prop where
  size : w.heap.size ≤ w'.heap.size
  block : ∀ k o, w.heap[k]? = some o → k ≠ g → k ≠ h → (k < g ∨ isU8 o = false) → w'.heap[k]? = some o
theorem WrE.refl (g h : Nat) (w : World) : WrE g h w w := ⟨Nat.le_refl _, fun _ _ h _ _ _ => h⟩
theorem WrE.trans {g h : Nat} {a b c : World} (x : WrE g h a b) (y : WrE g h b c) : WrE g h a c := ⟨Nat.le_trans x.size y.size, fun k o h1 h2 h3 h4 => y.block k o (x.block k o h1 h2 h3 h4) h2 h3 h4⟩
theorem WrE.of_wr {g h : Nat} {a b : World} (x : Wr g a b) : WrE g h a b := ⟨x.size, fun k o h1 h2 _ h4 => x.block k o h1 h2 h4⟩
theorem WrE.of_below {g h : Nat} {a b : World} (x : Below a.heap.size a b) : WrE g h a b := WrE.of_wr (Wr.of_below x)
theorem ES.wrs {w0 X Y : World} {h g t : Nat} {er : Int} {l l' : List UInt8} (s : ES w0 h g t X er l) (x : Wr g X Y) (hw : WRd Y g l') : ES w0 h g t Y er l' :=
  ⟨s.bel.trans ((x.below (Nat.le_of_lt s.wr.lt)).mono s.low), x.block h _ s.at_ (by have := s.hg; omega) (.inr rfl), hw, s.low, s.hg⟩
theorem ES.keep {w0 X Y : World} {h g t : Nat} {er : Int} {l : List UInt8} (s : ES w0 h g t X er l) (x : Below X.heap.size X Y) : ES w0 h g t Y er l := s.wrs (Wr.of_below x) (s.wr.keep x)
theorem trip {w : World} {k : Nat} {a b c : Value} {t : TypeId} (h : w.heap[k]? = some (.cells #[a, b, c] t (0, 0))) : w.cell? ⟨k, 0, none⟩ = some a ∧ w.cell? ⟨k, 1, none⟩ = some b ∧ w.cell? ⟨k, 2, none⟩ = some c ∧ w.frozen? ⟨k, 2, none⟩ = false :=
  ⟨by rw [cell_of_row w _ 0 _ _ _ h]; rfl, by rw [cell_of_row w _ 1 _ _ _ h]; rfl, by rw [cell_of_row w _ 2 _ _ _ h]; rfl, by simp [World.frozen?, h]⟩
set_option maxRecDepth 100000 in
set_option maxHeartbeats 4000000 in
theorem enum_any (w0 : World) (h g t : Nat) (er : Int) (l : List UInt8) (n : Int) (X : World) (s : ES w0 h g t X er l) (hn : 0 ≤ n ∧ n < 9223372036854775808) (hl : (l ++ putI n).length ≤ 1000000000) :
    Calls Tryz.prog 38 #[.pointer (some ⟨h, 0, none⟩), .int .i64 n] X fun e' w' => e' = .returned (.tuple #[]) ∧ ES w0 h g t w' er (l ++ putI n) ∧ WrE g h X w' := by
  obtain ⟨m, rfl⟩ := Int.eq_ofNat_of_zero_le hn.1
  have hpi : putI (m : Int) = putL m := rfl
  rw [hpi] at hl ⊢
  rw [List.length_append] at hl
  have HU := Lib.hid (pwuint g l m X s.wr (by omega) (by omega))
  have ew : IntKind.u64.wrap (m : Int) = (m : Int) := by rw [IntKind.wrap_u64]; omega
  obtain ⟨x0, x1, x2, _⟩ := trip s.at_
  have HS := Lib.hid s
  clear s hl hpi
  go_enter Tryz.func38, Tryz.ntmps38
  go_wp2_with (go_at_call 84; refine HU.out.mono ?_; rintro e' w1 ⟨rfl, hw1, hx1⟩; have HW1 := Lib.hid hw1; have HX1 := Lib.hid hx1; clear hw1 hx1)
  exact bodyPost_end (v := .tuple #[]) (by simp [results, Tryz.results38, go_sem] <;> rfl) rfl ⟨rfl, HS.out.wrs HX1.out HW1.out, WrE.of_wr HX1.out⟩
/-- What name writes. -/
def nameX (tbl : List ByteArray) (s : ByteArray) : List UInt8 := putI (if memN s tbl = true then idxN s 0 tbl else 0)
def errX (tbl : List ByteArray) (s : ByteArray) (er : Int) : Int := if memN s tbl = true then er else 20
theorem idxN_lt (s : ByteArray) : ∀ (l : List ByteArray) (k : Nat), idxN s k l < k + l.length + 1
  | [], k => by simp [idxN]; omega
  | x :: r, k => by
    unfold idxN
    split
    · simp; omega
    · have := idxN_lt s r (k + 1)
      simp only [List.length_cons]; omega
set_option maxRecDepth 100000 in
set_option maxHeartbeats 4000000 in
theorem ename_any (w0 : World) (h g t : Nat) (T : Option Addr) (c : Nat) (tbl : List ByteArray) (er : Int) (l : List UInt8) (s : ByteArray) (X : World) (H : TabAt w0 t T c tbl) (hsort : tbl.Pairwise (fun a b => bl a < bl b)) (htl : tbl.length ≤ 1000000)
    (hs : ES w0 h g t X er l) (hl : (l ++ nameX tbl s).length ≤ 1000000000) :
    Calls Tryz.prog 30 #[.pointer (some ⟨h, 0, none⟩), .string s] X fun e' w' => e' = .returned (.tuple #[]) ∧ ES w0 h g t w' (errX tbl s er) (l ++ nameX tbl s) ∧ WrE g h X w' := by
  have hx : TabAt X t T c tbl := H.keep hs.bel
  have HI := Lib.hid (pindex_any t T c tbl s X hx hsort htl)
  obtain ⟨q, hq⟩ : ∃ q, (if memN s tbl = true then idxN s 0 tbl else 0) = q := ⟨_, rfl⟩
  rw [hq] at HI
  have hq0 : 0 ≤ q ∧ q < 9223372036854775808 := by
    rw [← hq]
    by_cases hm : memN s tbl = true
    · rw [if_pos hm]
      have h1 := (idxN_neg s 0 tbl).2 hm
      have h2 := idxN_lt s tbl 0
      omega
    · rw [if_neg hm]; omega
  have HX : Hid (nameX tbl s = putI q) := Lib.hid (by unfold nameX; rw [hq])
  have hl' : (l ++ putI q).length ≤ 1000000000 := by rw [← HX.out]; exact hl
  have HE : Hid (errX tbl s er = if memN s tbl = true then er else 20) := Lib.hid rfl
  generalize errX tbl s er = er' at *
  generalize nameX tbl s = nx at *
  obtain ⟨x0, x1, x2, x3⟩ := trip hs.at_
  have HS := Lib.hid hs
  have HL := Lib.hid hl'
  have HQ0 := Lib.hid hq0
  have hgh := hs.hg
  clear hs hl hx hq H hl' hq0
  cases hm : memN s tbl with
  | true =>
    rw [hm] at HI HE
    have HE2 : Hid (er' = er) := Lib.hid (by rw [HE.out, if_pos rfl])
    clear hm HE
    go_enter Tryz.func30, Tryz.ntmps30
    go_wp2_with fail
    go_at_call 81
    refine HI.out.mono ?_
    rintro e' w1 ⟨rfl, hb1⟩
    have HS1 := Lib.hid (HS.out.keep hb1)
    have HB1 := Lib.hid hb1
    clear hb1
    go_wp2_with fail
    go_at_call 38
    refine (enum_any w0 h g t er l q w1 HS1.out HQ0.out HL.out).mono ?_
    rintro e' w2 ⟨rfl, hs2, hx2⟩
    have HS2 := Lib.hid hs2
    have HX2 := Lib.hid hx2
    clear hs2 hx2
    go_wp2_with fail
    exact bodyPost_end (v := .tuple #[]) (by simp [results, Tryz.results30, go_sem] <;> rfl) rfl ⟨rfl, by rw [HE2.out, HX.out]; exact HS2.out, (WrE.of_below HB1.out).trans HX2.out⟩
  | false =>
    rw [hm] at HI HE
    have HE2 : Hid (er' = 20) := Lib.hid (by rw [HE.out, if_neg (by simp)])
    clear hm HE
    go_enter Tryz.func30, Tryz.ntmps30
    go_wp2_with fail
    go_at_call 81
    refine HI.out.mono ?_
    rintro e' w1 ⟨rfl, hb1⟩
    have hs1 := HS.out.keep hb1
    obtain ⟨y0, y1, y2, y3⟩ := trip hs1.at_
    obtain ⟨W2, hW2⟩ : ∃ W2, w1.setCell ⟨h, 2, none⟩ (.int .i64 20) = W2 := ⟨_, rfl⟩
    have hs2 : ES w0 h g t W2 20 l := by
      rw [← hW2]
      refine ⟨hs1.bel.setCell (p := ⟨h, 2, none⟩) (by have := hs1.low; simp; omega) _, trip_put2 _ hs1.at_, ?_, hs1.low, hs1.hg⟩
      obtain ⟨A', c', g1, g2⟩ := hs1.wr
      exact ⟨A', c', (Below.heap_setCell _ _ _ g (by simp; omega)).trans g1, own_block g2 (fun k _ _ hk => Below.heap_setCell _ _ _ k (by
        intro e
        simp only at e
        subst e
        exact own_ne g2 hs1.at_ (by decide) hk))⟩
    have hx2 : WrE g h X W2 := by
      rw [← hW2]
      refine (WrE.of_below hb1).trans ⟨by simp, fun k o h1 h2 h3 h4 => ?_⟩
      rw [Below.heap_setCell _ _ _ k (by simpa using h3)]
      exact h1
    have HS2 := Lib.hid hs2
    have HX2 := Lib.hid hx2
    clear hb1 hs1 hs2 hx2
    go_wp2_with fail
    go_at_call 38
    refine (enum_any w0 h g t 20 l q W2 HS2.out HQ0.out HL.out).mono ?_
    rintro e' w3 ⟨rfl, hs3, hx3⟩
    have HS3 := Lib.hid hs3
    have HX3 := Lib.hid hx3
    clear hs3 hx3
    go_wp2_with fail
    exact bodyPost_end (v := .tuple #[]) (by simp [results, Tryz.results30, go_sem] <;> rfl) rfl ⟨rfl, by rw [HE2.out, HX.out]; exact HS3.out, HX2.out.trans HX3.out⟩
end Go.Proofs.YtbnljlpefpllcaaGreatDoor
namespace Go.Proofs.YtbnljlpefpllcaaGreatDoor
open Go Go.RowKit
set_option maxRecDepth 100000 in
set_option maxHeartbeats 4000000 in
theorem epair_any (w0 : World) (h g t : Nat) (er : Int) (l : List UInt8) (x : (Int × Int)) (X : World) (hs : ES w0 h g t X er l) (hn : (0 ≤ x.1 ∧ x.1 < 9223372036854775808) ∧ (0 ≤ x.2 ∧ x.2 < 9223372036854775808)) (hl : (l ++ pairW x).length ≤ 1000000000) :
    Calls Tryz.prog 33 #[.pointer (some ⟨h, 0, none⟩), .agg #[.int .i64 x.1, .int .i64 x.2]] X fun e' w' => e' = .returned (.tuple #[]) ∧ ES w0 h g t w' (er) (l ++ pairW x) ∧ WrE g h X w' := by
  obtain ⟨W, hW⟩ : ∃ W, X.alloc (.cells #[.int .i64 x.1, .int .i64 x.2] 79) = W := ⟨_, rfl⟩
  have hb : Below X.heap.size X W := by rw [← hW]; exact (Below.refl _ _).alloc (Nat.le_refl _) _
  have hk : W.heap[X.heap.size]? = some (.cells #[.int .i64 x.1, .int .i64 x.2] 79 (0, 0)) := by rw [← hW]; exact heap_alloc_new X _
  have hsW := hs.keep hb
  have hhl : h < X.heap.size := (Array.getElem?_eq_some_iff.1 hs.at_).1
  have hgl := hs.wr.lt
  obtain ⟨z0, z1, _, _⟩ := blk2 hk
  have HK := Lib.hid hk
  have HSW := Lib.hid hsW
  have HB := Lib.hid hb
  have HL := Lib.hid hl
  have HN := Lib.hid hn
  clear hs hl hk hsW hb hn
  go_enter Tryz.func33, Tryz.ntmps33
  go_wp2_with fail
  go_at_call 38
  refine (enum_any w0 h g t er l x.1 W HSW.out HN.out.1 (by have h := HL.out; unfold pairW at h; simp only [List.length_append] at h ⊢; omega)).mono ?_
  rintro e' w1 ⟨rfl, hs1, hx1⟩
  have hk1 := hx1.block _ _ HK.out (by omega) (by omega) (.inr rfl)
  obtain ⟨y0, y1, _, _⟩ := blk2 hk1
  have HS1 := Lib.hid hs1
  have HX1 := Lib.hid hx1
  clear hs1 hx1 hk1
  go_wp2_with fail
  go_at_call 38
  refine (enum_any w0 h g t er _ x.2 w1 HS1.out HN.out.2 (by have h := HL.out; unfold pairW at h; simp only [List.length_append] at h ⊢; omega)).mono ?_
  rintro e' w2 ⟨rfl, hs2, hx2⟩
  have HS2 := Lib.hid hs2
  have HX2 := Lib.hid hx2
  clear hs2 hx2
  go_wp2_with fail
  exact bodyPost_end (v := .tuple #[]) (by simp [results, Tryz.results33, go_sem] <;> rfl) rfl ⟨rfl, by unfold pairW; rw [← List.append_assoc]; exact HS2.out, ((WrE.of_below HB.out).trans HX1.out).trans HX2.out⟩
/-- What local writes. -/
def localX (tbl : List ByteArray) (x : Lc) : List UInt8 := nameX tbl x.name ++ putI x.type
set_option maxRecDepth 100000 in
set_option maxHeartbeats 4000000 in
theorem elocal_any (w0 : World) (h g t : Nat) (T : Option Addr) (c : Nat) (tbl : List ByteArray) (er : Int) (l : List UInt8) (x : Lc) (X : World) (H : TabAt w0 t T c tbl) (hsort : tbl.Pairwise (fun a b => bl a < bl b)) (htl : tbl.length ≤ 1000000) (hs : ES w0 h g t X er l) (hn : 0 ≤ x.type ∧ x.type < 9223372036854775808) (hl : (l ++ localX tbl x).length ≤ 1000000000) :
    Calls Tryz.prog 37 #[.pointer (some ⟨h, 0, none⟩), .agg #[.string x.name, .int .i64 x.type]] X fun e' w' => e' = .returned (.tuple #[]) ∧ ES w0 h g t w' (errX tbl x.name er) (l ++ localX tbl x) ∧ WrE g h X w' := by
  obtain ⟨W, hW⟩ : ∃ W, X.alloc (.cells #[.string x.name, .int .i64 x.type] 87) = W := ⟨_, rfl⟩
  have hb : Below X.heap.size X W := by rw [← hW]; exact (Below.refl _ _).alloc (Nat.le_refl _) _
  have hk : W.heap[X.heap.size]? = some (.cells #[.string x.name, .int .i64 x.type] 87 (0, 0)) := by rw [← hW]; exact heap_alloc_new X _
  have hsW := hs.keep hb
  have hhl : h < X.heap.size := (Array.getElem?_eq_some_iff.1 hs.at_).1
  have hgl := hs.wr.lt
  obtain ⟨z0, z1, _, _⟩ := blk2 hk
  have HK := Lib.hid hk
  have HSW := Lib.hid hsW
  have HB := Lib.hid hb
  have HL := Lib.hid hl
  have HN := Lib.hid hn
  have HTB := Lib.hid H
  have HSO := Lib.hid hsort
  clear hs hl hk hsW hb hn H hsort
  go_enter Tryz.func37, Tryz.ntmps37
  go_wp2_with fail
  go_at_call 30
  refine (ename_any w0 h g t T c tbl er l x.name W HTB.out HSO.out htl HSW.out (by have h := HL.out; unfold localX at h; simp only [List.length_append] at h ⊢; omega)).mono ?_
  rintro e' w1 ⟨rfl, hs1, hx1⟩
  have hk1 := hx1.block _ _ HK.out (by omega) (by omega) (.inr rfl)
  obtain ⟨y0, y1, _, _⟩ := blk2 hk1
  have HS1 := Lib.hid hs1
  have HX1 := Lib.hid hx1
  clear hs1 hx1 hk1
  go_wp2_with fail
  go_at_call 38
  refine (enum_any w0 h g t _ _ x.type w1 HS1.out HN.out (by have h := HL.out; unfold localX at h; simp only [List.length_append] at h ⊢; omega)).mono ?_
  rintro e' w2 ⟨rfl, hs2, hx2⟩
  have HS2 := Lib.hid hs2
  have HX2 := Lib.hid hx2
  clear hs2 hx2
  go_wp2_with fail
  exact bodyPost_end (v := .tuple #[]) (by simp [results, Tryz.results37, go_sem] <;> rfl) rfl ⟨rfl, by unfold localX; rw [← List.append_assoc]; exact HS2.out, ((WrE.of_below HB.out).trans HX1.out).trans HX2.out⟩
end Go.Proofs.YtbnljlpefpllcaaGreatDoor
namespace Go.Proofs.YtbnljlpefpllcaaGreatDoor
open Go Go.RowKit
set_option maxRecDepth 100000 in
set_option maxHeartbeats 4000000 in
theorem elist_int (w0 : World) (h g t : Nat) (er : Int) (l : List UInt8) (xs : List Int) (A : Option Addr) (d : Nat) (X : World) (hxs : Slc 1 RInt w0 A d xs) (hs : ES w0 h g t X er l) (hn : ∀ x ∈ xs, 0 ≤ x ∧ x < 9223372036854775808) (hl : (l ++ listW putI xs).length ≤ 1000000000) :
    Calls Tryz.prog 83 #[.pointer (some ⟨h, 0, none⟩), .slice A xs.length d, .func (.func 38) #[.pointer (some ⟨h, 0, none⟩)] #[]] X fun e' w' => e' = .returned (.tuple #[]) ∧ ES w0 h g t w' (xs.foldl (fun e _ => e) er) (l ++ listW putI xs) ∧ WrE g h X w' := by
  have hle := hxs.le
  have hbg := hxs.big
  have HXS := Lib.hid hxs
  have HN := Lib.hid hn
  have HL := Lib.hid hl
  have HS := Lib.hid hs
  have hhl : h < X.heap.size := (Array.getElem?_eq_some_iff.1 hs.at_).1
  have hgh := hs.hg


  have HW : Hid (listW putI xs = putI (xs.length : Int) ++ xs.flatMap putI) := Lib.hid rfl
  have HE := Lib.hid (enum_any w0 h g t er l (xs.length : Int) X hs (by omega) (by have h := hl; rw [HW.out] at h; simp only [List.length_append] at h ⊢; omega))
  clear hxs hs hn hl
  go_enter Tryz.func83, Tryz.ntmps83
  go_wp2_with fail
  go_at_call 38
  refine HE.out.mono ?_
  rintro e' w1 ⟨rfl, hs1, hx1⟩
  have HS1 := Lib.hid hs1
  have HX1 := Lib.hid hx1
  clear hs1 hx1 HE
  go_wp2_with fail
  go_loopw [14] (fun i wr => ∃ k : Nat, k ≤ xs.length ∧ i = .int .i64 k ∧ Hid (ES w0 h g t wr ((xs.take k).foldl (fun e _ => e) er) (l ++ (putI (xs.length : Int) ++ (xs.take k).flatMap putI))) ∧ Hid (WrE g h X wr)) (fun i _ => xs.length - (intOf i).toNat)
  case atStart => exact ⟨0, by omega, rfl, Lib.hid (by simpa using HS1.out), HX1⟩
  case round =>
    obtain ⟨k, hk, rfl, HSk, HXk⟩ := hrel
    by_cases hlt : k < xs.length
    · obtain ⟨b, o, rfl, hb, y⟩ := (HXS.out.keep RInt.keeps HSk.out.bel).sl.at_ hlt
      have HTK : Hid (xs.take (k + 1) = xs.take k ++ [xs[k]]) := Lib.hid (List.take_succ_eq_append_getElem hlt)
      have HNX := Lib.hid (HN.out xs[k] (List.getElem_mem hlt))
      have HLK : Hid ((l ++ (putI (xs.length : Int) ++ (xs.take k).flatMap putI) ++ putI xs[k]).length ≤ 1000000000) := Lib.hid (by
        have h1 := HL.out
        rw [HW.out, ← List.take_append_drop (k + 1) xs] at h1
        rw [HTK.out] at h1
        simp only [List.take_append_drop, List.flatMap_append, List.flatMap_cons, List.flatMap_nil, List.append_nil, List.length_append, List.length_take, List.length_drop, List.length_cons, List.length_nil] at h1 ⊢
        have e : min k xs.length + (0 + 1) + (xs.length - (k + 1)) = xs.length := by omega
        first
        | omega
        | (rw [e] at h1; omega))
      generalize xs[k] = x at *
      have p0 : wr.cell? ⟨b, o + k, none⟩ = some (.int .i64 x) := by simpa [RInt] using y
      clear y
      go_wp2_with fail
      go_at_call 38
      refine (enum_any w0 h g t _ _ x wr HSk.out HNX.out HLK.out).mono ?_
      rintro e' w2 ⟨rfl, hs2, hx2⟩
      have HS2 : Hid (ES w0 h g t w2 ((xs.take (k + 1)).foldl (fun e _ => e) er) (l ++ (putI (xs.length : Int) ++ (xs.take (k + 1)).flatMap putI))) := Lib.hid (by
        rw [HTK.out, List.foldl_append, List.flatMap_append, List.flatMap_singleton, ← List.append_assoc, ← List.append_assoc]
        rw [← List.append_assoc] at hs2
        exact hs2)
      have HX2 := Lib.hid hx2
      clear hs2 hx2
      go_wp2_with fail
      go_roundw
      case rel => exact ⟨k + 1, by omega, by go_num, HS2, Lib.hid (HXk.out.trans HX2.out)⟩
      case measure => simp [intOf]; omega
    · have hke : k = xs.length := by omega
      have ht : xs.take k = xs := by rw [hke, List.take_length]
      have hfin := HSk.out
      rw [ht, ← HW.out] at hfin
      have HFIN := Lib.hid hfin
      clear hke ht hfin
      go_wp2_with fail
      exact bodyPost_end (v := .tuple #[]) (by simp [results, Tryz.results83, go_sem] <;> rfl) rfl ⟨rfl, HFIN.out, HXk.out⟩
end Go.Proofs.YtbnljlpefpllcaaGreatDoor
namespace Go.Proofs.YtbnljlpefpllcaaGreatDoor
open Go Go.RowKit
theorem fold_same {α : Type} (er : Int) : ∀ xs : List α, xs.foldl (fun e _ => e) er = er
  | [] => rfl
  | _ :: r => fold_same er r
set_option maxRecDepth 100000 in
set_option maxHeartbeats 4000000 in
theorem etypes_3 (w0 : World) (h g t : Nat) (er : Int) (l : List UInt8) (reg elem : Int) (flds : List Int) (Af : Option Addr) (cf : Nat) (X : World) (hf : Slc 1 RInt w0 Af cf flds) (hs : ES w0 h g t X er l) (hreg : 0 ≤ reg ∧ reg ≤ 65535) (hel : 0 ≤ elem ∧ elem ≤ 65535) (hl : (l ++ typeW ⟨3, false, reg, elem, flds⟩).length ≤ 1000000000) :
    Calls Tryz.prog 35 #[.pointer (some ⟨h, 0, none⟩), .agg #[.int .i64 3, .bool false, .int .i64 reg, .int .i64 elem, .slice Af flds.length cf]] X fun e' w' => e' = .returned (.tuple #[]) ∧ ES w0 h g t w' er (l ++ typeW ⟨3, false, reg, elem, flds⟩) ∧ WrE g h X w' := by
  have htw : typeW ⟨3, false, reg, elem, flds⟩ = 3 :: (putI reg ++ putI elem) := by simp [typeW]
  rw [htw] at hl ⊢
  clear htw
  obtain ⟨W, hW⟩ : ∃ W, X.alloc (.cells #[.int .i64 3, .bool false, .int .i64 reg, .int .i64 elem, .slice Af flds.length cf] 83) = W := ⟨_, rfl⟩
  have hb : Below X.heap.size X W := by rw [← hW]; exact (Below.refl _ _).alloc (Nat.le_refl _) _
  have hk : W.heap[X.heap.size]? = some (.cells #[.int .i64 3, .bool false, .int .i64 reg, .int .i64 elem, .slice Af flds.length cf] 83 (0, 0)) := by rw [← hW]; exact heap_alloc_new X _
  have hsW := hs.keep hb
  have hhl : h < X.heap.size := (Array.getElem?_eq_some_iff.1 hs.at_).1
  have hgl := hs.wr.lt
  obtain ⟨z0, z1, z2, z3, z4, _⟩ := blk5 hk
  obtain ⟨t0, t1, t2, _⟩ := trip hsW.at_
  have HK := Lib.hid hk
  have HSW := Lib.hid hsW
  have HB := Lib.hid hb
  have HL := Lib.hid hl
  have HF := Lib.hid hf
  have hle := hf.le
  have hbg := hf.big
  clear hs hl hk hsW hb hf
  have hl1 : l.length ≤ 1000000000 := by have := HL.out; rw [List.length_append] at this; omega
  have HBY : Hid (Calls Tryz.prog 82 #[.pointer (some ⟨g, 0, none⟩), .int .u8 3] W fun e' w' => e' = .returned (.tuple #[]) ∧ WRd w' g (l ++ [3]) ∧ Wr g W w') := Lib.hid (pwbyte g l 3 W HSW.out.wr hl1 (by omega))
  go_enter Tryz.func35, Tryz.ntmps35
  go_wp2_with fail
  go_at_call 82
  refine HBY.out.mono ?_
  rintro e' w1 ⟨rfl, hw1, hx1⟩
  have hs1 := HSW.out.wrs hx1 hw1
  have hk1 := hx1.block _ _ HK.out (by omega) (.inr rfl)
  obtain ⟨y0, y1, y2, y3, y4, _⟩ := blk5 hk1
  obtain ⟨u0, u1, u2, _⟩ := trip hs1.at_
  have HS1 := Lib.hid hs1
  have HX1 := Lib.hid (WrE.of_wr (h := h) hx1)
  have HK1 := Lib.hid hk1
  clear hw1 hx1 hs1 hk1 HBY
  go_wp2_with fail
  go_at_call 38
  refine (enum_any w0 h g t er _ reg w1 HS1.out ⟨hreg.1, by omega⟩ (by have h := HL.out; simp only [List.length_append, List.length_cons, List.length_nil] at h ⊢; omega)).mono ?_
  rintro e' w2 ⟨rfl, hs2, hx2⟩
  have hk2 := hx2.block _ _ HK1.out (by omega) (by omega) (.inr rfl)
  obtain ⟨x0, x1, x2, x3, x4, _⟩ := blk5 hk2
  have HS2 := Lib.hid hs2
  have HX2 := Lib.hid hx2
  clear hs2 hx2 hk2
  go_wp2_with fail
  go_at_call 38
  refine (enum_any w0 h g t er _ elem w2 HS2.out ⟨hel.1, by omega⟩ (by have h := HL.out; simp only [List.length_append, List.length_cons, List.length_nil] at h ⊢; omega)).mono ?_
  rintro e' w3 ⟨rfl, hs3, hx3⟩
  have HS3 : Hid (ES w0 h g t w3 er (l ++ 3 :: (putI reg ++ putI elem))) := Lib.hid (by simpa [List.append_assoc] using hs3)
  have HX3 := Lib.hid hx3
  clear hs3 hx3
  go_wp2_with fail
  exact bodyPost_end (v := .tuple #[]) (by simp [results, Tryz.results35, go_sem] <;> rfl) rfl ⟨rfl, HS3.out, (((WrE.of_below HB.out).trans HX1.out).trans HX2.out).trans HX3.out⟩
set_option maxRecDepth 100000 in
set_option maxHeartbeats 4000000 in
theorem etypes_5 (w0 : World) (h g t : Nat) (er : Int) (l : List UInt8) (reg elem : Int) (flds : List Int) (Af : Option Addr) (cf : Nat) (X : World) (hf : Slc 1 RInt w0 Af cf flds) (hs : ES w0 h g t X er l) (hreg : 0 ≤ reg ∧ reg ≤ 65535) (hel : 0 ≤ elem ∧ elem ≤ 65535) (hl : (l ++ typeW ⟨3, true, reg, elem, flds⟩).length ≤ 1000000000) :
    Calls Tryz.prog 35 #[.pointer (some ⟨h, 0, none⟩), .agg #[.int .i64 3, .bool true, .int .i64 reg, .int .i64 elem, .slice Af flds.length cf]] X fun e' w' => e' = .returned (.tuple #[]) ∧ ES w0 h g t w' er (l ++ typeW ⟨3, true, reg, elem, flds⟩) ∧ WrE g h X w' := by
  have htw : typeW ⟨3, true, reg, elem, flds⟩ = 5 :: (putI reg ++ putI elem) := by simp [typeW]
  rw [htw] at hl ⊢
  clear htw
  obtain ⟨W, hW⟩ : ∃ W, X.alloc (.cells #[.int .i64 3, .bool true, .int .i64 reg, .int .i64 elem, .slice Af flds.length cf] 83) = W := ⟨_, rfl⟩
  have hb : Below X.heap.size X W := by rw [← hW]; exact (Below.refl _ _).alloc (Nat.le_refl _) _
  have hk : W.heap[X.heap.size]? = some (.cells #[.int .i64 3, .bool true, .int .i64 reg, .int .i64 elem, .slice Af flds.length cf] 83 (0, 0)) := by rw [← hW]; exact heap_alloc_new X _
  have hsW := hs.keep hb
  have hhl : h < X.heap.size := (Array.getElem?_eq_some_iff.1 hs.at_).1
  have hgl := hs.wr.lt
  obtain ⟨z0, z1, z2, z3, z4, _⟩ := blk5 hk
  obtain ⟨t0, t1, t2, _⟩ := trip hsW.at_
  have HK := Lib.hid hk
  have HSW := Lib.hid hsW
  have HB := Lib.hid hb
  have HL := Lib.hid hl
  have HF := Lib.hid hf
  have hle := hf.le
  have hbg := hf.big
  clear hs hl hk hsW hb hf
  have hl1 : l.length ≤ 1000000000 := by have := HL.out; rw [List.length_append] at this; omega
  have HBY : Hid (Calls Tryz.prog 82 #[.pointer (some ⟨g, 0, none⟩), .int .u8 5] W fun e' w' => e' = .returned (.tuple #[]) ∧ WRd w' g (l ++ [5]) ∧ Wr g W w') := Lib.hid (pwbyte g l 5 W HSW.out.wr hl1 (by omega))
  go_enter Tryz.func35, Tryz.ntmps35
  go_wp2_with fail
  go_at_call 82
  refine HBY.out.mono ?_
  rintro e' w1 ⟨rfl, hw1, hx1⟩
  have hs1 := HSW.out.wrs hx1 hw1
  have hk1 := hx1.block _ _ HK.out (by omega) (.inr rfl)
  obtain ⟨y0, y1, y2, y3, y4, _⟩ := blk5 hk1
  obtain ⟨u0, u1, u2, _⟩ := trip hs1.at_
  have HS1 := Lib.hid hs1
  have HX1 := Lib.hid (WrE.of_wr (h := h) hx1)
  have HK1 := Lib.hid hk1
  clear hw1 hx1 hs1 hk1 HBY
  go_wp2_with fail
  go_at_call 38
  refine (enum_any w0 h g t er _ reg w1 HS1.out ⟨hreg.1, by omega⟩ (by have h := HL.out; simp only [List.length_append, List.length_cons, List.length_nil] at h ⊢; omega)).mono ?_
  rintro e' w2 ⟨rfl, hs2, hx2⟩
  have hk2 := hx2.block _ _ HK1.out (by omega) (by omega) (.inr rfl)
  obtain ⟨x0, x1, x2, x3, x4, _⟩ := blk5 hk2
  have HS2 := Lib.hid hs2
  have HX2 := Lib.hid hx2
  clear hs2 hx2 hk2
  go_wp2_with fail
  go_at_call 38
  refine (enum_any w0 h g t er _ elem w2 HS2.out ⟨hel.1, by omega⟩ (by have h := HL.out; simp only [List.length_append, List.length_cons, List.length_nil] at h ⊢; omega)).mono ?_
  rintro e' w3 ⟨rfl, hs3, hx3⟩
  have HS3 : Hid (ES w0 h g t w3 er (l ++ 5 :: (putI reg ++ putI elem))) := Lib.hid (by simpa [List.append_assoc] using hs3)
  have HX3 := Lib.hid hx3
  clear hs3 hx3
  go_wp2_with fail
  exact bodyPost_end (v := .tuple #[]) (by simp [results, Tryz.results35, go_sem] <;> rfl) rfl ⟨rfl, HS3.out, (((WrE.of_below HB.out).trans HX1.out).trans HX2.out).trans HX3.out⟩
set_option maxRecDepth 100000 in
set_option maxHeartbeats 4000000 in
theorem etypes_4 (w0 : World) (h g t : Nat) (er : Int) (l : List UInt8) (reg elem : Int) (flds : List Int) (Af : Option Addr) (cf : Nat) (X : World) (hf : Slc 1 RInt w0 Af cf flds) (hs : ES w0 h g t X er l) (hfl : ∀ i ∈ flds, 0 ≤ i ∧ i ≤ 65535) (hl : (l ++ typeW ⟨4, false, reg, elem, flds⟩).length ≤ 1000000000) :
    Calls Tryz.prog 35 #[.pointer (some ⟨h, 0, none⟩), .agg #[.int .i64 4, .bool false, .int .i64 reg, .int .i64 elem, .slice Af flds.length cf]] X fun e' w' => e' = .returned (.tuple #[]) ∧ ES w0 h g t w' er (l ++ typeW ⟨4, false, reg, elem, flds⟩) ∧ WrE g h X w' := by
  have htw : typeW ⟨4, false, reg, elem, flds⟩ = 4 :: listW putI flds := by simp [typeW]
  rw [htw] at hl ⊢
  clear htw
  obtain ⟨W, hW⟩ : ∃ W, X.alloc (.cells #[.int .i64 4, .bool false, .int .i64 reg, .int .i64 elem, .slice Af flds.length cf] 83) = W := ⟨_, rfl⟩
  have hb : Below X.heap.size X W := by rw [← hW]; exact (Below.refl _ _).alloc (Nat.le_refl _) _
  have hk : W.heap[X.heap.size]? = some (.cells #[.int .i64 4, .bool false, .int .i64 reg, .int .i64 elem, .slice Af flds.length cf] 83 (0, 0)) := by rw [← hW]; exact heap_alloc_new X _
  have hsW := hs.keep hb
  have hhl : h < X.heap.size := (Array.getElem?_eq_some_iff.1 hs.at_).1
  have hgl := hs.wr.lt
  obtain ⟨z0, z1, z2, z3, z4, _⟩ := blk5 hk
  obtain ⟨t0, t1, t2, _⟩ := trip hsW.at_
  have HK := Lib.hid hk
  have HSW := Lib.hid hsW
  have HB := Lib.hid hb
  have HL := Lib.hid hl
  have HF := Lib.hid hf
  have hle := hf.le
  have hbg := hf.big
  clear hs hl hk hsW hb hf
  have hl1 : l.length ≤ 1000000000 := by have := HL.out; rw [List.length_append] at this; omega
  have HBY : Hid (Calls Tryz.prog 82 #[.pointer (some ⟨g, 0, none⟩), .int .u8 4] W fun e' w' => e' = .returned (.tuple #[]) ∧ WRd w' g (l ++ [4]) ∧ Wr g W w') := Lib.hid (pwbyte g l 4 W HSW.out.wr hl1 (by omega))
  go_enter Tryz.func35, Tryz.ntmps35
  go_wp2_with fail
  go_at_call 82
  refine HBY.out.mono ?_
  rintro e' w1 ⟨rfl, hw1, hx1⟩
  have hs1 := HSW.out.wrs hx1 hw1
  have hk1 := hx1.block _ _ HK.out (by omega) (.inr rfl)
  obtain ⟨y0, y1, y2, y3, y4, _⟩ := blk5 hk1
  obtain ⟨u0, u1, u2, _⟩ := trip hs1.at_
  have HS1 := Lib.hid hs1
  have HX1 := Lib.hid (WrE.of_wr (h := h) hx1)
  have HK1 := Lib.hid hk1
  clear hw1 hx1 hs1 hk1 HBY
  go_wp2_with fail
  go_at_call 83
  refine (elist_int w0 h g t er _ flds Af cf w1 HF.out HS1.out (fun x hx => by have := hfl x hx; omega) (by have h := HL.out; simp only [List.length_append, List.length_cons, List.length_nil] at h ⊢; omega)).mono ?_
  rintro e' w2 ⟨rfl, hs2, hx2⟩
  have HS2 : Hid (ES w0 h g t w2 er (l ++ 4 :: listW putI flds)) := Lib.hid (by
    rw [fold_same, List.append_assoc] at hs2
    exact hs2)
  have HX2 := Lib.hid hx2
  clear hs2 hx2
  go_wp2_with fail
  exact bodyPost_end (v := .tuple #[]) (by simp [results, Tryz.results35, go_sem] <;> rfl) rfl ⟨rfl, HS2.out, ((WrE.of_below HB.out).trans HX1.out).trans HX2.out⟩
set_option maxRecDepth 100000 in
set_option maxHeartbeats 4000000 in
theorem etypes_p0 (w0 : World) (h g t : Nat) (er : Int) (l : List UInt8) (reg elem : Int) (flds : List Int) (Af : Option Addr) (cf : Nat) (X : World) (hf : Slc 1 RInt w0 Af cf flds) (hs : ES w0 h g t X er l)  (hl : (l ++ typeW ⟨0, false, reg, elem, flds⟩).length ≤ 1000000000) :
    Calls Tryz.prog 35 #[.pointer (some ⟨h, 0, none⟩), .agg #[.int .i64 0, .bool false, .int .i64 reg, .int .i64 elem, .slice Af flds.length cf]] X fun e' w' => e' = .returned (.tuple #[]) ∧ ES w0 h g t w' er (l ++ typeW ⟨0, false, reg, elem, flds⟩) ∧ WrE g h X w' := by
  have htw : typeW ⟨0, false, reg, elem, flds⟩ = [0] := by simp [typeW]
  rw [htw] at hl ⊢
  clear htw
  obtain ⟨W, hW⟩ : ∃ W, X.alloc (.cells #[.int .i64 0, .bool false, .int .i64 reg, .int .i64 elem, .slice Af flds.length cf] 83) = W := ⟨_, rfl⟩
  have hb : Below X.heap.size X W := by rw [← hW]; exact (Below.refl _ _).alloc (Nat.le_refl _) _
  have hk : W.heap[X.heap.size]? = some (.cells #[.int .i64 0, .bool false, .int .i64 reg, .int .i64 elem, .slice Af flds.length cf] 83 (0, 0)) := by rw [← hW]; exact heap_alloc_new X _
  have hsW := hs.keep hb
  have hhl : h < X.heap.size := (Array.getElem?_eq_some_iff.1 hs.at_).1
  have hgl := hs.wr.lt
  obtain ⟨z0, z1, z2, z3, z4, _⟩ := blk5 hk
  obtain ⟨t0, t1, t2, _⟩ := trip hsW.at_
  have HK := Lib.hid hk
  have HSW := Lib.hid hsW
  have HB := Lib.hid hb
  have HL := Lib.hid hl
  have HF := Lib.hid hf
  have hle := hf.le
  have hbg := hf.big
  clear hs hl hk hsW hb hf
  have hl1 : l.length ≤ 1000000000 := by have := HL.out; rw [List.length_append] at this; omega
  have HBY : Hid (Calls Tryz.prog 82 #[.pointer (some ⟨g, 0, none⟩), .int .u8 0] W fun e' w' => e' = .returned (.tuple #[]) ∧ WRd w' g (l ++ [0]) ∧ Wr g W w') := Lib.hid (pwbyte g l 0 W HSW.out.wr hl1 (by omega))
  go_enter Tryz.func35, Tryz.ntmps35
  go_wp2_with fail
  go_at_call 82
  refine HBY.out.mono ?_
  rintro e' w1 ⟨rfl, hw1, hx1⟩
  have hs1 := HSW.out.wrs hx1 hw1
  have hk1 := hx1.block _ _ HK.out (by omega) (.inr rfl)
  obtain ⟨y0, y1, y2, y3, y4, _⟩ := blk5 hk1
  obtain ⟨u0, u1, u2, _⟩ := trip hs1.at_
  have HS1 := Lib.hid hs1
  have HX1 := Lib.hid (WrE.of_wr (h := h) hx1)
  have HK1 := Lib.hid hk1
  clear hw1 hx1 hs1 hk1 HBY
  go_wp2_with fail
  exact bodyPost_end (v := .tuple #[]) (by simp [results, Tryz.results35, go_sem] <;> rfl) rfl ⟨rfl, HS1.out, (WrE.of_below HB.out).trans HX1.out⟩
set_option maxRecDepth 100000 in
set_option maxHeartbeats 4000000 in
theorem etypes_p1 (w0 : World) (h g t : Nat) (er : Int) (l : List UInt8) (reg elem : Int) (flds : List Int) (Af : Option Addr) (cf : Nat) (X : World) (hf : Slc 1 RInt w0 Af cf flds) (hs : ES w0 h g t X er l)  (hl : (l ++ typeW ⟨1, false, reg, elem, flds⟩).length ≤ 1000000000) :
    Calls Tryz.prog 35 #[.pointer (some ⟨h, 0, none⟩), .agg #[.int .i64 1, .bool false, .int .i64 reg, .int .i64 elem, .slice Af flds.length cf]] X fun e' w' => e' = .returned (.tuple #[]) ∧ ES w0 h g t w' er (l ++ typeW ⟨1, false, reg, elem, flds⟩) ∧ WrE g h X w' := by
  have htw : typeW ⟨1, false, reg, elem, flds⟩ = [1] := by simp [typeW]
  rw [htw] at hl ⊢
  clear htw
  obtain ⟨W, hW⟩ : ∃ W, X.alloc (.cells #[.int .i64 1, .bool false, .int .i64 reg, .int .i64 elem, .slice Af flds.length cf] 83) = W := ⟨_, rfl⟩
  have hb : Below X.heap.size X W := by rw [← hW]; exact (Below.refl _ _).alloc (Nat.le_refl _) _
  have hk : W.heap[X.heap.size]? = some (.cells #[.int .i64 1, .bool false, .int .i64 reg, .int .i64 elem, .slice Af flds.length cf] 83 (0, 0)) := by rw [← hW]; exact heap_alloc_new X _
  have hsW := hs.keep hb
  have hhl : h < X.heap.size := (Array.getElem?_eq_some_iff.1 hs.at_).1
  have hgl := hs.wr.lt
  obtain ⟨z0, z1, z2, z3, z4, _⟩ := blk5 hk
  obtain ⟨t0, t1, t2, _⟩ := trip hsW.at_
  have HK := Lib.hid hk
  have HSW := Lib.hid hsW
  have HB := Lib.hid hb
  have HL := Lib.hid hl
  have HF := Lib.hid hf
  have hle := hf.le
  have hbg := hf.big
  clear hs hl hk hsW hb hf
  have hl1 : l.length ≤ 1000000000 := by have := HL.out; rw [List.length_append] at this; omega
  have HBY : Hid (Calls Tryz.prog 82 #[.pointer (some ⟨g, 0, none⟩), .int .u8 1] W fun e' w' => e' = .returned (.tuple #[]) ∧ WRd w' g (l ++ [1]) ∧ Wr g W w') := Lib.hid (pwbyte g l 1 W HSW.out.wr hl1 (by omega))
  go_enter Tryz.func35, Tryz.ntmps35
  go_wp2_with fail
  go_at_call 82
  refine HBY.out.mono ?_
  rintro e' w1 ⟨rfl, hw1, hx1⟩
  have hs1 := HSW.out.wrs hx1 hw1
  have hk1 := hx1.block _ _ HK.out (by omega) (.inr rfl)
  obtain ⟨y0, y1, y2, y3, y4, _⟩ := blk5 hk1
  obtain ⟨u0, u1, u2, _⟩ := trip hs1.at_
  have HS1 := Lib.hid hs1
  have HX1 := Lib.hid (WrE.of_wr (h := h) hx1)
  have HK1 := Lib.hid hk1
  clear hw1 hx1 hs1 hk1 HBY
  go_wp2_with fail
  exact bodyPost_end (v := .tuple #[]) (by simp [results, Tryz.results35, go_sem] <;> rfl) rfl ⟨rfl, HS1.out, (WrE.of_below HB.out).trans HX1.out⟩
set_option maxRecDepth 100000 in
set_option maxHeartbeats 4000000 in
theorem etypes_p2 (w0 : World) (h g t : Nat) (er : Int) (l : List UInt8) (reg elem : Int) (flds : List Int) (Af : Option Addr) (cf : Nat) (X : World) (hf : Slc 1 RInt w0 Af cf flds) (hs : ES w0 h g t X er l)  (hl : (l ++ typeW ⟨2, false, reg, elem, flds⟩).length ≤ 1000000000) :
    Calls Tryz.prog 35 #[.pointer (some ⟨h, 0, none⟩), .agg #[.int .i64 2, .bool false, .int .i64 reg, .int .i64 elem, .slice Af flds.length cf]] X fun e' w' => e' = .returned (.tuple #[]) ∧ ES w0 h g t w' er (l ++ typeW ⟨2, false, reg, elem, flds⟩) ∧ WrE g h X w' := by
  have htw : typeW ⟨2, false, reg, elem, flds⟩ = [2] := by simp [typeW]
  rw [htw] at hl ⊢
  clear htw
  obtain ⟨W, hW⟩ : ∃ W, X.alloc (.cells #[.int .i64 2, .bool false, .int .i64 reg, .int .i64 elem, .slice Af flds.length cf] 83) = W := ⟨_, rfl⟩
  have hb : Below X.heap.size X W := by rw [← hW]; exact (Below.refl _ _).alloc (Nat.le_refl _) _
  have hk : W.heap[X.heap.size]? = some (.cells #[.int .i64 2, .bool false, .int .i64 reg, .int .i64 elem, .slice Af flds.length cf] 83 (0, 0)) := by rw [← hW]; exact heap_alloc_new X _
  have hsW := hs.keep hb
  have hhl : h < X.heap.size := (Array.getElem?_eq_some_iff.1 hs.at_).1
  have hgl := hs.wr.lt
  obtain ⟨z0, z1, z2, z3, z4, _⟩ := blk5 hk
  obtain ⟨t0, t1, t2, _⟩ := trip hsW.at_
  have HK := Lib.hid hk
  have HSW := Lib.hid hsW
  have HB := Lib.hid hb
  have HL := Lib.hid hl
  have HF := Lib.hid hf
  have hle := hf.le
  have hbg := hf.big
  clear hs hl hk hsW hb hf
  have hl1 : l.length ≤ 1000000000 := by have := HL.out; rw [List.length_append] at this; omega
  have HBY : Hid (Calls Tryz.prog 82 #[.pointer (some ⟨g, 0, none⟩), .int .u8 2] W fun e' w' => e' = .returned (.tuple #[]) ∧ WRd w' g (l ++ [2]) ∧ Wr g W w') := Lib.hid (pwbyte g l 2 W HSW.out.wr hl1 (by omega))
  go_enter Tryz.func35, Tryz.ntmps35
  go_wp2_with fail
  go_at_call 82
  refine HBY.out.mono ?_
  rintro e' w1 ⟨rfl, hw1, hx1⟩
  have hs1 := HSW.out.wrs hx1 hw1
  have hk1 := hx1.block _ _ HK.out (by omega) (.inr rfl)
  obtain ⟨y0, y1, y2, y3, y4, _⟩ := blk5 hk1
  obtain ⟨u0, u1, u2, _⟩ := trip hs1.at_
  have HS1 := Lib.hid hs1
  have HX1 := Lib.hid (WrE.of_wr (h := h) hx1)
  have HK1 := Lib.hid hk1
  clear hw1 hx1 hs1 hk1 HBY
  go_wp2_with fail
  exact bodyPost_end (v := .tuple #[]) (by simp [results, Tryz.results35, go_sem] <;> rfl) rfl ⟨rfl, HS1.out, (WrE.of_below HB.out).trans HX1.out⟩
theorem etypes_any (w0 : World) (h g t : Nat) (er : Int) (l : List UInt8) (x : Ty) (Af : Option Addr) (cf : Nat) (X : World) (hf : Slc 1 RInt w0 Af cf x.flds) (hs : ES w0 h g t X er l) (hn : TyGood x) (hl : (l ++ typeW x).length ≤ 1000000000) :
    Calls Tryz.prog 35 #[.pointer (some ⟨h, 0, none⟩), .agg #[.int .i64 x.kind, .bool x.mu, .int .i64 x.reg, .int .i64 x.elem, .slice Af x.flds.length cf]] X fun e' w' => e' = .returned (.tuple #[]) ∧ ES w0 h g t w' er (l ++ typeW x) ∧ WrE g h X w' := by
  obtain ⟨kind, mu, reg, elem, flds⟩ := x
  rcases hn with ⟨h1, h2, h3, h4⟩ | ⟨h1, h2, h3, h4, h5, h6⟩ | ⟨h1, h2, h3, h4, h5, h6⟩
  · simp only at h1 h2 h3
    subst h1
    cases mu
    · exact etypes_3 w0 h g t er l reg elem flds Af cf X hf hs h2 h3 hl
    · exact etypes_5 w0 h g t er l reg elem flds Af cf X hf hs h2 h3 hl
  · simp only at h1 h2 h6
    subst h1 h2
    exact etypes_4 w0 h g t er l reg elem flds Af cf X hf hs h6 hl
  · simp only at h1 h2 h3
    subst h3
    rcases (show kind = 0 ∨ kind = 1 ∨ kind = 2 by omega) with rfl | rfl | rfl
    · exact etypes_p0 w0 h g t er l reg elem flds Af cf X hf hs hl
    · exact etypes_p1 w0 h g t er l reg elem flds Af cf X hf hs hl
    · exact etypes_p2 w0 h g t er l reg elem flds Af cf X hf hs hl
end Go.Proofs.YtbnljlpefpllcaaGreatDoor
namespace Go.Proofs.YtbnljlpefpllcaaGreatDoor
open Go Go.RowKit
set_option maxRecDepth 100000 in
set_option maxHeartbeats 4000000 in
theorem elist_typ (w0 : World) (h g t : Nat) (er : Int) (l : List UInt8) (xs : List Ty) (A : Option Addr) (d : Nat) (X : World) (hxs : Slc 5 RTy w0 A d xs) (hs : ES w0 h g t X er l) (hn : ∀ x ∈ xs, TyGood x) (hl : (l ++ listW typeW xs).length ≤ 1000000000) :
    Calls Tryz.prog 34 #[.pointer (some ⟨h, 0, none⟩), .slice A xs.length d, .func (.func 35) #[.pointer (some ⟨h, 0, none⟩)] #[]] X fun e' w' => e' = .returned (.tuple #[]) ∧ ES w0 h g t w' (xs.foldl (fun e _ => e) er) (l ++ listW typeW xs) ∧ WrE g h X w' := by
  have hle := hxs.le
  have hbg := hxs.big
  have HXS := Lib.hid hxs
  have HN := Lib.hid hn
  have HL := Lib.hid hl
  have HS := Lib.hid hs
  have hhl : h < X.heap.size := (Array.getElem?_eq_some_iff.1 hs.at_).1
  have hgh := hs.hg


  have HW : Hid (listW typeW xs = putI (xs.length : Int) ++ xs.flatMap typeW) := Lib.hid rfl
  have HE := Lib.hid (enum_any w0 h g t er l (xs.length : Int) X hs (by omega) (by have h := hl; rw [HW.out] at h; simp only [List.length_append] at h ⊢; omega))
  clear hxs hs hn hl
  go_enter Tryz.func34, Tryz.ntmps34
  go_wp2_with fail
  go_at_call 38
  refine HE.out.mono ?_
  rintro e' w1 ⟨rfl, hs1, hx1⟩
  have HS1 := Lib.hid hs1
  have HX1 := Lib.hid hx1
  clear hs1 hx1 HE
  go_wp2_with fail
  go_loopw [14] (fun i wr => ∃ k : Nat, k ≤ xs.length ∧ i = .int .i64 k ∧ Hid (ES w0 h g t wr ((xs.take k).foldl (fun e _ => e) er) (l ++ (putI (xs.length : Int) ++ (xs.take k).flatMap typeW))) ∧ Hid (WrE g h X wr)) (fun i _ => xs.length - (intOf i).toNat)
  case atStart => exact ⟨0, by omega, rfl, Lib.hid (by simpa using HS1.out), HX1⟩
  case round =>
    obtain ⟨k, hk, rfl, HSk, HXk⟩ := hrel
    by_cases hlt : k < xs.length
    · obtain ⟨b, o, rfl, hb, y0⟩ := HXS.out.sl.at_ hlt
      have YK := Lib.hid (RTy.keeps w0 wr w0.heap.size w0.heap.size b _ _ (Nat.le_refl _) hb HSk.out.bel y0)
      have HTK : Hid (xs.take (k + 1) = xs.take k ++ [xs[k]]) := Lib.hid (List.take_succ_eq_append_getElem hlt)
      have HNX := Lib.hid (HN.out xs[k] (List.getElem_mem hlt))
      have HLK : Hid ((l ++ (putI (xs.length : Int) ++ (xs.take k).flatMap typeW) ++ typeW xs[k]).length ≤ 1000000000) := Lib.hid (by
        have h1 := HL.out
        rw [HW.out, ← List.take_append_drop (k + 1) xs] at h1
        rw [HTK.out] at h1
        simp only [List.take_append_drop, List.flatMap_append, List.flatMap_cons, List.flatMap_nil, List.append_nil, List.length_append, List.length_take, List.length_drop, List.length_cons, List.length_nil] at h1 ⊢
        have e : min k xs.length + (0 + 1) + (xs.length - (k + 1)) = xs.length := by omega
        first
        | omega
        | (rw [e] at h1; omega))
      generalize xs[k] = x at *
      obtain ⟨_, _, _, _, Af, cf, q4, q5, q6, q7⟩ := y0
      have HFS : Hid (Slc 1 RInt w0 Af cf x.flds) := Lib.hid ⟨q7, q5, q6⟩
      obtain ⟨p0, p1, p2, p3, Af2, cf2, p4, _, _, _⟩ := YK.out
      have he : (Value.slice Af2 x.flds.length cf2) = .slice Af x.flds.length cf := by
        have h1 := cell_keep (HSk.out.bel) q4
        rw [p4] at h1
        injection h1
      rw [he] at p4
      clear q4 q5 q6 q7 he YK
      obtain ⟨W3, hW3⟩ : ∃ W3, wr.alloc (.cells #[.int .i64 x.kind, .bool x.mu, .int .i64 x.reg, .int .i64 x.elem, .slice Af x.flds.length cf] 83) = W3 := ⟨_, rfl⟩
      have hbA : Below wr.heap.size wr W3 := by rw [← hW3]; exact (Below.refl _ _).alloc (Nat.le_refl _) _
      have hkA : W3.heap[wr.heap.size]? = some (.cells #[.int .i64 x.kind, .bool x.mu, .int .i64 x.reg, .int .i64 x.elem, .slice Af x.flds.length cf] 83 (0, 0)) := by rw [← hW3]; exact heap_alloc_new wr _
      obtain ⟨z0, z1, z2, z3, z4, _⟩ := blk5 hkA
      have HBA := Lib.hid hbA
      have HSA := Lib.hid (HSk.out.keep hbA)
      clear hbA hkA
      go_wp2_with fail
      go_at_call 35
      refine (etypes_any w0 h g t _ _ x Af cf W3 HFS.out HSA.out HNX.out HLK.out).mono ?_
      rintro e' w2 ⟨rfl, hs2, hx2⟩
      have HS2 : Hid (ES w0 h g t w2 ((xs.take (k + 1)).foldl (fun e _ => e) er) (l ++ (putI (xs.length : Int) ++ (xs.take (k + 1)).flatMap typeW))) := Lib.hid (by
        rw [HTK.out, List.foldl_append, List.flatMap_append, List.flatMap_singleton, ← List.append_assoc, ← List.append_assoc]
        rw [← List.append_assoc] at hs2
        exact hs2)
      have HX2 := Lib.hid hx2
      clear hs2 hx2
      go_wp2_with fail
      go_roundw
      case rel => exact ⟨k + 1, by omega, by go_num, HS2, Lib.hid ((HXk.out.trans (WrE.of_below HBA.out)).trans HX2.out)⟩
      case measure => simp [intOf]; omega
    · have hke : k = xs.length := by omega
      have ht : xs.take k = xs := by rw [hke, List.take_length]
      have hfin := HSk.out
      rw [ht, ← HW.out] at hfin
      have HFIN := Lib.hid hfin
      clear hke ht hfin
      go_wp2_with fail
      exact bodyPost_end (v := .tuple #[]) (by simp [results, Tryz.results34, go_sem] <;> rfl) rfl ⟨rfl, HFIN.out, HXk.out⟩
end Go.Proofs.YtbnljlpefpllcaaGreatDoor
