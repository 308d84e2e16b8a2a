/-
  Parts of the proof: ELS ELP ELL N3.
-/
import Derived.Test.YtbnljlpefpllcaaGreatDoorMD10
namespace Go.Proofs.YtbnljlpefpllcaaGreatDoor
open Go Go.RowKit
set_option maxRecDepth 100000 in
set_option maxHeartbeats 4000000 in
theorem elist_str (w0 : World) (h g t : Nat) (T : Option Addr) (c : Nat) (tbl : List ByteArray) (er : Int) (l : List UInt8) (xs : List ByteArray) (A : Option Addr) (d : Nat) (X : World) (H : TabAt w0 t T c tbl) (hsort : tbl.Pairwise (fun a b => bl a < bl b)) (htl : tbl.length ≤ 1000000) (hxs : Slc 1 RN w0 A d xs) (hs : ES w0 h g t X er l) (hn : ∀ x ∈ xs, True) (hl : (l ++ listW (nameX tbl) xs).length ≤ 1000000000) :
    Calls Tryz.prog 31 #[.pointer (some ⟨h, 0, none⟩), .slice A xs.length d, .func (.func 30) #[.pointer (some ⟨h, 0, none⟩)] #[]] X fun e' w' => e' = .returned (.tuple #[]) ∧ ES w0 h g t w' (xs.foldl (fun e s => errX tbl s e) er) (l ++ listW (nameX tbl) xs) ∧ WrE g h X w' := by
  have hle := hxs.le
  have hbg := hxs.big
  have HXS := Lib.hid hxs
  have HN := Lib.hid hn
  have HL := Lib.hid hl
  have HS := Lib.hid hs
  have hhl : h < X.heap.size := (Array.getElem?_eq_some_iff.1 hs.at_).1
  have hgh := hs.hg
  have HTB := Lib.hid H
  have HSO := Lib.hid hsort
  have HW : Hid (listW (nameX tbl) xs = putI (xs.length : Int) ++ xs.flatMap (nameX tbl)) := Lib.hid rfl
  have HE := Lib.hid (enum_any w0 h g t er l (xs.length : Int) X hs (by omega) (by have h := hl; rw [HW.out] at h; simp only [List.length_append] at h ⊢; omega))
  clear hxs hs hn hl H hsort
  go_enter Tryz.func31, Tryz.ntmps31
  go_wp2_with fail
  go_at_call 38
  refine HE.out.mono ?_
  rintro e' w1 ⟨rfl, hs1, hx1⟩
  have HS1 := Lib.hid hs1
  have HX1 := Lib.hid hx1
  clear hs1 hx1 HE
  go_wp2_with fail
  go_loopw [14] (fun i wr => ∃ k : Nat, k ≤ xs.length ∧ i = .int .i64 k ∧ Hid (ES w0 h g t wr ((xs.take k).foldl (fun e s => errX tbl s e) er) (l ++ (putI (xs.length : Int) ++ (xs.take k).flatMap (nameX tbl)))) ∧ Hid (WrE g h X wr)) (fun i _ => xs.length - (intOf i).toNat)
  case atStart => exact ⟨0, by omega, rfl, Lib.hid (by simpa using HS1.out), HX1⟩
  case round =>
    obtain ⟨k, hk, rfl, HSk, HXk⟩ := hrel
    by_cases hlt : k < xs.length
    · obtain ⟨b, o, rfl, hb, y⟩ := (HXS.out.keep RN.keeps HSk.out.bel).sl.at_ hlt
      have HTK : Hid (xs.take (k + 1) = xs.take k ++ [xs[k]]) := Lib.hid (List.take_succ_eq_append_getElem hlt)
      have HNX := Lib.hid (HN.out xs[k] (List.getElem_mem hlt))
      have HLK : Hid ((l ++ (putI (xs.length : Int) ++ (xs.take k).flatMap (nameX tbl)) ++ (nameX tbl) xs[k]).length ≤ 1000000000) := Lib.hid (by
        have h1 := HL.out
        rw [HW.out, ← List.take_append_drop (k + 1) xs] at h1
        rw [HTK.out] at h1
        simp only [List.take_append_drop, List.flatMap_append, List.flatMap_cons, List.flatMap_nil, List.append_nil, List.length_append, List.length_take, List.length_drop, List.length_cons, List.length_nil] at h1 ⊢
        have e : min k xs.length + (0 + 1) + (xs.length - (k + 1)) = xs.length := by omega
        first
        | omega
        | (rw [e] at h1; omega))
      generalize xs[k] = x at *
      have p0 : wr.cell? ⟨b, o + k, none⟩ = some (.string x) := by simpa [RN] using y
      clear y
      go_wp2_with fail
      go_at_call 30
      refine (ename_any w0 h g t T c tbl _ _ x wr HTB.out HSO.out htl HSk.out HLK.out).mono ?_
      rintro e' w2 ⟨rfl, hs2, hx2⟩
      have HS2 : Hid (ES w0 h g t w2 ((xs.take (k + 1)).foldl (fun e s => errX tbl s e) er) (l ++ (putI (xs.length : Int) ++ (xs.take (k + 1)).flatMap (nameX tbl)))) := Lib.hid (by
        rw [HTK.out, List.foldl_append, List.flatMap_append, List.flatMap_singleton, ← List.append_assoc, ← List.append_assoc]
        rw [← List.append_assoc] at hs2
        exact hs2)
      have HX2 := Lib.hid hx2
      clear hs2 hx2
      go_wp2_with fail
      go_roundw
      case rel => exact ⟨k + 1, by omega, by go_num, HS2, Lib.hid (HXk.out.trans HX2.out)⟩
      case measure => simp [intOf]; omega
    · have hke : k = xs.length := by omega
      have ht : xs.take k = xs := by rw [hke, List.take_length]
      have hfin := HSk.out
      rw [ht, ← HW.out] at hfin
      have HFIN := Lib.hid hfin
      clear hke ht hfin
      go_wp2_with fail
      exact bodyPost_end (v := .tuple #[]) (by simp [results, Tryz.results31, go_sem] <;> rfl) rfl ⟨rfl, HFIN.out, HXk.out⟩
end Go.Proofs.YtbnljlpefpllcaaGreatDoor
namespace Go.Proofs.YtbnljlpefpllcaaGreatDoor
open Go Go.RowKit
set_option maxRecDepth 100000 in
set_option maxHeartbeats 4000000 in
theorem elist_pair (w0 : World) (h g t : Nat) (er : Int) (l : List UInt8) (xs : List (Int × Int)) (A : Option Addr) (d : Nat) (X : World) (hxs : Slc 2 RPr w0 A d xs) (hs : ES w0 h g t X er l) (hn : ∀ x ∈ xs, (0 ≤ x.1 ∧ x.1 < 9223372036854775808) ∧ (0 ≤ x.2 ∧ x.2 < 9223372036854775808)) (hl : (l ++ listW pairW xs).length ≤ 1000000000) :
    Calls Tryz.prog 32 #[.pointer (some ⟨h, 0, none⟩), .slice A xs.length d, .func (.func 33) #[.pointer (some ⟨h, 0, none⟩)] #[]] X fun e' w' => e' = .returned (.tuple #[]) ∧ ES w0 h g t w' (xs.foldl (fun e _ => e) er) (l ++ listW pairW xs) ∧ WrE g h X w' := by
  have hle := hxs.le
  have hbg := hxs.big
  have HXS := Lib.hid hxs
  have HN := Lib.hid hn
  have HL := Lib.hid hl
  have HS := Lib.hid hs
  have hhl : h < X.heap.size := (Array.getElem?_eq_some_iff.1 hs.at_).1
  have hgh := hs.hg


  have HW : Hid (listW pairW xs = putI (xs.length : Int) ++ xs.flatMap pairW) := Lib.hid rfl
  have HE := Lib.hid (enum_any w0 h g t er l (xs.length : Int) X hs (by omega) (by have h := hl; rw [HW.out] at h; simp only [List.length_append] at h ⊢; omega))
  clear hxs hs hn hl
  go_enter Tryz.func32, Tryz.ntmps32
  go_wp2_with fail
  go_at_call 38
  refine HE.out.mono ?_
  rintro e' w1 ⟨rfl, hs1, hx1⟩
  have HS1 := Lib.hid hs1
  have HX1 := Lib.hid hx1
  clear hs1 hx1 HE
  go_wp2_with fail
  go_loopw [14] (fun i wr => ∃ k : Nat, k ≤ xs.length ∧ i = .int .i64 k ∧ Hid (ES w0 h g t wr ((xs.take k).foldl (fun e _ => e) er) (l ++ (putI (xs.length : Int) ++ (xs.take k).flatMap pairW))) ∧ Hid (WrE g h X wr)) (fun i _ => xs.length - (intOf i).toNat)
  case atStart => exact ⟨0, by omega, rfl, Lib.hid (by simpa using HS1.out), HX1⟩
  case round =>
    obtain ⟨k, hk, rfl, HSk, HXk⟩ := hrel
    by_cases hlt : k < xs.length
    · obtain ⟨b, o, rfl, hb, y⟩ := (HXS.out.keep RPr.keeps HSk.out.bel).sl.at_ hlt
      have HTK : Hid (xs.take (k + 1) = xs.take k ++ [xs[k]]) := Lib.hid (List.take_succ_eq_append_getElem hlt)
      have HNX := Lib.hid (HN.out xs[k] (List.getElem_mem hlt))
      have HLK : Hid ((l ++ (putI (xs.length : Int) ++ (xs.take k).flatMap pairW) ++ pairW xs[k]).length ≤ 1000000000) := Lib.hid (by
        have h1 := HL.out
        rw [HW.out, ← List.take_append_drop (k + 1) xs] at h1
        rw [HTK.out] at h1
        simp only [List.take_append_drop, List.flatMap_append, List.flatMap_cons, List.flatMap_nil, List.append_nil, List.length_append, List.length_take, List.length_drop, List.length_cons, List.length_nil] at h1 ⊢
        have e : min k xs.length + (0 + 1) + (xs.length - (k + 1)) = xs.length := by omega
        first
        | omega
        | (rw [e] at h1; omega))
      generalize xs[k] = x at *
      obtain ⟨p0, p1⟩ := (show wr.cell? ⟨b, o + k * 2, none⟩ = some (.int .i64 x.1) ∧ wr.cell? ⟨b, o + k * 2 + 1, none⟩ = some (.int .i64 x.2) from y)
      obtain ⟨W3, hW3⟩ : ∃ W3, wr.alloc (.cells #[.int .i64 x.1, .int .i64 x.2] 79) = W3 := ⟨_, rfl⟩
      have hbA : Below wr.heap.size wr W3 := by rw [← hW3]; exact (Below.refl _ _).alloc (Nat.le_refl _) _
      have hkA : W3.heap[wr.heap.size]? = some (.cells #[.int .i64 x.1, .int .i64 x.2] 79 (0, 0)) := by rw [← hW3]; exact heap_alloc_new wr _
      obtain ⟨z0, z1, _, _⟩ := blk2 hkA
      have HBA := Lib.hid hbA
      have HSA := Lib.hid (HSk.out.keep hbA)
      clear hbA hkA
      clear y
      go_wp2_with fail
      go_at_call 33
      refine (epair_any w0 h g t _ _ x W3 HSA.out HNX.out HLK.out).mono ?_
      rintro e' w2 ⟨rfl, hs2, hx2⟩
      have HS2 : Hid (ES w0 h g t w2 ((xs.take (k + 1)).foldl (fun e _ => e) er) (l ++ (putI (xs.length : Int) ++ (xs.take (k + 1)).flatMap pairW))) := Lib.hid (by
        rw [HTK.out, List.foldl_append, List.flatMap_append, List.flatMap_singleton, ← List.append_assoc, ← List.append_assoc]
        rw [← List.append_assoc] at hs2
        exact hs2)
      have HX2 := Lib.hid hx2
      clear hs2 hx2
      go_wp2_with fail
      go_roundw
      case rel => exact ⟨k + 1, by omega, by go_num, HS2, Lib.hid ((HXk.out.trans (WrE.of_below HBA.out)).trans HX2.out)⟩
      case measure => simp [intOf]; omega
    · have hke : k = xs.length := by omega
      have ht : xs.take k = xs := by rw [hke, List.take_length]
      have hfin := HSk.out
      rw [ht, ← HW.out] at hfin
      have HFIN := Lib.hid hfin
      clear hke ht hfin
      go_wp2_with fail
      exact bodyPost_end (v := .tuple #[]) (by simp [results, Tryz.results32, go_sem] <;> rfl) rfl ⟨rfl, HFIN.out, HXk.out⟩
end Go.Proofs.YtbnljlpefpllcaaGreatDoor
namespace Go.Proofs.YtbnljlpefpllcaaGreatDoor
open Go Go.RowKit
set_option maxRecDepth 100000 in
set_option maxHeartbeats 4000000 in
theorem elist_loc (w0 : World) (h g t : Nat) (T : Option Addr) (c : Nat) (tbl : List ByteArray) (er : Int) (l : List UInt8) (xs : List Lc) (A : Option Addr) (d : Nat) (X : World) (H : TabAt w0 t T c tbl) (hsort : tbl.Pairwise (fun a b => bl a < bl b)) (htl : tbl.length ≤ 1000000) (hxs : Slc 2 RLc w0 A d xs) (hs : ES w0 h g t X er l) (hn : ∀ x ∈ xs, 0 ≤ x.type ∧ x.type < 9223372036854775808) (hl : (l ++ listW (localX tbl) xs).length ≤ 1000000000) :
    Calls Tryz.prog 36 #[.pointer (some ⟨h, 0, none⟩), .slice A xs.length d, .func (.func 37) #[.pointer (some ⟨h, 0, none⟩)] #[]] X fun e' w' => e' = .returned (.tuple #[]) ∧ ES w0 h g t w' (xs.foldl (fun e (s : Lc) => errX tbl s.name e) er) (l ++ listW (localX tbl) xs) ∧ WrE g h X w' := by
  have hle := hxs.le
  have hbg := hxs.big
  have HXS := Lib.hid hxs
  have HN := Lib.hid hn
  have HL := Lib.hid hl
  have HS := Lib.hid hs
  have hhl : h < X.heap.size := (Array.getElem?_eq_some_iff.1 hs.at_).1
  have hgh := hs.hg
  have HTB := Lib.hid H
  have HSO := Lib.hid hsort
  have HW : Hid (listW (localX tbl) xs = putI (xs.length : Int) ++ xs.flatMap (localX tbl)) := Lib.hid rfl
  have HE := Lib.hid (enum_any w0 h g t er l (xs.length : Int) X hs (by omega) (by have h := hl; rw [HW.out] at h; simp only [List.length_append] at h ⊢; omega))
  clear hxs hs hn hl H hsort
  go_enter Tryz.func36, Tryz.ntmps36
  go_wp2_with fail
  go_at_call 38
  refine HE.out.mono ?_
  rintro e' w1 ⟨rfl, hs1, hx1⟩
  have HS1 := Lib.hid hs1
  have HX1 := Lib.hid hx1
  clear hs1 hx1 HE
  go_wp2_with fail
  go_loopw [14] (fun i wr => ∃ k : Nat, k ≤ xs.length ∧ i = .int .i64 k ∧ Hid (ES w0 h g t wr ((xs.take k).foldl (fun e (s : Lc) => errX tbl s.name e) er) (l ++ (putI (xs.length : Int) ++ (xs.take k).flatMap (localX tbl)))) ∧ Hid (WrE g h X wr)) (fun i _ => xs.length - (intOf i).toNat)
  case atStart => exact ⟨0, by omega, rfl, Lib.hid (by simpa using HS1.out), HX1⟩
  case round =>
    obtain ⟨k, hk, rfl, HSk, HXk⟩ := hrel
    by_cases hlt : k < xs.length
    · obtain ⟨b, o, rfl, hb, y⟩ := (HXS.out.keep RLc.keeps HSk.out.bel).sl.at_ hlt
      have HTK : Hid (xs.take (k + 1) = xs.take k ++ [xs[k]]) := Lib.hid (List.take_succ_eq_append_getElem hlt)
      have HNX := Lib.hid (HN.out xs[k] (List.getElem_mem hlt))
      have HLK : Hid ((l ++ (putI (xs.length : Int) ++ (xs.take k).flatMap (localX tbl)) ++ (localX tbl) xs[k]).length ≤ 1000000000) := Lib.hid (by
        have h1 := HL.out
        rw [HW.out, ← List.take_append_drop (k + 1) xs] at h1
        rw [HTK.out] at h1
        simp only [List.take_append_drop, List.flatMap_append, List.flatMap_cons, List.flatMap_nil, List.append_nil, List.length_append, List.length_take, List.length_drop, List.length_cons, List.length_nil] at h1 ⊢
        have e : min k xs.length + (0 + 1) + (xs.length - (k + 1)) = xs.length := by omega
        first
        | omega
        | (rw [e] at h1; omega))
      generalize xs[k] = x at *
      obtain ⟨p0, p1⟩ := (show wr.cell? ⟨b, o + k * 2, none⟩ = some (.string x.name) ∧ wr.cell? ⟨b, o + k * 2 + 1, none⟩ = some (.int .i64 x.type) from y)
      obtain ⟨W3, hW3⟩ : ∃ W3, wr.alloc (.cells #[.string x.name, .int .i64 x.type] 87) = W3 := ⟨_, rfl⟩
      have hbA : Below wr.heap.size wr W3 := by rw [← hW3]; exact (Below.refl _ _).alloc (Nat.le_refl _) _
      have hkA : W3.heap[wr.heap.size]? = some (.cells #[.string x.name, .int .i64 x.type] 87 (0, 0)) := by rw [← hW3]; exact heap_alloc_new wr _
      obtain ⟨z0, z1, _, _⟩ := blk2 hkA
      have HBA := Lib.hid hbA
      have HSA := Lib.hid (HSk.out.keep hbA)
      clear hbA hkA
      clear y
      go_wp2_with fail
      go_at_call 37
      refine (elocal_any w0 h g t T c tbl _ _ x W3 HTB.out HSO.out htl HSA.out HNX.out HLK.out).mono ?_
      rintro e' w2 ⟨rfl, hs2, hx2⟩
      have HS2 : Hid (ES w0 h g t w2 ((xs.take (k + 1)).foldl (fun e (s : Lc) => errX tbl s.name e) er) (l ++ (putI (xs.length : Int) ++ (xs.take (k + 1)).flatMap (localX tbl)))) := Lib.hid (by
        rw [HTK.out, List.foldl_append, List.flatMap_append, List.flatMap_singleton, ← List.append_assoc, ← List.append_assoc]
        rw [← List.append_assoc] at hs2
        exact hs2)
      have HX2 := Lib.hid hx2
      clear hs2 hx2
      go_wp2_with fail
      go_roundw
      case rel => exact ⟨k + 1, by omega, by go_num, HS2, Lib.hid ((HXk.out.trans (WrE.of_below HBA.out)).trans HX2.out)⟩
      case measure => simp [intOf]; omega
    · have hke : k = xs.length := by omega
      have ht : xs.take k = xs := by rw [hke, List.take_length]
      have hfin := HSk.out
      rw [ht, ← HW.out] at hfin
      have HFIN := Lib.hid hfin
      clear hke ht hfin
      go_wp2_with fail
      exact bodyPost_end (v := .tuple #[]) (by simp [results, Tryz.results36, go_sem] <;> rfl) rfl ⟨rfl, HFIN.out, HXk.out⟩
end Go.Proofs.YtbnljlpefpllcaaGreatDoor
namespace Go.Proofs.YtbnljlpefpllcaaGreatDoor
open Go Go.RowKit
/-- What table leaves. -/
def TabPost (xs : List ByteArray) (w : World) (e' : Ending) (w' : World) : Prop :=
  Below w.heap.size w w' ∧ (e' = .returned (.tuple #[.pointer none, .slice none 0 0, .int .i64 0]) ∨
    ((∀ s ∈ xs, isIdent s = true) ∧ xs.length ≤ 8000 ∧ ∃ t B d T c, e' = .returned (.tuple #[.pointer (some ⟨t, 0, none⟩), .slice T (tabB [] xs).length c, .int .i64 1]) ∧ TabAt w' t B d (tabB [] xs) ∧ Slc 1 RN w' T c (tabB [] xs) ∧ (∀ a, T = some a → a.block < w'.heap.size)))
set_option maxRecDepth 100000 in
set_option maxHeartbeats 4000000 in
theorem table_any (xs : List ByteArray) (A : Option Addr) (c : Nat) (w : World) (hs : Slc 1 RN w A c xs) :
    Calls Tryz.prog 8 #[.slice A xs.length c] w (TabPost xs w) := by
  have hle := hs.le
  have hbg := hs.big
  have HS := Lib.hid hs
  clear hs
  go_enter Tryz.func8, Tryz.ntmps8
  go_wp2_with fail
  go_loopw [5, 14] (fun v i wr => ∃ (k m : Nat), k ≤ xs.length ∧ i = .int .i64 k ∧ v = .int .i64 m ∧ k ≤ m ∧ m ≤ 8000 ∧ wr = w ∧ Hid (∀ s ∈ xs.take k, s.size ≤ 8000)) (fun _ i _ => xs.length - (intOf i).toNat)
  case atStart => exact ⟨0, 0, by omega, rfl, rfl, by omega, by omega, rfl, Lib.hid (by simp)⟩
  case round =>
    obtain ⟨k, m, hk, rfl, rfl, hkm, hm, rfl, HI⟩ := hrel
    by_cases hlt : k < xs.length
    · obtain ⟨b, o, rfl, hb, y⟩ := HS.out.sl.at_ hlt
      have HTK : Hid (xs.take (k + 1) = xs.take k ++ [xs[k]]) := Lib.hid (List.take_succ_eq_append_getElem hlt)
      generalize xs[k] = x at *
      have p0 : wr.cell? ⟨b, o + k, none⟩ = some (.string x) := by simpa [RN] using y
      clear y
      go_wp2_with fail
      · refine bodyPost_ret (v := .tuple #[.pointer none, .slice none 0 0, .int .i64 0]) (by simp [results, Tryz.results8, go_sem] <;> rfl) rfl ?_
        exact ⟨Below.refl _ _, .inl rfl⟩
      · go_roundw
        case rel =>
          refine ⟨k + 1, m + (1 + min x.size 9000), by omega, by go_num, by rw [show min (x.size : Int) 9000 = ((min x.size 9000 : Nat) : Int) by omega]; push_cast; rfl, by omega, by omega, by simp, Lib.hid (fun s hs => ?_)⟩
          rw [HTK.out] at hs
          rcases List.mem_append.1 hs with h | h
          · exact HI.out s h
          · rw [List.mem_singleton] at h
            rw [h]
            omega
        case measure => simp [intOf]; omega
    · have hke : k = xs.length := by omega
      have hxl : xs.length ≤ 8000 := by omega
      have hzz : ∀ s ∈ xs, s.size ≤ 1000000 := fun s hs => by
        have := HI.out s (by rw [hke, List.take_length]; exact hs)
        omega
      have HR := Lib.hid (rnew_any xs A c wr HS.out (by omega) hzz)
      have HP := Lib.hid (fun w1 (hb : Below wr.heap.size wr w1) => pnewtab_any xs A c w1 (HS.out.keep RN.keeps hb) (by omega))
      clear hzz hke
      by_cases hall : ∀ s ∈ xs, isIdent s = true
      · have HALL := Lib.hid hall
        clear hall
        go_wp2_with fail
        go_at_call 21
        refine HR.out.mono ?_
        rintro e' w1 ⟨hb1, h1, _⟩
        obtain ⟨T, d, rfl, hs1, hT1⟩ := h1 HALL.out
        have HB1 := Lib.hid hb1
        have HS1 := Lib.hid hs1
        have HT1 := Lib.hid hT1
        clear hb1 hs1 hT1 h1
        go_wp2_with fail
        go_at_call 22
        refine (HP.out w1 HB1.out).mono ?_
        rintro e' w2 ⟨hb2, h2, _⟩
        obtain ⟨t, B, d2, rfl, ht⟩ := h2 HALL.out
        have HB2 := Lib.hid hb2
        have HT := Lib.hid ht
        clear hb2 ht h2
        go_wp2_with fail
        refine bodyPost_ret (v := .tuple #[.pointer (some ⟨t, 0, none⟩), .slice T (tabB [] xs).length d, .int .i64 1]) (by simp [results, Tryz.results8, go_sem] <;> rfl) rfl ?_
        exact ⟨HB1.out.trans (HB2.out.mono HB1.out.size), .inr ⟨HALL.out, hxl, t, B, d2, T, d, rfl, HT.out, HS1.out.keep RN.keeps HB2.out, fun a ha => Nat.lt_of_lt_of_le (HT1.out a ha) HB2.out.size⟩⟩
      · have HALL := Lib.hid hall
        clear hall
        go_wp2_with fail
        go_at_call 21
        refine HR.out.mono ?_
        rintro e' w1 ⟨hb1, _, h1⟩
        obtain rfl := h1 HALL.out
        have HB1 := Lib.hid hb1
        clear hb1 h1
        go_wp2_with fail
        go_at_call 22
        refine (HP.out w1 HB1.out).mono ?_
        rintro e' w2 ⟨hb2, _, h2⟩
        obtain rfl := h2 HALL.out
        have HB2 := Lib.hid hb2
        clear hb2 h2
        go_wp2_with fail
        refine bodyPost_ret (v := .tuple #[.pointer none, .slice none 0 0, .int .i64 0]) (by simp [results, Tryz.results8, go_sem] <;> rfl) rfl ?_
        exact ⟨HB1.out.trans (HB2.out.mono HB1.out.size), .inl rfl⟩
end Go.Proofs.YtbnljlpefpllcaaGreatDoor
