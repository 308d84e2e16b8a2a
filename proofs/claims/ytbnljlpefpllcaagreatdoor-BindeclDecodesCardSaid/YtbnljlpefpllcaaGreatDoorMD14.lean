/-
  Parts of the proof: V9 V10 V15 V28 E4 V16 V17 V29.
-/
import Derived.Test.YtbnljlpefpllcaaGreatDoorMD12
import Derived.Test.YtbnljlpefpllcaaGreatDoorMD3
import Derived.Test.YtbnljlpefpllcaaGreatDoorMD7
import Derived.Test.YtbnljlpefpllcaaGreatDoorMD13
import Derived.Deep.LoopGhost
namespace Go.Proofs.YtbnljlpefpllcaaGreatDoor
open Go Go.RowKit
set_option maxRecDepth 100000 in
set_option maxHeartbeats 8000000 in
theorem add4_none (ds : List Int) (n : Int) (t : Ty) (g base : Nat) (v : Value) (A : Option Addr) (c : Nat) (w : World) (hg : w.heap[g]? = some (.cells #[.int .i64 n, v] 239)) (hown : w.ownsRow base 3 1 v ds.length (ds.map (Value.int .i64))) (hgb : g < base) (hb : base ≤ w.heap.size) (hl : ds.length ≤ 65535) (ht : Slc 1 RInt w A c t.flds) (hk : t.kind = 4) (hmu : t.mu = false) (hreg : t.reg = 0) (hel : t.elem = 0) (hdep : depF ds 0 t.flds = none) :
    Calls Tryz.prog 173 #[.pointer (some ⟨g, 0, none⟩), tyAgg t A c] w fun e' w' => addP base g v.ownBlock n ds (addE ds n t) w e' w' := by
  have HF : Hid (addE ds n t = (3, 0)) := Lib.hid (by
    unfold addE
    rw [if_neg (by omega), if_neg (by simp [hk, hmu, hreg, hel]), if_neg (by omega), if_neg (by omega), hdep]
    )
  rw [HF.out]
  obtain ⟨x0, x1, f0, f1⟩ := pair_get hg
  obtain ⟨i0, hi, hz0, hz1, hz2⟩ := info_parts infoInt
  obtain ⟨B, d, rfl, hsl⟩ := slc_of_ints hown
  have HOWN := Lib.hid hown
  have HG := Lib.hid hg
  have HB := Lib.hid hb
  have hgw : g < w.heap.size := by omega
  have hgl := lt_steps hgw
  have hcb := ht.big
  have hcl := ht.le
  have HT := Lib.hid ht
  have hlen := hsl.le
  have hdb := hsl.big
  clear hown hg ht hb
  unfold tyAgg
  obtain ⟨k, mu, rg, el, fl⟩ := t
  simp only at *
  subst hk hmu hreg hel
  have HDEP := Lib.hid (fun W (hb : Below w.heap.size w W) => depth_any ds fl g A B c d W (cell_keep hb x1) (hsl.keep RInt.keeps hb) (HT.out.keep RInt.keeps hb))
  rw [depP_of hdep] at HDEP
  simp only [depQ] at HDEP
  obtain ⟨m, hm⟩ : ∃ m, fl.length = m := ⟨_, rfl⟩
  rw [hm] at HDEP hcl
  rw [hm]
  clear hm HT HF
  have HBW : Below w.heap.size w (w.alloc (.cells #[.int .i64 4, .bool false, .int .i64 0, .int .i64 0, .slice A m c] 83)) := (Below.refl _ _).alloc (Nat.le_refl _) _
  have HBD := Lib.hid (fun (_ : Nat) => HBW)
  go_enter Tryz.func173, Tryz.ntmps173
  go_wp2_with (first
    | (go_at_call 206; refine (HDEP.out _ HBW).mono ?_; rintro e' w' ⟨rfl, hw⟩; obtain rfl := hw.symm))
  all_goals first
    | (go_ret; exact addP_bad (Stp2.of_below (HBD.out 0)) (by omega))
    | (exfalso; omega)
set_option maxRecDepth 100000 in
set_option maxHeartbeats 8000000 in
theorem add4_len (ds : List Int) (n : Int) (t : Ty) (g base : Nat) (v : Value) (A : Option Addr) (c : Nat) (w : World) (hg : w.heap[g]? = some (.cells #[.int .i64 n, v] 239)) (hown : w.ownsRow base 3 1 v ds.length (ds.map (Value.int .i64))) (hgb : g < base) (hb : base ≤ w.heap.size) (hl : ds.length ≤ 65535) (ht : Slc 1 RInt w A c t.flds) (hk : t.kind = 4) (hmu : t.mu = false) (hreg : t.reg = 0) (hel : t.elem = 0) (kd : Int) (hdep : depF ds 0 t.flds = some kd) (hlim : t.flds.length = 0 ∨ 65535 < t.flds.length) :
    Calls Tryz.prog 173 #[.pointer (some ⟨g, 0, none⟩), tyAgg t A c] w fun e' w' => addP base g v.ownBlock n ds (addE ds n t) w e' w' := by
  have HF : Hid (addE ds n t = (15, 0)) := Lib.hid (by
    unfold addE
    rw [if_neg (by omega), if_neg (by simp [hk, hmu, hreg, hel]), if_neg (by omega), if_neg (by omega), hdep]
    simp only
    rw [if_pos ⟨hk, hlim⟩])
  rw [HF.out]
  obtain ⟨x0, x1, f0, f1⟩ := pair_get hg
  obtain ⟨i0, hi, hz0, hz1, hz2⟩ := info_parts infoInt
  obtain ⟨B, d, rfl, hsl⟩ := slc_of_ints hown
  have HOWN := Lib.hid hown
  have HG := Lib.hid hg
  have HB := Lib.hid hb
  have hgw : g < w.heap.size := by omega
  have hgl := lt_steps hgw
  have hcb := ht.big
  have hcl := ht.le
  have HT := Lib.hid ht
  have hlen := hsl.le
  have hdb := hsl.big
  clear hown hg ht hb
  unfold tyAgg
  obtain ⟨k, mu, rg, el, fl⟩ := t
  simp only at *
  subst hk hmu hreg hel
  have HDEP := Lib.hid (fun W (hb : Below w.heap.size w W) => depth_any ds fl g A B c d W (cell_keep hb x1) (hsl.keep RInt.keeps hb) (HT.out.keep RInt.keeps hb))
  rw [depP_of hdep] at HDEP
  simp only [depQ] at HDEP
  obtain ⟨m, hm⟩ : ∃ m, fl.length = m := ⟨_, rfl⟩
  rw [hm] at HDEP hcl hlim
  rw [hm]
  clear hm HT HF
  have HBW : Below w.heap.size w (w.alloc (.cells #[.int .i64 4, .bool false, .int .i64 0, .int .i64 0, .slice A m c] 83)) := (Below.refl _ _).alloc (Nat.le_refl _) _
  have HBD := Lib.hid (fun (_ : Nat) => HBW)
  rcases hlim with rfl | hlim
  all_goals
   go_enter Tryz.func173, Tryz.ntmps173
   go_wp2_with (first
    | (go_at_call 206; refine (HDEP.out _ HBW).mono ?_; rintro e' w' ⟨rfl, hw⟩; obtain rfl := hw.symm))
   all_goals first
    | (go_ret; exact addP_bad (Stp2.of_below (HBD.out 0)) (by omega))
    | (exfalso; omega)
set_option maxRecDepth 100000 in
set_option maxHeartbeats 8000000 in
theorem add4_deep (ds : List Int) (n : Int) (t : Ty) (g base : Nat) (v : Value) (A : Option Addr) (c : Nat) (w : World) (hg : w.heap[g]? = some (.cells #[.int .i64 n, v] 239)) (hown : w.ownsRow base 3 1 v ds.length (ds.map (Value.int .i64))) (hgb : g < base) (hb : base ≤ w.heap.size) (hl : ds.length ≤ 65535) (ht : Slc 1 RInt w A c t.flds) (hk : t.kind = 4) (hmu : t.mu = false) (hreg : t.reg = 0) (hel : t.elem = 0) (kd : Int) (hdep : depF ds 0 t.flds = some kd) (hlim : ¬ (t.flds.length = 0 ∨ 65535 < t.flds.length)) (hkd : 32 ≤ kd) :
    Calls Tryz.prog 173 #[.pointer (some ⟨g, 0, none⟩), tyAgg t A c] w fun e' w' => addP base g v.ownBlock n ds (addE ds n t) w e' w' := by
  have HF : Hid (addE ds n t = (19, 0)) := Lib.hid (by
    unfold addE
    rw [if_neg (by omega), if_neg (by simp [hk, hmu, hreg, hel]), if_neg (by omega), if_neg (by omega), hdep]
    simp only
    rw [if_neg (by omega), if_pos hkd])
  rw [HF.out]
  obtain ⟨x0, x1, f0, f1⟩ := pair_get hg
  obtain ⟨i0, hi, hz0, hz1, hz2⟩ := info_parts infoInt
  obtain ⟨B, d, rfl, hsl⟩ := slc_of_ints hown
  have HOWN := Lib.hid hown
  have HG := Lib.hid hg
  have HB := Lib.hid hb
  have hgw : g < w.heap.size := by omega
  have hgl := lt_steps hgw
  have hcb := ht.big
  have hcl := ht.le
  have HT := Lib.hid ht
  have hlen := hsl.le
  have hdb := hsl.big
  clear hown hg ht hb
  unfold tyAgg
  obtain ⟨k, mu, rg, el, fl⟩ := t
  simp only at *
  subst hk hmu hreg hel
  have HDEP := Lib.hid (fun W (hb : Below w.heap.size w W) => depth_any ds fl g A B c d W (cell_keep hb x1) (hsl.keep RInt.keeps hb) (HT.out.keep RInt.keeps hb))
  rw [depP_of hdep] at HDEP
  simp only [depQ] at HDEP
  obtain ⟨m, hm⟩ : ∃ m, fl.length = m := ⟨_, rfl⟩
  rw [hm] at HDEP hcl hlim
  rw [hm]
  clear hm HT HF
  have hl1 : 0 < m := by omega
  have hl2 : m ≤ 65535 := by omega
  have e4 : ((m : Int) == 0) = false := by simp; omega
  have e5 : ¬ (65535 : Int) < (m : Int) := by omega
  clear hlim
  have HBW : Below w.heap.size w (w.alloc (.cells #[.int .i64 4, .bool false, .int .i64 0, .int .i64 0, .slice A m c] 83)) := (Below.refl _ _).alloc (Nat.le_refl _) _
  have HBD := Lib.hid (fun (_ : Nat) => HBW)
  go_enter Tryz.func173, Tryz.ntmps173
  go_wp2_with (first
    | (go_at_call 206; refine (HDEP.out _ HBW).mono ?_; rintro e' w' ⟨rfl, hw⟩; obtain rfl := hw.symm))
  all_goals first
    | (go_ret; exact addP_bad (Stp2.of_below (HBD.out 0)) (by omega))
    | (exfalso; omega)
set_option maxRecDepth 100000 in
set_option maxHeartbeats 8000000 in
theorem add4_good (ds : List Int) (n : Int) (t : Ty) (g base : Nat) (v : Value) (A : Option Addr) (c : Nat) (w : World) (hg : w.heap[g]? = some (.cells #[.int .i64 n, v] 239)) (hown : w.ownsRow base 3 1 v ds.length (ds.map (Value.int .i64))) (hgb : g < base) (hb : base ≤ w.heap.size) (hl : ds.length ≤ 65535) (ht : Slc 1 RInt w A c t.flds) (hk : t.kind = 4) (hmu : t.mu = false) (hreg : t.reg = 0) (hel : t.elem = 0) (kd : Int) (hdep : depF ds 0 t.flds = some kd) (hlim : ¬ (t.flds.length = 0 ∨ 65535 < t.flds.length)) (hkd0 : 0 ≤ kd) (hkd : ¬ 32 ≤ kd) :
    Calls Tryz.prog 173 #[.pointer (some ⟨g, 0, none⟩), tyAgg t A c] w fun e' w' => addP base g v.ownBlock n ds (addE ds n t) w e' w' := by
  have HF : Hid (addE ds n t = (0, kd + 1)) := Lib.hid (by
    unfold addE
    rw [if_neg (by omega), if_neg (by simp [hk, hmu, hreg, hel]), if_neg (by omega), if_neg (by omega), hdep]
    simp only
    rw [if_neg (by omega), if_neg hkd])
  rw [HF.out]
  obtain ⟨x0, x1, f0, f1⟩ := pair_get hg
  obtain ⟨i0, hi, hz0, hz1, hz2⟩ := info_parts infoInt
  obtain ⟨B, d, rfl, hsl⟩ := slc_of_ints hown
  have HOWN := Lib.hid hown
  have HG := Lib.hid hg
  have HB := Lib.hid hb
  have hgw : g < w.heap.size := by omega
  have hgl := lt_steps hgw
  have hcb := ht.big
  have hcl := ht.le
  have HT := Lib.hid ht
  have hlen := hsl.le
  have hdb := hsl.big
  clear hown hg ht hb
  unfold tyAgg
  obtain ⟨k, mu, rg, el, fl⟩ := t
  simp only at *
  subst hk hmu hreg hel
  have HDEP := Lib.hid (fun W (hb : Below w.heap.size w W) => depth_any ds fl g A B c d W (cell_keep hb x1) (hsl.keep RInt.keeps hb) (HT.out.keep RInt.keeps hb))
  rw [depP_of hdep] at HDEP
  simp only [depQ] at HDEP
  obtain ⟨m, hm⟩ : ∃ m, fl.length = m := ⟨_, rfl⟩
  rw [hm] at HDEP hcl hlim
  rw [hm]
  clear hm HT HF
  have hl1 : 0 < m := by omega
  have hl2 : m ≤ 65535 := by omega
  have e4 : ((m : Int) == 0) = false := by simp; omega
  have e5 : ¬ (65535 : Int) < (m : Int) := by omega
  clear hlim
  have HBW : Below w.heap.size w (w.alloc (.cells #[.int .i64 4, .bool false, .int .i64 0, .int .i64 0, .slice A m c] 83)) := (Below.refl _ _).alloc (Nat.le_refl _) _
  have HBD := Lib.hid (fun (_ : Nat) => HBW)
  have e3 : ¬ 32 ≤ kd := by omega
  have HBA : Hid (Below w.heap.size w ((w.alloc (.cells #[.int .i64 4, .bool false, .int .i64 0, .int .i64 0, .slice A m c] 83)).alloc (.cells #[.int .i64 (kd + 1)] 3))) := Lib.hid (HBW.alloc (by simp) _)
  go_enter Tryz.func173, Tryz.ntmps173
  go_wp2_with (first
    | (go_at_call 206; refine (HDEP.out _ HBW).mono ?_; rintro e' w' ⟨rfl, hw⟩; obtain rfl := hw.symm)
    | (at_builtin; refine wpList_append_own _ rfl _ _ 51 rfl base 3 i0 (.int .i64 0) 1 8 Tryz.underlying51 hi hz0 hz1 hz2 rfl (by decide) _ _ _ rfl (own_below HOWN.out HBA.out) ⟨_, 0, none⟩ 1 1 [.int .i64 (kd + 1)] rfl rfl (cell_new_at _ _ _ _ (by simp)) (ints_oneCell .i64 [kd + 1]) (by unfold maxLen; omega) (by omega) (Nat.le_trans HB.out HBA.out.size) ?_; intro v' w2 hown' hgrow _; obtain ⟨B', d', rfl, _⟩ := own_slice hown'; obtain ⟨y0, y1, f2, f3⟩ := pair_get (grown_at hgrow HBA.out HG.out HOWN.out hgb); have HFIN := Lib.hid (addP_good HBA.out hgrow HOWN.out hown' HG.out hgb HB.out)))
  all_goals first
    | (exfalso; omega)
    | (go_ret; exact HFIN.out)
end Go.Proofs.YtbnljlpefpllcaaGreatDoor
namespace Go.Proofs.YtbnljlpefpllcaaGreatDoor
open Go Go.RowKit
theorem depF_le (d : List Int) : ∀ (l : List Int) (a k : Int), depF d a l = some k → a ≤ k
  | [], a, k, h => by simp [depF] at h; omega
  | i :: r, a, k, h => by
    rw [depF] at h
    split at h
    · cases h
    · split at h
      · cases h
      · have := depF_le d r _ k h
        omega
theorem add_any (ds : List Int) (n : Int) (t : Ty) (g base : Nat) (v : Value) (A : Option Addr) (c : Nat) (w : World) (hg : w.heap[g]? = some (.cells #[.int .i64 n, v] 239)) (hown : w.ownsRow base 3 1 v ds.length (ds.map (Value.int .i64))) (hgb : g < base) (hb : base ≤ w.heap.size) (hl : ds.length ≤ 65535) (ht : Slc 1 RInt w A c t.flds) :
    Calls Tryz.prog 173 #[.pointer (some ⟨g, 0, none⟩), tyAgg t A c] w fun e' w' => addP base g v.ownBlock n ds (addE ds n t) w e' w' := by
  by_cases h1 : t.kind < 0 ∨ 4 < t.kind
  · exact add_kind ds n t g base v A c w hg hown hgb hb hl ht h1
  by_cases h2 : (t.kind ≠ 3 ∧ (t.mu = true ∨ t.reg ≠ 0 ∨ t.elem ≠ 0)) ∨ (t.kind ≠ 4 ∧ 0 < t.flds.length)
  · exact add_flds ds n t g base v A c w hg hown hgb hb hl ht (by omega) (by omega) h2
  have hpl : t.kind ≠ 3 → t.mu = false ∧ t.reg = 0 ∧ t.elem = 0 := fun h => by
    by_cases hm : t.mu = true
    · exact absurd (.inl ⟨h, .inl hm⟩) h2
    · refine ⟨by simpa using hm, ?_, ?_⟩
      · exact Decidable.byContradiction fun hr => h2 (.inl ⟨h, .inr (.inl hr)⟩)
      · exact Decidable.byContradiction fun hr => h2 (.inl ⟨h, .inr (.inr hr)⟩)
  have hfl : t.kind ≠ 4 → t.flds = [] := fun h => by
    rcases Nat.eq_zero_or_pos t.flds.length with h0 | h0
    · exact List.eq_nil_of_length_eq_zero h0
    · exact absurd (.inr ⟨h, h0⟩) h2
  by_cases h3 : t.kind = 3
  · have hf := hfl (by omega)
    by_cases hr : t.reg < 0 ∨ n ≤ t.reg
    · exact add_reg ds n t g base v A c w hg hown hgb hb hl ht h3 hf hr
    · cases hd : depF ds 0 [t.elem] with
      | none => exact add3_none ds n t g base v A c w hg hown hgb hb hl ht h3 hf (by omega) hd
      | some kd =>
        by_cases h32 : 32 ≤ kd
        · exact add3_deep ds n t g base v A c w hg hown hgb hb hl ht h3 hf (by omega) kd hd h32
        · exact add3_good ds n t g base v A c w hg hown hgb hb hl ht h3 hf (by omega) kd hd (depF_le _ _ _ _ hd) h32
  by_cases h4 : t.kind = 4
  · obtain ⟨hm, hr, he⟩ := hpl h3
    cases hd : depF ds 0 t.flds with
    | none => exact add4_none ds n t g base v A c w hg hown hgb hb hl ht h4 hm hr he hd
    | some kd =>
      by_cases hlim : t.flds.length = 0 ∨ 65535 < t.flds.length
      · exact add4_len ds n t g base v A c w hg hown hgb hb hl ht h4 hm hr he kd hd hlim
      · by_cases h32 : 32 ≤ kd
        · exact add4_deep ds n t g base v A c w hg hown hgb hb hl ht h4 hm hr he kd hd hlim h32
        · exact add4_good ds n t g base v A c w hg hown hgb hb hl ht h4 hm hr he kd hd hlim (depF_le _ _ _ _ hd) h32
  exact add_flat ds n t g base v A c w hg hown hgb hb hl ht ⟨by omega, by omega, hpl, hfl, fun h => absurd h h3⟩ (by omega)
theorem five_new (w : World) (x y z u v : Value) (t : TypeId) : ∀ i q, [x, y, z, u, v][i]? = some q → (w.alloc (.cells #[x, y, z, u, v] t)).cell? ⟨w.heap.size, i, none⟩ = some q := fun i q hi => by
  rw [World.cell?_alloc_at _ _ _ _ (by simp)]
  simpa using hi
theorem Stp2.cell {row : Option Nat} {g : Nat} {w w' : World} (h : Stp2 row g w w') {k i : Nat} (hk : k < w.heap.size) (hg : k ≠ g) (hr : some k ≠ row) : w'.cell? ⟨k, i, none⟩ = w.cell? ⟨k, i, none⟩ := by
  simp only [World.cell?, h.block k hk hg hr]
theorem typesE_step (n : Int) (prev : List Ty) (d : List Int) (t : Ty) (r : List Ty) : typesE n prev d (t :: r) = if (addE d n t).1 = 0 then (if t ∈ prev then 21 else typesE n (prev ++ [t]) (d ++ [(addE d n t).2]) r) else (addE d n t).1 := by
  rw [typesE, tyE_add]
  by_cases h1 : (addE d n t).1 = 0 <;> by_cases h2 : t ∈ prev <;> simp [h1, h2]
set_option maxRecDepth 100000 in
set_option maxHeartbeats 8000000 in
theorem typesC_any (ts : List Ty) (n : Int) (A : Option Addr) (c : Nat) (w : World) (hs : Slc 5 RTy w A c ts) :
    Calls Tryz.prog 121 #[.slice A ts.length c, .int .i64 n] w fun e' w' => e' = .returned (.int .i64 (typesC n ts)) ∧ Below w.heap.size w w' := by
  have hle := hs.le
  have hbig := hs.big
  unfold typesC
  by_cases h0 : 65535 < ts.length
  · rw [if_pos h0]
    clear hs
    go_enter Tryz.func121, Tryz.ntmps121
    go_wp2_with fail
    go_ret
    exact ⟨rfl, Below.refl _ _⟩
  rw [if_neg h0]
  obtain ⟨R, hR⟩ : ∃ R, typesE n [] [] ts = R := ⟨_, rfl⟩
  rw [hR]
  have HR := Lib.hid hR
  have HS := Lib.hid hs
  clear hR hs
  go_enter Tryz.func121, Tryz.ntmps121
  go_wp2_with fail
  go_loopw [19] (fun i wr => ∃ (k : Nat) (ds : List Int) (v : Value), k ≤ ts.length ∧ i = .int .i64 k ∧ Hid (ds.length = k) ∧ Hid (wr.heap[w.heap.size]? = some (.cells #[.int .i64 n, v] 239)) ∧ Hid (wr.ownsRow (w.heap.size + 1) 3 1 v ds.length (ds.map (Value.int .i64))) ∧ Hid (Below w.heap.size w wr) ∧ w.heap.size + 1 ≤ wr.heap.size ∧ Hid (R = typesE n (ts.take k) ds (ts.drop k))) (fun i _ => ts.length - (intOf i).toNat)
  case atStart =>
    refine ⟨0, [], .slice none 0 0, by omega, rfl, Lib.hid rfl, Lib.hid ?_, Lib.hid (World.ownsRow_nil _ _ _ _), Lib.hid ((Below.refl _ _).alloc (Nat.le_refl _) _), by simp, Lib.hid HR.out.symm⟩
    exact Array.getElem?_push_size
  case round =>
    obtain ⟨k, ds, v, hk, rfl, hdl, hg, hown, hB, hsz, hr⟩ := hrel
    by_cases hlt : k < ts.length
    · have hd := drop_cons hlt
      obtain ⟨b, o, rfl, hb, hx⟩ := HS.out.sl.at_ hlt
      have htk : Hid (ts.take (k + 1) = ts.take k ++ [ts[k]]) := Lib.hid (List.take_succ_eq_append_getElem hlt)
      obtain ⟨t, ht⟩ : ∃ t, ts[k] = t := ⟨_, rfl⟩
      rw [ht] at hd hx htk
      obtain ⟨r1, r2, r3, r4, A2, c2, r5, r6, r7, r8⟩ := hx
      have HFL : Hid (Slc 1 RInt w A2 c2 t.flds) := Lib.hid ⟨r8, r6, r7⟩
      replace r1 := (hB.out.cell (p := ⟨b, o + k * 5, none⟩) hb).trans r1
      replace r2 := (hB.out.cell (p := ⟨b, o + k * 5 + 1, none⟩) hb).trans r2
      replace r3 := (hB.out.cell (p := ⟨b, o + k * 5 + 2, none⟩) hb).trans r3
      replace r4 := (hB.out.cell (p := ⟨b, o + k * 5 + 3, none⟩) hb).trans r4
      replace r5 := (hB.out.cell (p := ⟨b, o + k * 5 + 4, none⟩) hb).trans r5
      obtain ⟨W1, hW1⟩ : ∃ W1, W1 = wr.alloc (.cells #[.int .i64 t.kind, .bool t.mu, .int .i64 t.reg, .int .i64 t.elem, .slice A2 t.flds.length c2] 83) := ⟨_, rfl⟩
      have hBW : Below w.heap.size w W1 := by rw [hW1]; exact hB.out.alloc (by omega) _
      have hBW0 : Below wr.heap.size wr W1 := by rw [hW1]; exact (Below.refl _ _).alloc (Nat.le_refl _) _
      have hW1s : W1.heap.size = wr.heap.size + 1 := by rw [hW1]; simp
      have hgW : W1.heap[w.heap.size]? = some (.cells #[.int .i64 n, v] 239) := (hBW0.block _ (by omega)).trans hg.out
      have hrow : ∀ j, v.ownBlock = some j → w.heap.size + 1 ≤ j ∧ j < wr.heap.size := fun j hj => hown.out.lt j hj
      have HADD := Lib.hid (add_any ds n t w.heap.size (w.heap.size + 1) v A2 c2 W1 hgW (own_below hown.out hBW0) (by omega) (by omega) (by rw [hdl.out]; omega) (HFL.out.keep RInt.keeps hBW))
      have HNEW : Hid (∀ i q, [Value.int .i64 t.kind, .bool t.mu, .int .i64 t.reg, .int .i64 t.elem, .slice A2 t.flds.length c2][i]? = some q → W1.cell? ⟨wr.heap.size, i, none⟩ = some q) := Lib.hid (by rw [hW1]; exact five_new wr _ _ _ _ _ _)
      have HROW := Lib.hid hrow
      have HBW := Lib.hid hBW
      have HW1S := Lib.hid hW1s
      have HN : Hid (R = if (addE ds n t).1 = 0 then (if t ∈ ts.take k then 21 else typesE n (ts.take k ++ [t]) (ds ++ [(addE ds n t).2]) (ts.drop (k + 1))) else (addE ds n t).1) := Lib.hid (by rw [hr.out, hd]; exact typesE_step _ _ _ _ _)
      have HFIND := Lib.hid (fun W (hb : Below w.heap.size w W) => find_prog (ts.take k) t (some ⟨b, o, none⟩) A2 c c2 W ((HS.out.takeN k).keep RTy.keeps hb) (HFL.out.keep RInt.keeps hb))
      rw [List.length_take, Nat.min_eq_left hk] at HFIND
      have hcut : ∀ W, (Instr.slice 24 (.slice (some ⟨b, o, none⟩) ts.length c) none (some (.int .i64 (k : Int))) none).run Tryz.prog W = .ok (.slice (some ⟨b, o, none⟩) k c) W := fun W => by
        have := run_take (P := Tryz.prog) 24 83 (some ⟨b, o, none⟩) ts.length c k 5 Tryz.underlying24 Tryz.sizeOf83 (by omega) hle W
        simpa [cutA, Addr.add] using this
      generalize addE ds n t = q at HADD HN
      obtain ⟨er, dp⟩ := q
      simp only at HN
      unfold tyAgg at HADD HFIND
      rw [hW1] at HADD
      clear hd hr r8 hgW hrow hBW hBW0 hW1s
      by_cases he : er = 0
      · subst he
        rw [if_pos rfl] at HN
        have HCUT := Lib.hid hcut
        clear hcut
        go_wp2_with (go_at_call 173; refine HADD.out.mono ?_; rintro e' w2 ⟨rfl, hst, hgd⟩; have HST := Lib.hid hst; have HGD := Lib.hid hgd; clear hst hgd)
        have hst := HST.out
        rw [← hW1] at hst
        have hB2 : Below w.heap.size w w2 := HBW.out.trans (hst.below (Nat.le_refl _) (fun j hj => by have := (HROW.out j hj).1; omega) HBW.out.size)
        have hnew : ∀ i q, [Value.int .i64 t.kind, .bool t.mu, .int .i64 t.reg, .int .i64 t.elem, .slice A2 t.flds.length c2][i]? = some q → w2.cell? ⟨wr.heap.size, i, none⟩ = some q := fun i q hi =>
          (hst.cell (by rw [HW1S.out]; omega) (by omega) (fun e => by have := (HROW.out _ e.symm).2; omega)).trans (HNEW.out i q hi)
        have y0 := hnew 0 _ rfl
        have y1 := hnew 1 _ rfl
        have y2 := hnew 2 _ rfl
        have y3 := hnew 3 _ rfl
        have y4 := hnew 4 _ rfl
        have hcut := HCUT.out
        have hsz2 : wr.heap.size + 1 ≤ w2.heap.size := by have := hst.size; rw [HW1S.out] at this; exact this
        have HB2 := Lib.hid hB2
        have HFI := Lib.hid (HFIND.out w2.drew hB2.drew)
        obtain ⟨v', hg', hown'⟩ := HGD.out (by simp)
        have HG' := Lib.hid hg'
        have HOWN' := Lib.hid hown'
        clear hst hnew hB2 hg' hown'
        have hS : w2.drew.cell? ⟨wr.heap.size, 0, none⟩ = some (.int .i64 t.kind) ∧ w2.drew.cell? ⟨wr.heap.size, 1, none⟩ = some (.bool t.mu) ∧ w2.drew.cell? ⟨wr.heap.size, 2, none⟩ = some (.int .i64 t.reg) ∧ w2.drew.cell? ⟨wr.heap.size, 3, none⟩ = some (.int .i64 t.elem) ∧ w2.drew.cell? ⟨wr.heap.size, 4, none⟩ = some (.slice A2 t.flds.length c2) := ⟨y0, y1, y2, y3, y4⟩
        refine wp_region_k (S := fun X => X.cell? ⟨wr.heap.size, 0, none⟩ = some (.int .i64 t.kind) ∧ X.cell? ⟨wr.heap.size, 1, none⟩ = some (.bool t.mu) ∧ X.cell? ⟨wr.heap.size, 2, none⟩ = some (.int .i64 t.reg) ∧ X.cell? ⟨wr.heap.size, 3, none⟩ = some (.int .i64 t.elem) ∧ X.cell? ⟨wr.heap.size, 4, none⟩ = some (.slice A2 t.flds.length c2)) (by kernel_rfl) ?_
        (iterate 4 (refine wpK_take (v := ?_) (by kernel_rfl) (fun _ _ _ h => h) (Or.inl ⟨by rfl, ?_⟩) hS ?_; rotate_left; (next => (rintro X ⟨s0, s1, s2, s3, s4⟩; (try simp only [List.getElem?_toArray, List.getElem?_cons_zero, List.getElem?_cons_succ, Option.getD_some]); go_simp; rfl)); simp only [List.getElem?_toArray, List.getElem?_cons_zero, List.getElem?_cons_succ, Option.getD_some, Act.put, List.setIfInBounds_toArray, List.set_cons_zero, List.set_cons_succ]))
        (refine wpK_one (by kernel_rfl) (fun K1 hK1 => ?_); simp only [List.getElem?_toArray, List.getElem?_cons_zero, List.getElem?_cons_succ, Option.getD_some, Act.put, List.setIfInBounds_toArray, List.set_cons_zero, List.set_cons_succ]; rw [if_pos (by rfl)]; go_simp)
        refine HFI.out.mono ?_
        rintro e' w3 ⟨⟨i, rfl⟩, hb3⟩
        replace hS := (⟨cell_keep hb3 hS.1, cell_keep hb3 hS.2.1, cell_keep hb3 hS.2.2.1, cell_keep hb3 hS.2.2.2.1, cell_keep hb3 hS.2.2.2.2⟩ : w3.cell? ⟨wr.heap.size, 0, none⟩ = some (.int .i64 t.kind) ∧ w3.cell? ⟨wr.heap.size, 1, none⟩ = some (.bool t.mu) ∧ w3.cell? ⟨wr.heap.size, 2, none⟩ = some (.int .i64 t.reg) ∧ w3.cell? ⟨wr.heap.size, 3, none⟩ = some (.int .i64 t.elem) ∧ w3.cell? ⟨wr.heap.size, 4, none⟩ = some (.slice A2 t.flds.length c2))
        refine hK1.out _ _ (fun _ => hS) ?_
        (iterate 5 (refine wpK_take (v := ?_) (by kernel_rfl) (fun _ _ _ h => h) (Or.inl ⟨by rfl, ?_⟩) hS ?_; rotate_left; (next => (rintro X ⟨s0, s1, s2, s3, s4⟩; (try simp only [List.getElem?_toArray, List.getElem?_cons_zero, List.getElem?_cons_succ, Option.getD_some]); go_simp; rfl)); simp only [List.getElem?_toArray, List.getElem?_cons_zero, List.getElem?_cons_succ, Option.getD_some, Act.put, List.setIfInBounds_toArray, List.set_cons_zero, List.set_cons_succ]))
        refine wpK_done rfl ?_
        clear hS
        by_cases hm : t ∈ ts.take k
        · have HF : Hid (R = 21) := Lib.hid (by rw [HN.out, if_pos hm])
          have hmd : decide (t ∈ ts.take k) = true := by simp [hm]
          rw [hmd]
          clear hm hmd HN
          go_wp2_with fail
          go_ret
          exact ⟨by rw [HF.out]; rfl, HB2.out.drew.trans (hb3.mono HB2.out.drew.size)⟩
        · have HF : Hid (R = typesE n (ts.take (k + 1)) (ds ++ [dp]) (ts.drop (k + 1))) := Lib.hid (by rw [HN.out, if_neg hm, htk.out])
          have hmd : decide (t ∈ ts.take k) = false := by simp [hm]
          rw [hmd]
          clear hm hmd HN
          go_wp2_with fail
          go_roundw
          case rel =>
            have hb3' : Below w2.heap.size w2 w3 := (Below.refl _ _).drew.trans hb3
            have hl : (ds ++ [dp]).length = k + 1 := by rw [List.length_append, hdl.out]; rfl
            exact ⟨k + 1, ds ++ [dp], v', by omega, by go_num, Lib.hid hl, Lib.hid ((hb3'.block _ (by omega)).trans HG'.out), Lib.hid (own_below HOWN'.out hb3'), Lib.hid (HB2.out.drew.trans (hb3.mono HB2.out.drew.size)), Nat.le_trans (by omega) hb3'.size, HF⟩
          case measure => simp [intOf]; omega
      · rw [if_neg he] at HN
        have e1 : (er != 0) = true := by simp [he]
        clear hcut
        go_wp2_with (go_at_call 173; refine HADD.out.mono ?_; rintro e' w2 ⟨rfl, hst, hgd⟩; have HST := Lib.hid hst; clear hst hgd)
        go_ret
        refine ⟨by rw [HN.out]; rfl, HBW.out.trans ?_⟩
        rw [hW1]
        exact HST.out.below (Nat.le_refl _) (fun j hj => by have := (HROW.out j hj).1; omega) (by simp; omega)
    · have HN : Hid (R = 0) := Lib.hid (by rw [hr.out, List.drop_eq_nil_of_le (by omega)]; rfl)
      clear hr hg hown
      go_wp2_with fail
      go_ret
      exact ⟨by rw [HN.out]; rfl, hB.out⟩
end Go.Proofs.YtbnljlpefpllcaaGreatDoor
namespace Go.Proofs.YtbnljlpefpllcaaGreatDoor
open Go Go.RowKit Go.Maps
def relL (pairs : List (Int × Int)) (s : Bool) (x : Int) : List Int := if s = true then (pairs.filter (fun p => decide (p.2 = x))).map (·.1) else (pairs.filter (fun p => decide (p.1 = x))).map (·.2)
theorem relL_snoc (l : List (Int × Int)) (p : Int × Int) : relL (l ++ [p]) = updL (updL (relL l) false p.1 (relL l false p.1 ++ [p.2])) true p.2 (relL l true p.2 ++ [p.1]) := by
  funext s x
  cases s
  · simp only [relL, updL, Bool.false_eq_true, if_false, false_and, true_and, List.filter_append, List.map_append]
    by_cases h : x = p.1
    · subst h
      simp
    · have : ¬ p.1 = x := fun e => h e.symm
      simp [h, this]
  · simp only [relL, updL, if_true, true_and, List.filter_append, List.map_append]
    by_cases h : x = p.2
    · subst h
      simp
    · have : ¬ p.2 = x := fun e => h e.symm
      simp [h, this]
theorem relL_len (l : List (Int × Int)) (s : Bool) (x : Int) : (relL l s x).length ≤ l.length := by
  unfold relL
  split <;> (rw [List.length_map]; exact List.length_filter_le _ _)
theorem pairsE_all {n : Int} : ∀ (l : List (Int × Int)) (q : Option (Int × Int)), pairsE n q l = 0 → ∀ p ∈ l, 0 ≤ p.1 ∧ p.1 < n ∧ 0 ≤ p.2 ∧ p.2 < n
  | [], _, _, p, hp => by simp at hp
  | x :: r, q, h, p, hp => by
    rw [pairsE_cons] at h
    by_cases h0 : pairE n q x = 0
    · rw [if_pos h0] at h
      rcases List.mem_cons.1 hp with rfl | hp
      · unfold pairE at h0
        split at h0
        · cases h0
        · omega
      · exact pairsE_all r _ h p hp
    · rw [if_neg h0] at h
      exact absurd h h0
theorem pairsC_all {n : Int} {l : List (Int × Int)} (h : pairsC n l = 0) : l.length ≤ 65535 ∧ ∀ p ∈ l, 0 ≤ p.1 ∧ p.1 < n ∧ 0 ≤ p.2 ∧ p.2 < n := by
  unfold pairsC at h
  split at h
  · cases h
  · exact ⟨by omega, pairsE_all l _ h⟩
theorem cell_of_heap {X W : World} {k : Nat} (h : X.heap[k]? = W.heap[k]?) (i : Nat) : X.cell? ⟨k, i, none⟩ = W.cell? ⟨k, i, none⟩ := by
  simp only [World.cell?, h]
theorem two_get {w : World} {k : Nat} {a b : Value} {t : TypeId} (h : w.heap[k]? = some (.cells #[a, b] t)) : w.cell? ⟨k, 0, none⟩ = some a ∧ w.cell? ⟨k, 1, none⟩ = some b := by
  simp [World.cell?, h]
theorem three_get {w : World} {k : Nat} {a b c : Value} {t : TypeId} (h : w.heap[k]? = some (.cells #[a, b, c] t)) : w.cell? ⟨k, 0, none⟩ = some a ∧ w.cell? ⟨k, 1, none⟩ = some b ∧ w.cell? ⟨k, 2, none⟩ = some c := by
  simp [World.cell?, h]
theorem alloc_at (X : World) (o : Obj) (k : Nat) (hk : k = X.heap.size) : (X.alloc o).heap[k]? = some o := by
  subst hk
  exact Array.getElem?_push_size
def mapsAt (k : Nat) (s : Bool) : Nat := if s = true then k + 1 else k
theorem wpU_store {P : Program} {o : Oper} {a : Act} {w : World} {K : Act → World → Prop} {Q : Exit → Act → World → Prop} (m x v : Operand) (t : TypeId) (ho : o.op = .mapUpdate t m x v) {b : Nat} {key val : Value} (hm : a.eval m = .map (some b)) (hx : a.eval x = key) (hv : a.eval v = val)
    {w' : World} (hrun : (Instr.mapUpdate t (.map (some b)) key val).run P w = .ok () w') (h : K (a.put o.dst undef) w') : o.wp P a w K Q := by
  unfold Oper.wp
  simp [execOp, ho, hm, hx, hv, hrun, Result.andThen]
  exact h
end Go.Proofs.YtbnljlpefpllcaaGreatDoor
namespace Go.Proofs.YtbnljlpefpllcaaGreatDoor
open Go Go.RowKit
theorem depF_in (d : List Int) : ∀ (l : List Int) (a k : Int), depF d a l = some k → ∀ i ∈ l, 0 ≤ i ∧ i < d.length
  | [], _, _, _ => by simp
  | i :: r, a, k, h => by
    rw [depF] at h
    by_cases hi : i < 0
    · rw [if_pos hi] at h; cases h
    rw [if_neg hi] at h
    cases hx : d[i.toNat]? with
    | none => rw [hx] at h; cases h
    | some x =>
      rw [hx] at h
      have hlt : i.toNat < d.length := (List.getElem?_eq_some_iff.1 hx).1
      intro j hj
      rcases List.mem_cons.1 hj with rfl | hj
      · exact ⟨by omega, by omega⟩
      · exact depF_in d r _ k h j hj
/-- A type that was found in order refers to earlier ones. -/
def GoodT (m : Nat) (t : Ty) : Prop := (t.kind = 3 → 0 ≤ t.elem ∧ t.elem < m ∧ t.flds = []) ∧ (∀ f ∈ t.flds, 0 ≤ f ∧ f < m) ∧ 0 ≤ t.kind ∧ t.kind ≤ 4 ∧ (t.kind = 4 → t.flds.length ≤ 65535) ∧ (t.kind ≠ 4 → t.flds = [])
theorem tyE_good {prev : List Ty} {d : List Int} {n : Int} {t : Ty} (h : (tyE prev d n t).1 = 0) : GoodT d.length t := by
  unfold tyE at h
  by_cases c1 : t.kind < 0 ∨ 4 < t.kind
  · rw [if_pos c1] at h; cases h
  rw [if_neg c1] at h
  by_cases c2 : (t.kind ≠ 3 ∧ (t.mu = true ∨ t.reg ≠ 0 ∨ t.elem ≠ 0)) ∨ (t.kind ≠ 4 ∧ 0 < t.flds.length)
  · rw [if_pos c2] at h; cases h
  rw [if_neg c2] at h
  by_cases c3 : t.kind = 3 ∧ (t.reg < 0 ∨ n ≤ t.reg)
  · rw [if_pos c3] at h; cases h
  rw [if_neg c3] at h
  have hfl : t.kind ≠ 4 → t.flds = [] := fun h4 => by
    have : ¬ 0 < t.flds.length := fun h5 => c2 (Or.inr ⟨h4, h5⟩)
    exact List.length_eq_zero_iff.1 (by omega)
  cases hd : depF d 0 (if t.kind = 3 then [t.elem] else t.flds) with
  | none => rw [hd] at h; cases h
  | some k =>
    rw [hd] at h
    simp only at h
    have hin := depF_in d _ _ _ hd
    by_cases c4 : t.kind = 4 ∧ (t.flds.length = 0 ∨ 65535 < t.flds.length)
    · rw [if_pos c4] at h; cases h
    refine ⟨fun h3 => ?_, fun f hf => ?_, by omega, by omega, fun h4 => by have : ¬ (t.flds.length = 0 ∨ 65535 < t.flds.length) := fun h => c4 ⟨h4, h⟩; omega, hfl⟩
    · rw [if_pos h3] at hin
      have := hin t.elem (by simp)
      exact ⟨this.1, this.2, hfl (by omega)⟩
    · by_cases h3 : t.kind = 3
      · rw [hfl (by omega)] at hf; cases hf
      · rw [if_neg h3] at hin
        exact hin f hf
theorem typesE_good (n : Int) : ∀ (l prev : List Ty) (d : List Int), d.length = prev.length → typesE n prev d l = 0 → ∀ i (h : i < l.length), GoodT (prev.length + i) l[i]
  | [], _, _, _, _ => fun i h => absurd h (by simp)
  | t :: r, prev, d, hd, h => by
    rw [typesE] at h
    by_cases h0 : (tyE prev d n t).1 = 0
    · rw [if_pos h0] at h
      intro i hi
      cases i with
      | zero => rw [← hd]; exact tyE_good h0
      | succ i =>
        have := typesE_good n r (prev ++ [t]) (d ++ [(tyE prev d n t).2]) (by simp [hd]) h i (by simpa using hi)
        rw [List.length_append, List.length_singleton] at this
        rw [show prev.length + (i + 1) = prev.length + 1 + i by omega]
        simpa using this
    · rw [if_neg h0] at h
      exact absurd h h0
theorem typesC_good {n : Int} {l : List Ty} (h : typesC n l = 0) : l.length ≤ 65535 ∧ ∀ i (h : i < l.length), GoodT i l[i] := by
  unfold typesC at h
  by_cases h0 : 65535 < l.length
  · rw [if_pos h0] at h; cases h
  rw [if_neg h0] at h
  refine ⟨by omega, fun i hi => ?_⟩
  have := typesE_good n l [] [] rfl h i hi
  simpa using this
theorem typesC_ok {n : Int} {l : List Ty} (h : typesC n l = 0) : TyOk l := fun i hi => ⟨((typesC_good h).2 i hi).1, ((typesC_good h).2 i hi).2.1⟩
theorem localsE_all {nt : Nat} : ∀ (l : List Lc) (seen : List ByteArray), localsE nt seen l = 0 → ∀ x ∈ l, isIdent x.name = true ∧ 0 ≤ x.type ∧ x.type < nt
  | [], _, _ => by simp
  | x :: r, seen, h => by
    rw [localsE] at h
    by_cases h1 : isIdent x.name = false
    · rw [if_pos h1] at h; cases h
    rw [if_neg h1] at h
    by_cases h2 : memN x.name seen = true
    · rw [if_pos h2] at h; cases h
    rw [if_neg h2] at h
    by_cases h3 : x.type < 0 ∨ (nt : Int) ≤ x.type
    · rw [if_pos h3] at h; cases h
    rw [if_neg h3] at h
    intro y hy
    rcases List.mem_cons.1 hy with rfl | hy
    · exact ⟨by simpa using h1, by omega, by omega⟩
    · exact localsE_all r _ h y hy
/-- What valid declarations give. -/
structure DeclOk (b : Bdy) : Prop where
  name : isIdent b.name = true
  regs : namesC b.regions = 0
  nreg : b.regions.length ≤ 65535
  outl : pairsC b.regions.length b.outl = 0
  nout : b.outl.length ≤ 65535
  pairs : ∀ p ∈ b.outl, 0 ≤ p.1 ∧ p.1 < (b.regions.length : Int) ∧ 0 ≤ p.2 ∧ p.2 < (b.regions.length : Int)
  typC : typesC b.regions.length b.types = 0
  ntyp : b.types.length ≤ 65535
  good : ∀ i (h : i < b.types.length), GoodT i b.types[i]
  tyok : TyOk b.types
  nloc : b.locals.length ≤ 65535
  locs : ∀ x ∈ b.locals, isIdent x.name = true ∧ 0 ≤ x.type ∧ x.type < b.types.length
  locE : localsE b.types.length [] b.locals = 0
  args : 0 ≤ b.args ∧ b.args ≤ b.locals.length
  nblk : 0 < b.blocks.length ∧ b.blocks.length ≤ 65535
  okay : Okay b.types b.locals
theorem firstE_zero : ∀ {l : List Int}, firstE l = 0 → ∀ x ∈ l, x = 0
  | [], _ => by simp
  | e :: r, h => by
    rw [firstE] at h
    by_cases he : e = 0
    · rw [if_pos he] at h
      intro x hx
      rcases List.mem_cons.1 hx with rfl | hx
      · exact he
      · exact firstE_zero h x hx
    · rw [if_neg he] at h
      exact absurd h he
theorem decl_facts {b : Bdy} (h : declC b = 0) : DeclOk b := by
  unfold declC at h
  by_cases h1 : isIdent b.name = false
  · rw [if_pos h1] at h; cases h
  rw [if_neg h1] at h
  by_cases h2 : firstE [namesC b.regions, pairsC b.regions.length b.outl, typesC b.regions.length b.types, localsC b] = 0
  · rw [if_pos h2] at h
    have g := firstE_zero h2
    have gn := g (namesC b.regions) (by simp)
    have gp := g (pairsC b.regions.length b.outl) (by simp)
    have gt := g (typesC b.regions.length b.types) (by simp)
    have gl := g (localsC b) (by simp)
    have hr : b.regions.length ≤ 65535 := by
      unfold namesC at gn
      by_cases c : 65535 < b.regions.length
      · rw [if_pos c] at gn; cases gn
      · omega
    have hp := pairsC_all gp
    have ht := typesC_good gt
    unfold localsC at gl
    by_cases c : 65535 < b.locals.length
    · rw [if_pos c] at gl; cases gl
    rw [if_neg c] at gl
    by_cases c2 : localsE b.types.length [] b.locals = 0
    · rw [if_pos c2] at gl
      by_cases c3 : b.args < 0 ∨ (b.locals.length : Int) < b.args
      · rw [if_pos c3] at gl; cases gl
      by_cases c4 : b.blocks.length = 0 ∨ 65535 < b.blocks.length
      · rw [if_pos c4] at h; cases h
      have hl := localsE_all _ _ c2
      refine ⟨by simpa using h1, gn, hr, gp, hp.1, hp.2, gt, ht.1, ht.2, typesC_ok gt, by omega, hl, c2, by omega, by omega, ?_, ?_, ?_⟩
      · intro t htm h3
        obtain ⟨i, hi, rfl⟩ := List.mem_iff_getElem.1 htm
        obtain ⟨g1, g2, -⟩ := (ht.2 i hi).1 h3
        exact ⟨g1, by omega⟩
      · intro t htm f hf
        obtain ⟨i, hi, rfl⟩ := List.mem_iff_getElem.1 htm
        obtain ⟨g1, g2⟩ := (ht.2 i hi).2.1 f hf
        exact ⟨g1, by omega⟩
      · exact fun x hx => ⟨(hl x hx).2.1, (hl x hx).2.2⟩
    · rw [if_neg c2] at gl
      exact absurd gl c2
  · rw [if_neg h2] at h
    exact absurd h h2
end Go.Proofs.YtbnljlpefpllcaaGreatDoor
namespace Go.Proofs.YtbnljlpefpllcaaGreatDoor
open Go Go.RowKit
theorem tyE_read {prev : List Ty} {d : List Int} {n : Int} {t : Ty} (hn : n ≤ 65535) (hdl : d.length ≤ 65535) (h : (tyE prev d n t).1 = 0) : TyGood t := by
  unfold tyE at h
  by_cases c1 : t.kind < 0 ∨ 4 < t.kind
  · rw [if_pos c1] at h; cases h
  rw [if_neg c1] at h
  by_cases c2 : (t.kind ≠ 3 ∧ (t.mu = true ∨ t.reg ≠ 0 ∨ t.elem ≠ 0)) ∨ (t.kind ≠ 4 ∧ 0 < t.flds.length)
  · rw [if_pos c2] at h; cases h
  rw [if_neg c2] at h
  by_cases c3 : t.kind = 3 ∧ (t.reg < 0 ∨ n ≤ t.reg)
  · rw [if_pos c3] at h; cases h
  rw [if_neg c3] at h
  have hfl : t.kind ≠ 4 → t.flds = [] := fun h4 => by
    have : ¬ 0 < t.flds.length := fun h5 => c2 (Or.inr ⟨h4, h5⟩)
    exact List.length_eq_zero_iff.1 (by omega)
  have hz : t.kind ≠ 3 → t.mu = false ∧ t.reg = 0 ∧ t.elem = 0 := fun h3 => by
    have a1 : ¬ (t.mu = true ∨ t.reg ≠ 0 ∨ t.elem ≠ 0) := fun h5 => c2 (Or.inl ⟨h3, h5⟩)
    refine ⟨?_, ?_, ?_⟩
    · cases hm : t.mu with
      | false => rfl
      | true => exact absurd (Or.inl hm) a1
    · exact Decidable.byContradiction fun h => a1 (Or.inr (Or.inl h))
    · exact Decidable.byContradiction fun h => a1 (Or.inr (Or.inr h))
  cases hd : depF d 0 (if t.kind = 3 then [t.elem] else t.flds) with
  | none => rw [hd] at h; cases h
  | some k =>
    rw [hd] at h
    simp only at h
    have hin := depF_in d _ _ _ hd
    by_cases c4 : t.kind = 4 ∧ (t.flds.length = 0 ∨ 65535 < t.flds.length)
    · rw [if_pos c4] at h; cases h
    by_cases h3 : t.kind = 3
    · rw [if_pos h3] at hin
      have := hin t.elem (by simp)
      have : ¬ (t.reg < 0 ∨ n ≤ t.reg) := fun h => c3 ⟨h3, h⟩
      exact .inl ⟨h3, by omega, by omega, hfl (by omega)⟩
    · rw [if_neg h3] at hin
      obtain ⟨z1, z2, z3⟩ := hz h3
      by_cases h4 : t.kind = 4
      · have : ¬ (t.flds.length = 0 ∨ 65535 < t.flds.length) := fun h => c4 ⟨h4, h⟩
        exact .inr (.inl ⟨h4, z1, z2, z3, by omega, fun i hi => by have := hin i hi; omega⟩)
      · exact .inr (.inr ⟨by omega, by omega, z1, z2, z3, hfl h4⟩)
theorem typesE_read {n : Int} (hn : n ≤ 65535) : ∀ (l prev : List Ty) (d : List Int), d.length + l.length ≤ 65535 → typesE n prev d l = 0 → ∀ x ∈ l, TyGood x
  | [], _, _, _, _ => fun x h => absurd h (by simp)
  | t :: r, prev, d, hd, h => by
    rw [typesE] at h
    simp only [List.length_cons] at hd
    by_cases h0 : (tyE prev d n t).1 = 0
    · rw [if_pos h0] at h
      intro x hx
      rcases List.mem_cons.1 hx with rfl | hx
      · exact tyE_read hn (by omega) h0
      · exact typesE_read hn r _ _ (by simp only [List.length_append, List.length_cons, List.length_nil]; omega) h x hx
    · rw [if_neg h0] at h
      exact absurd h h0
end Go.Proofs.YtbnljlpefpllcaaGreatDoor
namespace Go.Proofs.YtbnljlpefpllcaaGreatDoor
open Go Go.RowKit
/-- b is reached from a along the pairs. -/
inductive Rch (pairs : List (Int × Int)) : Int → Int → Prop
  | refl (a : Int) : Rch pairs a a
  | step {a x y : Int} : Rch pairs a x → (x, y) ∈ pairs → Rch pairs a y
theorem Rch.trans {pairs : List (Int × Int)} {a b c : Int} (h : Rch pairs a b) (h2 : Rch pairs b c) : Rch pairs a c := by
  induction h2 with
  | refl => exact h
  | step _ hp ih => exact .step ih hp
theorem Rch.one {pairs : List (Int × Int)} {x y : Int} (h : (x, y) ∈ pairs) : Rch pairs x y := .step (.refl x) h
/-- What is closed under the pairs holds all that is reached. -/
theorem Rch.closed {pairs : List (Int × Int)} {S : Int → Prop} (hc : ∀ x y, S x → (x, y) ∈ pairs → S y) {a b : Int} (h : Rch pairs a b) (ha : S a) : S b := by
  induction h with
  | refl => exact ha
  | step _ hp ih => exact hc _ _ ih hp
theorem nodup_len : ∀ (n : Nat) (l : List Int), l.Nodup → (∀ x ∈ l, 0 ≤ x ∧ x < n) → l.length ≤ n
  | 0, l, _, h => by
    cases l with
    | nil => simp
    | cons x r => have := h x (by simp); omega
  | n + 1, l, hn, h => by
    have h1 := nodup_len n (l.erase (n : Int)) (hn.erase _) (fun x hx => by
      have hm := (hn.mem_erase_iff).1 hx
      have := h x hm.2
      have := hm.1
      omega)
    rw [List.length_erase] at h1
    split at h1 <;> omega
theorem nextR_spec (pairs : List (Int × Int)) (x : Int) : ∀ (set : List Int), ∃ new, nextR pairs x set = set ++ new ∧ (∀ y ∈ new, (x, y) ∈ pairs) ∧ (set.Nodup → (set ++ new).Nodup) ∧ ∀ y, (x, y) ∈ pairs → y ∈ set ++ new := by
  unfold nextR
  induction pairs with
  | nil => exact fun set => ⟨[], by simp, by simp, by simp, by simp⟩
  | cons p r ih =>
    intro set
    obtain ⟨p1, p2⟩ := p
    rw [List.foldl_cons]
    by_cases hp : p1 = x ∧ p2 ∉ set
    · rw [if_pos hp]
      obtain ⟨new, h1, h2, h3, h4⟩ := ih (set ++ [p2])
      refine ⟨p2 :: new, by rw [h1]; simp, ?_, ?_, ?_⟩
      · intro y hy
        rcases List.mem_cons.1 hy with rfl | hy
        · rw [← hp.1]; exact List.mem_cons_self
        · exact List.mem_cons_of_mem _ (h2 y hy)
      · intro hn
        have : (set ++ [p2]).Nodup := by
          rw [List.nodup_append]
          refine ⟨hn, by simp, fun a ha b hb => ?_⟩
          rw [List.mem_singleton] at hb
          subst hb
          exact fun e => hp.2 (e ▸ ha)
        have := h3 this
        simpa using this
      · intro y hy
        rcases List.mem_cons.1 hy with he | hy
        · injection he with _ he
          subst he
          simp
        · have := h4 y hy
          simpa using this
    · rw [if_neg hp]
      obtain ⟨new, h1, h2, h3, h4⟩ := ih set
      refine ⟨new, h1, fun y hy => List.mem_cons_of_mem _ (h2 y hy), h3, fun y hy => ?_⟩
      rcases List.mem_cons.1 hy with he | hy
      · injection he with e1 e2
        subst e1 e2
        by_cases hm : y ∈ set
        · exact List.mem_append_left _ hm
        · exact absurd ⟨rfl, hm⟩ hp
      · exact h4 y hy
theorem outF_spec {pairs : List (Int × Int)} {n : Nat} (hr : ∀ p ∈ pairs, 0 ≤ p.1 ∧ p.1 < (n : Int) ∧ 0 ≤ p.2 ∧ p.2 < (n : Int)) (b : Int) : ∀ (f : Nat) (set : List Int) (i : Nat), (∀ x ∈ set, 0 ≤ x ∧ x < (n : Int)) → set.Nodup → i ≤ set.length → n < f + i →
    (∀ j x y, j < i → set[j]? = some x → (x, y) ∈ pairs → y ∈ set) → (∀ j x, j < i → set[j]? = some x → x ≠ b) → (outF pairs b f set i = true ↔ ∃ z ∈ set, Rch pairs z b)
  | 0, set, i, h1, h2, h3, h4, _, _ => by
    have := nodup_len n set h2 h1
    omega
  | f + 1, set, i, h1, h2, h3, h4, h5, h6 => by
    rw [outF]
    cases hx : set[i]? with
    | none =>
      have hi : set.length ≤ i := by simpa using hx
      constructor
      · intro h; cases h
      · rintro ⟨z, hz, hzb⟩
        have hb : b ∈ set := Rch.closed (S := fun x => x ∈ set) (fun x y hxm hp => by
          obtain ⟨j, hj, he⟩ := List.mem_iff_getElem.1 hxm
          exact h5 j x y (by omega) (by rw [List.getElem?_eq_getElem hj, he]) hp) hzb hz
        obtain ⟨j, hj, he⟩ := List.mem_iff_getElem.1 hb
        exact absurd rfl (h6 j b (by omega) (by rw [List.getElem?_eq_getElem hj, he]))
    | some x =>
      have hxm : x ∈ set := List.mem_of_getElem? hx
      simp only
      by_cases hxb : x = b
      · rw [if_pos hxb]
        subst hxb
        exact ⟨fun _ => ⟨x, hxm, .refl x⟩, fun _ => rfl⟩
      · rw [if_neg hxb]
        obtain ⟨new, n1, n2, n3, n4⟩ := nextR_spec pairs x set
        rw [n1]
        have hi : i < set.length := (List.getElem?_eq_some_iff.1 hx).1
        have hold : ∀ j u, j < set.length → ((set ++ new)[j]? = some u ↔ set[j]? = some u) := fun j u hj => by rw [List.getElem?_append_left hj]
        have g1 : ∀ y ∈ set ++ new, 0 ≤ y ∧ y < (n : Int) := fun y hy => by
          rcases List.mem_append.1 hy with hy | hy
          · exact h1 y hy
          · have := hr _ (n2 y hy)
            exact ⟨this.2.2.1, this.2.2.2⟩
        have g2 : ∀ j u y, j < i + 1 → (set ++ new)[j]? = some u → (u, y) ∈ pairs → y ∈ set ++ new := by
          intro j u y hj hu hp
          rw [hold j u (by omega)] at hu
          rcases Nat.lt_or_ge j i with hji | hji
          · exact List.mem_append_left _ (h5 j u y hji hu hp)
          · have : j = i := by omega
            subst this
            rw [hx] at hu
            injection hu with hu
            subst hu
            exact n4 y hp
        have g3 : ∀ j u, j < i + 1 → (set ++ new)[j]? = some u → u ≠ b := by
          intro j u hj hu
          rw [hold j u (by omega)] at hu
          rcases Nat.lt_or_ge j i with hji | hji
          · exact h6 j u hji hu
          · have : j = i := by omega
            subst this
            rw [hx] at hu
            injection hu with hu
            subst hu
            exact hxb
        rw [outF_spec hr b f (set ++ new) (i + 1) g1 (n3 h2) (by rw [List.length_append]; omega) (by omega) g2 g3]
        constructor
        · rintro ⟨z, hz, hzb⟩
          rcases List.mem_append.1 hz with hz | hz
          · exact ⟨z, hz, hzb⟩
          · exact ⟨x, hxm, (Rch.one (n2 z hz)).trans hzb⟩
        · rintro ⟨z, hz, hzb⟩
          exact ⟨z, List.mem_append_left _ hz, hzb⟩
theorem outB_iff {pairs : List (Int × Int)} {n : Nat} (hr : ∀ p ∈ pairs, 0 ≤ p.1 ∧ p.1 < (n : Int) ∧ 0 ≤ p.2 ∧ p.2 < (n : Int)) {a b : Int} (ha : 0 ≤ a) (ha2 : a < n) (hb : 0 ≤ b) (hb2 : b < n) :
    outB pairs n a b = true ↔ Rch pairs a b := by
  unfold outB
  rw [if_neg (by omega)]
  rw [outF_spec hr b _ [a] 0 (by simp; omega) (by simp) (by simp) (by simp) (by intro j x y hj; omega) (by intro j x hj; omega)]
  simp
end Go.Proofs.YtbnljlpefpllcaaGreatDoor
namespace Go.Proofs.YtbnljlpefpllcaaGreatDoor
open Go Go.RowKit Go.Maps
set_option maxRecDepth 100000 in
set_option maxHeartbeats 4000000 in
theorem has_any (r : Nat) (n a : Int) (w : World) (x0 : w.cell? ⟨r, 0, none⟩ = some (.int .i64 n)) :
    Calls Tryz.prog 229 #[.pointer (some ⟨r, 0, none⟩), .int .i64 a] w fun e' w' => e' = .returned (.bool (decide (0 ≤ a) && decide (a < n))) ∧ w' = w := by
  obtain ⟨q, hq⟩ : ∃ q, (decide (0 ≤ a) && decide (a < n)) = q := ⟨_, rfl⟩
  rw [hq]
  have HQ := Lib.hid hq
  clear hq
  go_enter Tryz.func229, Tryz.ntmps229
  go_wp2_with fail
  all_goals
    go_ret
    refine ⟨?_, rfl⟩
    rw [← HQ.out]
    first
      | (simp_all; done)
      | (simp_all; omega)
/-- The state of the search: sl is seen, qs is still to be looked at, x is being looked at, up to its k-th. -/
structure Bfs (pairs : List (Int × Int)) (n : Nat) (a b : Int) (sl qs : List Int) (ex : Int → Prop) : Prop where
  nd : sl.Nodup
  rng : ∀ x ∈ sl, 0 ≤ x ∧ x < (n : Int)
  rch : ∀ x ∈ sl, Rch pairs a x
  sub : ∀ x ∈ qs, x ∈ sl
  cls : ∀ x ∈ sl, x ∉ qs → ¬ ex x → ∀ y, (x, y) ∈ pairs → y ∈ sl
  tgt : b ∈ sl → b = a
  hd : a ∈ sl
theorem Bfs.start {pairs : List (Int × Int)} {n : Nat} {a b : Int} (h0 : 0 ≤ a) (h1 : a < n) : Bfs pairs n a b [a] [a] (fun _ => False) :=
  ⟨by simp, by simp; omega, fun x hx => by rw [List.mem_singleton] at hx; subst hx; exact .refl x, fun x hx => hx, fun x hx hq => absurd hx hq, fun h => by simpa using h, by simp⟩
theorem Bfs.pop {pairs : List (Int × Int)} {n : Nat} {a b x : Int} {sl qs : List Int} (h : Bfs pairs n a b sl (x :: qs) (fun _ => False)) : Bfs pairs n a b sl qs (fun u => u = x) :=
  ⟨h.nd, h.rng, h.rch, fun y hy => h.sub y (by simp [hy]), fun y hy hq hne => h.cls y hy (by simp only [List.mem_cons, not_or]; exact ⟨hne, hq⟩) (fun f => f), h.tgt, h.hd⟩
theorem Bfs.push {pairs : List (Int × Int)} {n : Nat} {a b x y : Int} {sl qs : List Int} (h : Bfs pairs n a b sl qs (fun u => u = x)) (hx : x ∈ sl) (hr : ∀ p ∈ pairs, 0 ≤ p.1 ∧ p.1 < (n : Int) ∧ 0 ≤ p.2 ∧ p.2 < (n : Int)) (hp : (x, y) ∈ pairs) (hy : y ∉ sl) (hb : y ≠ b) :
    Bfs pairs n a b (y :: sl) (qs ++ [y]) (fun u => u = x) := by
  refine ⟨List.nodup_cons.2 ⟨hy, h.nd⟩, ?_, ?_, ?_, ?_, ?_, by simp [h.hd]⟩
  · intro u hu
    rcases List.mem_cons.1 hu with rfl | hu
    · have := hr _ hp; exact ⟨this.2.2.1, this.2.2.2⟩
    · exact h.rng u hu
  · intro u hu
    rcases List.mem_cons.1 hu with rfl | hu
    · exact .step (h.rch x hx) hp
    · exact h.rch u hu
  · intro u hu
    rcases List.mem_append.1 hu with hu | hu
    · exact List.mem_cons_of_mem _ (h.sub u hu)
    · rw [List.mem_singleton] at hu; subst hu; simp
  · intro u hu hq hne z hz
    simp only [List.mem_append, List.mem_singleton, not_or] at hq
    rcases List.mem_cons.1 hu with rfl | hu
    · exact absurd rfl hq.2
    · exact List.mem_cons_of_mem _ (h.cls u hu hq.1 hne z hz)
  · intro hbs
    rcases List.mem_cons.1 hbs with e | hbs
    · exact absurd e.symm hb
    · exact h.tgt hbs
theorem Bfs.close {pairs : List (Int × Int)} {n : Nat} {a b x : Int} {sl qs : List Int} (h : Bfs pairs n a b sl qs (fun u => u = x)) (hx : ∀ y, (x, y) ∈ pairs → y ∈ sl) : Bfs pairs n a b sl qs (fun _ => False) :=
  ⟨h.nd, h.rng, h.rch, h.sub, fun u hu hq _ y hy => by
    by_cases e : u = x
    · subst e; exact hx y hy
    · exact h.cls u hu hq e y hy, h.tgt, h.hd⟩
theorem Bfs.done {pairs : List (Int × Int)} {n : Nat} {a b : Int} {sl : List Int} (h : Bfs pairs n a b sl [] (fun _ => False)) : b ∈ sl ↔ Rch pairs a b :=
  ⟨h.rch b, fun hr => hr.closed (S := fun u => u ∈ sl) (fun x y hx hp => h.cls x hx (by simp) (fun f => f) y hp) h.hd⟩
theorem Bfs.len {pairs : List (Int × Int)} {n : Nat} {a b : Int} {sl qs : List Int} {ex : Int → Prop} (h : Bfs pairs n a b sl qs ex) : sl.length ≤ n := nodup_len n sl h.nd h.rng
theorem relL_mem {pairs : List (Int × Int)} {x y : Int} : y ∈ relL pairs false x ↔ (x, y) ∈ pairs := by
  simp only [relL, Bool.false_eq_true, if_false, List.mem_map, List.mem_filter, decide_eq_true_eq]
  constructor
  · rintro ⟨⟨p, q⟩, ⟨h1, h2⟩, h3⟩
    simp only at h2 h3
    subst h2 h3
    exact h1
  · intro h
    exact ⟨(x, y), ⟨h, rfl⟩, rfl⟩
def inF (sl : List Int) : Int → Bool := fun x => decide (x ∈ sl)
def i64F (g : Int → Bool) : Lit → Bool
  | .int .i64 n => g n
  | _ => false
theorem inF_new (sl : List Int) (y : Int) : i64F (inF (y :: sl)) (.int .i64 y) = true := by simp [i64F, inF]
theorem inF_old (sl : List Int) (y : Int) : ∀ k, k ≠ Lit.int .i64 y → i64F (inF (y :: sl)) k = i64F (inF sl) k := by
  intro k hk
  cases k <;> try rfl
  rename_i q n
  cases q <;> try rfl
  have : n ≠ y := fun e => hk (by rw [e])
  simp [i64F, inF, this]
theorem inF_nil : i64F (inF []) = fun _ => false := by
  funext k
  cases k <;> try rfl
  rename_i q n
  cases q <;> rfl
theorem zeroB3 : ∀ w, (zeroValue 4).run Tryz.prog w = .ok (.bool false) w := Tryz.zeroValue4
set_option maxRecDepth 100000 in
set_option maxHeartbeats 8000000 in
theorem outl_any (pairs : List (Int × Int)) (n : Nat) (a b : Int) (r : Nat) (w : World) (hR : Rel3 w r n (relL pairs)) (hr : ∀ p ∈ pairs, 0 ≤ p.1 ∧ p.1 < (n : Int) ∧ 0 ≤ p.2 ∧ p.2 < (n : Int)) (hn : n ≤ 65536) (hl : pairs.length ≤ 65535) :
    Calls Tryz.prog 214 #[.pointer (some ⟨r, 0, none⟩), .int .i64 a, .int .i64 b] w fun e' w' => e' = .returned (.bool (outB pairs n a b)) ∧ Below w.heap.size w w' := by
  obtain ⟨M, hM, hLK⟩ := hR
  obtain ⟨x0, x1, x2⟩ := three_get hM
  have HX0 := Lib.hid x0
  by_cases hab : 0 ≤ a ∧ a < (n : Int) ∧ 0 ≤ b ∧ b < (n : Int)
  case neg =>
    have HF : Hid (outB pairs n a b = false) := Lib.hid (by unfold outB; rw [if_pos (by omega)])
    rw [HF.out]
    clear hLK hM
    by_cases ha : 0 ≤ a ∧ a < (n : Int)
    · have e1 : (decide (0 ≤ a) && decide (a < (n : Int))) = true := by simp [ha]
      have e2 : (decide (0 ≤ b) && decide (b < (n : Int))) = false := by simp; omega
      have E1 := Lib.hid e1
      have E2 := Lib.hid e2
      clear e1 e2 ha hab
      go_enter Tryz.func214, Tryz.ntmps214
      go_wp2_with fail
      go_step3
      go_wp2_with (go_at_call 229; refine (has_any r n _ w HX0.out).mono ?_; rintro e' w1 ⟨rfl, hw⟩; obtain rfl := hw.symm; first | rw [E1.out] | rw [E2.out])
      rw [Exit.noGoto_ret]
      go_ret
      exact ⟨rfl, Below.refl _ _⟩
    · have e1 : (decide (0 ≤ a) && decide (a < (n : Int))) = false := by simp; omega
      have E1 := Lib.hid e1
      clear e1 ha hab
      go_enter Tryz.func214, Tryz.ntmps214
      go_wp2_with fail
      go_step3
      go_wp2_with (go_at_call 229; refine (has_any r n _ w HX0.out).mono ?_; rintro e' w1 ⟨rfl, hw⟩; obtain rfl := hw.symm; rw [E1.out])
      rw [Exit.noGoto_ret]
      go_ret
      exact ⟨rfl, Below.refl _ _⟩
  case pos =>
    obtain ⟨ha0, ha1, hb0, hb1⟩ := hab
    have HQ := Lib.hid (outB_iff hr ha0 ha1 hb0 hb1)
    generalize outB pairs n a b = q at HQ ⊢
    have e1 : (decide (0 ≤ a) && decide (a < (n : Int))) = true := by simp [ha0, ha1]
    have e2 : (decide (0 ≤ b) && decide (b < (n : Int))) = true := by simp [hb0, hb1]
    have E1 := Lib.hid e1
    have E2 := Lib.hid e2
    have HLK := Lib.hid hLK
    have HM := Lib.hid hM
    have keya := key3 (a := a) ha0 (by omega)
    obtain ⟨i0, hi, hz0, hz1, hz2⟩ := info_parts infoInt
    have hmm := @run_makeMap Tryz.prog
    clear e1 e2 hLK hM
    have hmade := OwnB.made w Tryz.prog 3 4
    rw [← inF_nil] at hmade
    obtain ⟨w0, hrun0, hown0, hg0⟩ := hmade.store law3 Tryz.underlying284 Tryz.underlying4 (by unfold maxLen; omega) keya trivial true (inF_new [] a) (inF_old [] a)
    have hB0 : Below w.heap.size w w0 := ((Below.refl _ _).alloc (Nat.le_refl _) _).trans (below_grown hg0 (Nat.le_refl _) (by simp))
    have hs0 : w.heap.size + 1 ≤ w0.heap.size := by have := hg0.size; simpa using this
    have HOWN0 := Lib.hid hown0
    have HB0 := Lib.hid hB0
    clear hmade hown0 hg0 hB0
    go_enter Tryz.func214, Tryz.ntmps214
    go_wp2_with fail
    go_step3
    go_wp2_with (first
      | (go_at_call 229; refine (has_any r n _ w HX0.out).mono ?_; rintro e' w1 ⟨rfl, hw⟩; obtain rfl := hw.symm; first | rw [E1.out] | rw [E2.out])
      | fail)
    go_step3
    go_wp2_with fail
    have keyb := key3 (a := b) hb0 (by omega)
    have HBF0 := Lib.hid (Bfs.start (pairs := pairs) (b := b) ha0 ha1)
    have HQ0 := Lib.hid (Qu.one w0 (w.heap.size + 1) 3 (.int .i64 a) w0.heap.size rfl hs0)
    go_loopg [8] (2 * (n - 1) + 1) (fun gk v wr => ∃ (sl qs : List Int), gk = 2 * (n - sl.length) + qs.length ∧ gk ≤ 2 * n + 1 ∧ Hid (Bfs pairs n a b sl qs (fun _ => False)) ∧ Hid (Qu wr (w.heap.size + 1) 3 v (qs.map (Value.int .i64))) ∧ Hid (OwnB Tryz.prog 3 4 wr w.heap.size sl.length (i64F (inF sl))) ∧ Hid (Below w.heap.size w wr) ∧ w.heap.size + 1 ≤ wr.heap.size)
    case atStart => exact ⟨[a], [a], by simp, by omega, HBF0, HQ0, Lib.hid (HOWN0.out.alloc _), Lib.hid (HB0.out.alloc HB0.out.size _), by simp; omega⟩
    case round =>
      clear HBF0 HQ0 HOWN0 HB0 hrun0
      obtain ⟨sl, qs, hgk, hgk2, HBF, HQU, HOWN, HBL, hsz⟩ := hrel
      cases qs with
      | nil =>
        obtain ⟨A, c, rfl, hc1, hc2⟩ := HQU.out.slice
        have HFIN : Hid (decide (b ∈ sl) = q) := Lib.hid (by
          rw [Bool.eq_iff_iff, decide_eq_true_eq, HBF.out.done]
          exact HQ.out.symm)
        have hlk := HOWN.out.look law3 Tryz.underlying284 Tryz.underlying4 (zeroB3 _) keyb
        simp only [i64F, inF] at hlk
        rw [HFIN.out] at hlk
        simp only [List.map_nil, List.length_nil] at hc1 hc2 ⊢
        clear HQU HOWN HBF
        go_wp2_with fail
        rw [Exit.noGoto_ret]
        go_ret
        exact ⟨rfl, HBL.out⟩
      | cons x qs =>
        obtain ⟨A, c, rfl, hc1, hc2⟩ := HQU.out.slice
        obtain ⟨g, p, rfl, hlen, hle, hbig, y0, hq2⟩ := HQU.out.tail
        have hbf := HBF.out.pop
        have hx := HBF.out.sub x (by simp)
        have hxr := HBF.out.rng x hx
        have hlen0 := HBF.out.len
        have keyx := key3 (a := x) hxr.1 (by omega)
        obtain ⟨A2, c2, hlk, hsl⟩ := HLK.out false x hxr.1 (by omega)
        have hlkr := hlk wr HBL.out
        have hys := Lib.hid (relL_len pairs false x)
        have HMEM := Lib.hid (fun y => @relL_mem pairs x y)
        have hle2 := hsl.le
        have hbig2 := hsl.big
        have HSL := Lib.hid hsl
        have HBF2 := Lib.hid hbf
        have HXM := Lib.hid hx
        have hcut := run_cut (P := Tryz.prog) 51 3 (some ⟨g, p, none⟩) (qs.length + 1) c 1 1 Tryz.underlying51 Tryz.sizeOf3 (by omega)
        simp only [List.map_cons, List.length_cons, List.length_map] at hq2 hle hgk hc1 ⊢
        have HQ2 : Hid (Qu wr (w.heap.size + 1) 3 (.slice (cutA (some ⟨g, p, none⟩) c 1 1) (qs.length + 1 - 1) (c - 1)) (qs.map (Value.int .i64))) := Lib.hid hq2
        obtain ⟨v2, hv2⟩ : ∃ v2, Value.slice (cutA (some ⟨g, p, none⟩) c 1 1) (qs.length + 1 - 1) (c - 1) = v2 := ⟨_, rfl⟩
        rw [hv2] at HQ2 hcut
        have hidx0 : ∀ (W : World) (A0 : Option Addr), A0 = some ⟨g, p, none⟩ → (Instr.indexAt 51 (.slice A0 (qs.length + 1) c) (.int .i64 0)).run Tryz.prog W = .ok (.pointer (some ⟨g, p, none⟩)) W := fun W A0 h => by
          subst h
          go_simp
        obtain ⟨AA, hAA⟩ : ∃ AA, some (⟨g, p, none⟩ : Addr) = AA := ⟨_, rfl⟩
        have hidx := fun W => hidx0 W AA hAA.symm
        rw [hAA] at hcut ⊢
        have hcut1 : ∀ W, (Instr.slice 51 (.slice AA (qs.length + 1) c) (some (.int .i64 1)) none none).run Tryz.prog W = .ok v2 W := fun W => hcut W
        clear hAA hidx0 hcut
        have z1 : wr.cell? ⟨r, 1, none⟩ = some (.map (some (M false))) := (HBL.out.cell (p := ⟨r, 1, none⟩) (World.block_lt_of_cell? _ _ x1)).trans x1
        clear hbf hx hxr hlk hsl hq2 HBF hv2
        generalize relL pairs false x = ys at *
        go_wp2_with fail
        go_loopg [8, 42] ys.length (fun gj v i wr2 => ∃ (sl2 qs2 : List Int) (k : Nat), gj = ys.length - k ∧ k ≤ ys.length ∧ i = .int .i64 k ∧ 2 * (n - sl2.length) + qs2.length ≤ 2 * (n - sl.length) + qs.length ∧ Hid (Bfs pairs n a b sl2 qs2 (fun u => u = x)) ∧ Hid (x ∈ sl2) ∧ Hid (Qu wr2 (w.heap.size + 1) 3 v (qs2.map (Value.int .i64))) ∧ Hid (OwnB Tryz.prog 3 4 wr2 w.heap.size sl2.length (i64F (inF sl2))) ∧ Hid (Below w.heap.size w wr2) ∧ w.heap.size + 1 ≤ wr2.heap.size ∧ Hid (∀ j y, j < k → ys[j]? = some y → y ∈ sl2))
        case atStart => exact ⟨sl, qs, 0, by omega, by omega, rfl, Nat.le_refl _, HBF2, HXM, HQ2, HOWN, HBL, hsz, Lib.hid (fun j y hj => absurd hj (by omega))⟩
        case round =>
          clear HBF2 HXM HQ2 HOWN HBL hcut1 hlkr z1 y0 hidx
          obtain ⟨sl2, qs2, k, hgj, hk, rfl, hms, HBF, HXM, HQU, HOWN, HBL, hsz2, HDN⟩ := hrel
          by_cases hlt : k < ys.length
          · have hb2 := HBL.out
            obtain ⟨g2, o2, rfl, hb2', hy⟩ := (HSL.out.keep RInt.keeps hb2).sl.at_ hlt
            have HXY := Lib.hid ((HMEM.out ys[k]).1 (List.getElem_mem hlt))
            have HDN2 : Hid (∀ sl3 : List Int, (∀ u ∈ sl2, u ∈ sl3) → ys[k] ∈ sl3 → ∀ j y, j < k + 1 → ys[j]? = some y → y ∈ sl3) := Lib.hid (fun sl3 h1 h2 j y hj hyj => by
              rcases Nat.lt_or_ge j k with hjk | hjk
              · exact h1 y (HDN.out j y hjk hyj)
              · have : j = k := by omega
                rw [this, List.getElem?_eq_getElem hlt] at hyj
                injection hyj with hyj
                rw [← hyj]
                exact h2)
            obtain ⟨y, hyy⟩ : ∃ y, ys[k] = y := ⟨_, rfl⟩
            rw [hyy] at hy HXY HDN2
            have y0 : wr.cell? ⟨g2, o2 + k, none⟩ = some (.int .i64 y) := by simpa [RInt] using hy
            have hyr := hr _ HXY.out
            simp only at hyr
            have keyy := key3 (a := y) hyr.2.2.1 (by omega)
            have hown := HOWN.out
            have hlen2 := HBF.out.len
            clear hy hyy hyr HDN
            by_cases hyb : y = b
            · have HF : Hid (q = true) := Lib.hid (HQ.out.2 (hyb ▸ Rch.step (HBF.out.rch x HXM.out) HXY.out))
              subst hyb
              clear HQU HBF HOWN
              go_wp2_with (first
                | (at_mapUpdate; refine wpList_storeB _ rfl _ _ _ 284 rfl 3 4 law3 Tryz.underlying284 Tryz.underlying4 _ _ _ rfl hown (by unfold maxLen; omega) _ _ _ rfl rfl keyy trivial _ (inF_new sl2 y) (inF_old sl2 y) ?_; intro w3 hown3 hg3)
                | (at_lookup; refine wpList_lookB _ rfl _ _ 284 rfl 3 4 law3 Tryz.underlying284 Tryz.underlying4 (zeroB3 _) _ _ _ rfl hown3 _ _ rfl keyy ?_; rw [inF_new]))
              rw [Exit.noGoto_ret]
              go_ret
              exact ⟨by rw [HF.out]; rfl, HBL.out.trans (below_grown hg3 (Nat.le_refl _) (by omega) |>.mono (Nat.le_refl _))⟩
            · have e3 : (y == b) = false := by simp [hyb]
              have HYB := Lib.hid hyb
              clear hyb
              by_cases hm : y ∈ sl2
              · have HM2 := Lib.hid hm
                have HFB : Hid (i64F (inF sl2) (.int .i64 y) = true) := Lib.hid (by simp [i64F, inF, hm])
                clear hm
                go_wp2_with (at_lookup; refine wpList_lookB _ rfl _ _ 284 rfl 3 4 law3 Tryz.underlying284 Tryz.underlying4 (zeroB3 _) _ _ _ rfl hown _ _ rfl keyy ?_; rw [HFB.out])
                go_roundg (ys.length - (k + 1))
                case measure => omega
                case rel => exact ⟨sl2, qs2, k + 1, rfl, by omega, by go_num, hms, HBF, HXM, HQU, HOWN, HBL, hsz2, Lib.hid (HDN2.out sl2 (fun u h => h) HM2.out)⟩
              · have HM2 := Lib.hid hm
                have HFB : Hid (i64F (inF sl2) (.int .i64 y) = false) := Lib.hid (by simp [i64F, inF, hm])
                have HBF3 := Lib.hid (HBF.out.push HXM.out hr HXY.out hm HYB.out)
                have hlen3 := HBF3.out.len
                simp only [List.length_cons] at hlen3
                clear hm
                go_wp2_with (first
                  | (at_lookup; refine wpList_lookB _ rfl _ _ 284 rfl 3 4 law3 Tryz.underlying284 Tryz.underlying4 (zeroB3 _) _ _ _ rfl hown _ _ rfl keyy ?_; rw [HFB.out])
                  | (at_mapUpdate; refine wpList_storeB _ rfl _ _ _ 284 rfl 3 4 law3 Tryz.underlying284 Tryz.underlying4 _ _ _ rfl hown (by unfold maxLen; omega) _ _ _ rfl rfl keyy trivial _ (inF_new sl2 y) (inF_old sl2 y) ?_; intro w3 hown3 hg3)
                  | (at_builtin; refine wpList_appendQ _ rfl _ _ 51 rfl (w.heap.size + 1) 3 i0 (.int .i64 0) Tryz.underlying51 hi hz0 hz1 (by omega) rfl _ _ rfl ((HQU.out.block (fun k hk => hg3.block k (HQU.out.lt k hk).2 (by have := (HQU.out.lt k hk).1; simp; omega))).below ((Below.refl _ _).alloc (Nat.le_refl _) _)) ⟨_, 0, none⟩ 1 (.int .i64 y) rfl (cell_new_at w3 _ _ _ rfl 0 _ rfl) rfl (by rw [List.length_map]; omega) (by have := hg3.size; simp; omega) ?_; intro v4 w4 hq4 hg4))
                have hs3 := hg3.size
                have hs4 := hg4.size
                simp only [World.size_alloc] at hs4
                have hrow : ∀ j, u8.ownBlock = some j → w.heap.size + 1 ≤ j := fun j hj => (HQU.out.lt j hj).1
                have hB3 : Below w.heap.size w (w3.alloc (.cells #[.int .i64 y] 3)) := (HBL.out.trans (below_grown hg3 (Nat.le_refl _) (by omega))).alloc (by omega) _
                have HB4 := Lib.hid (hB3.grown hg4 (by simp; omega) (fun j hj => by have := hrow j hj; omega))
                have HO4 := Lib.hid ((hown3.alloc _).block (hg4.block _ (by simp; omega) (fun e => by have := hrow _ e.symm; omega)))
                go_roundg (ys.length - (k + 1))
                case measure => omega
                case rel => exact ⟨y :: sl2, qs2 ++ [y], k + 1, rfl, by omega, by go_num, by simp only [List.length_cons, List.length_append, List.length_nil]; omega, HBF3, Lib.hid (List.mem_cons_of_mem _ HXM.out), Lib.hid (by rw [List.map_append]; exact hq4), HO4, HB4, by omega, Lib.hid (HDN2.out (y :: sl2) (fun u h => List.mem_cons_of_mem _ h) (by simp))⟩
          · have HCL := Lib.hid (HBF.out.close (fun y hy => by
              obtain ⟨j, hj, he⟩ := List.mem_iff_getElem.1 ((HMEM.out y).2 hy)
              exact HDN.out j y (by omega) (by rw [List.getElem?_eq_getElem hj, he])))
            clear HBF HDN
            go_wp2_with fail
            go_roundg (2 * (n - sl2.length) + qs2.length)
            case measure => omega
            case rel => exact ⟨sl2, qs2, rfl, by omega, HCL, HQU, HOWN, HBL, hsz2⟩
end Go.Proofs.YtbnljlpefpllcaaGreatDoor
namespace Go.Proofs.YtbnljlpefpllcaaGreatDoor
open Go Go.RowKit Go.Maps
/-- All parts of a type are covered. -/
def FineT (ts : List Ty) (sl : List Int) (x : Int) : Prop := 0 ≤ x ∧ ∀ (h : x.toNat < ts.length), ts[x.toNat].kind ≠ 3 → ∀ f ∈ ts[x.toNat].flds, CovT ts sl f
theorem FineT.mono {ts : List Ty} {sl sl' : List Int} {x : Int} (h : FineT ts sl x) (hs : ∀ y ∈ sl, y ∈ sl') : FineT ts sl' x :=
  ⟨h.1, fun hl hk f hf => (h.2 hl hk f hf).mono hs⟩
/-- The search went on from sl to sl'. -/
def NewT (ts : List Ty) (sl sl' : List Int) : Prop := (∀ x ∈ sl, x ∈ sl') ∧ ∀ x ∈ sl', x ∈ sl ∨ FineT ts sl' x
theorem NewT.refl (ts : List Ty) (sl : List Int) : NewT ts sl sl := ⟨fun _ h => h, fun _ h => Or.inl h⟩
theorem NewT.trans {ts : List Ty} {a b c : List Int} (h : NewT ts a b) (k : NewT ts b c) : NewT ts a c :=
  ⟨fun x hx => k.1 x (h.1 x hx), fun x hx => by
    rcases k.2 x hx with hb | hb
    · rcases h.2 x hb with ha | ha
      · exact Or.inl ha
      · exact Or.inr (ha.mono k.1)
    · exact Or.inr hb⟩
/-- A type was marked; then all its parts were found to be covered. -/
theorem NewT.mark {ts : List Ty} {a b : List Int} {i : Nat} (hi : i < ts.length) (h : NewT ts ((i : Int) :: a) b) (hf : ∀ f ∈ ts[i].flds, CovT ts b f) : NewT ts a b :=
  ⟨fun x hx => h.1 x (List.mem_cons_of_mem _ hx), fun x hx => by
    rcases h.2 x hx with ha | ha
    · rcases List.mem_cons.1 ha with rfl | ha
      · exact Or.inr ⟨by omega, fun _ _ f hff => hf f (by simpa using hff)⟩
      · exact Or.inl ha
    · exact Or.inr ha⟩
theorem new_copB {ts : List Ty} (hok : TyOk ts) {sl : List Int} (h : NewT ts [] sl) {i : Int} (hc : CovT ts sl i) : copB ts i = true :=
  cov_copB hok (fun x hx hl h0 hk f hf => by
    rcases h.2 x hx with hn | hn
    · exact absurd hn (by simp)
    · exact hn.2 hl hk f hf) (i.toNat + 1) i (by omega) hc
theorem grown_cell {w w' : World} {row : Option Nat} (hg : w.grownBy w' row) {p : Addr} {v : Value} (h : w.cell? p = some v) (hne : some p.block ≠ row) : w'.cell? p = some v :=
  (World.cell?_of_block (hg.block _ (World.block_lt_of_cell? _ _ h) hne)).trans h
theorem grown_of_below {w w' : World} (h : Below w.heap.size w w') (row : Option Nat) : w.grownBy w' row :=
  ⟨h.os, h.tape, h.output, h.size, fun i hi _ => h.block i hi⟩
/-- Where the search's variables lie. -/
structure CopE where
  w0 : World
  A : Option Addr
  c : Nat
  pl : Nat
  ps : Nat
  pc : Nat
  M : Nat
structure CopE.Ok (E : CopE) (ts : List Ty) : Prop where
  ty : Slc 5 RTy E.w0 E.A E.c ts
  tyok : TyOk ts
  n : ts.length ≤ 65535
  M : E.w0.heap.size ≤ E.M
  l : E.M ≠ E.pl
  s : E.M ≠ E.ps
  c : E.M ≠ E.pc
structure CopE.St (E : CopE) (n : Nat) (W : World) (sl : List Int) (F : Value) : Prop where
  low : Below E.w0.heap.size E.w0 W
  l : W.cell? ⟨E.pl, 0, none⟩ = some (.slice E.A n E.c)
  s : W.cell? ⟨E.ps, 0, none⟩ = some (.map (some E.M))
  c : W.cell? ⟨E.pc, 0, none⟩ = some F
  own : OwnB Tryz.prog 3 4 W E.M sl.length (i64F (inF sl))
  nd : sl.Nodup
  rng : ∀ x ∈ sl, 0 ≤ x ∧ x < (n : Int)
theorem CopE.St.len {E : CopE} {n : Nat} {W : World} {sl : List Int} {F : Value} (h : E.St n W sl F) : sl.length ≤ n := nodup_len n sl h.nd h.rng
theorem CopE.St.keep {E : CopE} {n : Nat} {W W' : World} {sl : List Int} {F : Value} (h : E.St n W sl F) (hb : Below W.heap.size W W') : E.St n W' sl F :=
  ⟨h.low.trans (hb.mono h.low.size), cell_keep hb h.l, cell_keep hb h.s, cell_keep hb h.c, h.own.below hb, h.nd, h.rng⟩
theorem CopE.St.put {E : CopE} {ts : List Ty} {n : Nat} {W W' : World} {sl : List Int} {F : Value} (h : E.St n W sl F) (hE : E.Ok ts) {i : Int} (hi : i ∉ sl) (hr : 0 ≤ i ∧ i < (n : Int))
    (hown : OwnB Tryz.prog 3 4 W' E.M (sl.length + 1) (i64F (inF (i :: sl)))) (hg : W.grownBy W' (some E.M)) : E.St n W' (i :: sl) F := by
  have hc : ∀ (p : Nat) (v : Value), E.M ≠ p → W.cell? ⟨p, 0, none⟩ = some v → W'.cell? ⟨p, 0, none⟩ = some v := fun p v hne hv =>
    grown_cell hg hv (by simpa using (Ne.symm hne))
  refine ⟨h.low.trans (below_grown hg hE.M h.low.size), hc _ _ hE.l h.l, hc _ _ hE.s h.s, hc _ _ hE.c h.c, hown, List.nodup_cons.2 ⟨hi, h.nd⟩, fun x hx => ?_⟩
  rcases List.mem_cons.1 hx with rfl | hx
  · exact hr
  · exact h.rng x hx
/-- What one call of the search leaves, q: what it answers. -/
def CopE.Q (E : CopE) (ts : List Ty) (F : Value) (sl : List Int) (i : Int) (q : Bool) (W' : World) : Prop :=
  (q = true ∧ ∃ sl', NewT ts sl sl' ∧ CovT ts sl' i ∧ E.St ts.length W' sl' F) ∨ (q = false ∧ copB ts i = false ∧ Below E.w0.heap.size E.w0 W')
end Go.Proofs.YtbnljlpefpllcaaGreatDoor
