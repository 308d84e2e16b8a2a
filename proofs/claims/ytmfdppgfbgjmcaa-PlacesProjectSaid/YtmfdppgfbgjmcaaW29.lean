/-
  Walks: check of one type.
-/
import Derived.Test.YtmfdppgfbgjmcaaW17
import Derived.Test.YtmfdppgfbgjmcaaW18
import Derived.Deep.DeepCutAuto
namespace Go.Proofs.Ytmfdppgfbgjmcaa
open Go.RowKit Go.Shelf

/-- A type refers to types before number i. -/
def OkT (t : Ty) (i : Nat) : Prop := (t.kind = 3 → 0 ≤ t.elem ∧ t.elem < i) ∧ ∀ f ∈ t.flds, 0 ≤ f ∧ f < i

set_option maxRecDepth 100000 in
set_option maxHeartbeats 8000000 in
theorem check6_any (ts : List Ty) (ds : List Int) (i : Nat) (A B : Option Addr) (c d : Nat) (w : World) (hs : Slc 5 RTy w A c ts) (hd : Slc 1 RInt w B d ds) (hi : i < ts.length) (hdi : ds.length = i) :
    Calls Try.prog 36 #[.slice A ts.length c, .slice B i d, .int .i64 i, .int .i64 1000] w fun e' w' => (∃ q, e' = .returned (.int .i64 q) ∧ (q = 0 → OkT ts[i] i)) ∧ Below w.heap.size w w' := by
  have hle := hs.le
  have hbig := hs.big
  have hdle := hd.le
  rw [hdi] at hdle
  have hdbig := hd.big
  have hti : (ts.take i).length = i := by simp; omega
  have HF := Lib.hid (fun (t : Ty) (B' : Option Addr) (d' : Nat) (W : World) (hW : Below w.heap.size w W) (ht : Slc 1 RInt W B' d' t.flds) => find_any (ts.take i) t A B' c d' W ((hs.takeN i).keep RTy.keeps hW) ht)
  rw [hti] at HF
  obtain ⟨b1, o1, rfl, hb1, r0⟩ := hs.sl.at_ hi
  obtain ⟨b4, o4, hA3, hcell0⟩ : ∃ b4 o4, (0 < i → B = some ⟨b4, o4, none⟩ ∧ b4 < w.heap.size) ∧ ∀ f, f < i → ∃ y : Int, w.cell? ⟨b4, o4 + f, none⟩ = some (.int .i64 y) := by
    by_cases h0 : 0 < i
    · obtain ⟨b4, o4, hA4, hb4, hr4⟩ := hd.sl (by omega)
      refine ⟨b4, o4, fun _ => ⟨hA4, hb4⟩, fun f hf => ?_⟩
      have := hr4 f _ (List.getElem?_eq_getElem (show f < ds.length by omega))
      unfold RInt at this
      rw [Nat.mul_one] at this
      exact ⟨_, this⟩
    · exact ⟨0, 0, fun h => absurd h h0, fun f hf => by omega⟩
  have HA3 := Lib.hid hA3
  have HC := Lib.hid hcell0
  generalize ts[i] = t at *
  obtain ⟨r1, r2, r3, r4, A2, c2, r5, r6, r7, r8⟩ := r0
  have H8 := Lib.hid r8
  clear r8 hA3 hcell0 hd hs hti hdi
  by_cases hk0 : t.kind < 0
  · go_enter Try.func36, Try.ntmps36
    go_wp2
    (go_ret; exact ⟨⟨_, rfl, fun h => absurd h (by decide)⟩, by (repeat (first | exact Below.refl _ _ | assumption | refine Below.alloc ?_ (by first | omega | (simp; done) | (simp; omega)) _ | refine below_drewN ?_ _ | refine Below.drew ?_ | refine Below.setCell ?_ (by first | omega | (simp; done) | (simp; omega)) _))⟩)
  by_cases hk4 : 4 < t.kind
  · have hk1 : 0 ≤ t.kind := by omega
    go_enter Try.func36, Try.ntmps36
    go_wp2
    (go_ret; exact ⟨⟨_, rfl, fun h => absurd h (by decide)⟩, by (repeat (first | exact Below.refl _ _ | assumption | refine Below.alloc ?_ (by first | omega | (simp; done) | (simp; omega)) _ | refine below_drewN ?_ _ | refine Below.drew ?_ | refine Below.setCell ?_ (by first | omega | (simp; done) | (simp; omega)) _))⟩)
  have hk1 : 0 ≤ t.kind := by omega
  have hk5 : t.kind ≤ 4 := by omega
  clear hk0 hk4
  go_enter Try.func36, Try.ntmps36
  go_upto_region 1 with fail
  go_cut [9] (fun s9 wx => s9 = .pointer (some ⟨w.heap.size, 0, none⟩) ∧ (wx.cell? ⟨w.heap.size, 0, none⟩ = some (.int .i64 t.kind) ∧ wx.cell? ⟨w.heap.size, 1, none⟩ = some (.bool t.mu) ∧ wx.cell? ⟨w.heap.size, 2, none⟩ = some (.int .i64 t.reg) ∧ wx.cell? ⟨w.heap.size, 3, none⟩ = some (.int .i64 t.elem) ∧ wx.cell? ⟨w.heap.size, 4, none⟩ = some (.slice A2 t.flds.length c2)) ∧ Below w.heap.size w wx)
  case first =>
    go_wp2_with fail
    go_meet
    exact ⟨rfl, ⟨by go_simp, by go_simp, by go_simp, by go_simp, by go_simp⟩, by (repeat (first | exact Below.refl _ _ | assumption | refine Below.alloc ?_ (by first | omega | (simp; done) | (simp; omega)) _ | refine below_drewN ?_ _ | refine Below.drew ?_ | refine Below.setCell ?_ (by first | omega | (simp; done) | (simp; omega)) _))⟩
  case rest =>
  obtain ⟨rfl, ⟨z0, z1, z2, z3, z4⟩, hb⟩ := hcut
  obtain ⟨wr, rfl⟩ : ∃ wr : World, wr = wc := ⟨_, rfl⟩
  have HB := Lib.hid hb
  clear hb r1 r2 r3 r4 r5
  go_upto_region 4 with fail
  go_cut [51] (fun s51 wx => ∃ b, s51 = .bool b ∧ wr = wx)
  case first =>
    go_wp2_with fail
    all_goals (go_meet; exact ⟨_, rfl, rfl⟩)
  case rest =>
  obtain ⟨b, rfl, rfl⟩ := hcut
  cases b
  case true =>
    go_wp2_with fail
    (go_ret; exact ⟨⟨_, rfl, fun h => absurd h (by decide)⟩, HB.out⟩)
  case false =>
  go_upto_if 54 with fail
  go_cut [10] (fun s10 wx => (∃ y : Int, s10 = .int .i64 y) ∧ (t.kind = 3 → 0 ≤ t.elem ∧ t.elem < i) ∧ wr = wx)
  case first =>
    by_cases hk : t.kind = 3
    · have hk2 : (t.kind == 3) = true := by simp [hk]
      by_cases he : 0 ≤ t.elem ∧ t.elem < i
      · obtain ⟨f, hf⟩ := Int.eq_ofNat_of_zero_le he.1
        have hfi : f < i := by omega
        obtain ⟨y, hy⟩ := HC.out f hfi
        obtain ⟨hA, hbb0⟩ := HA3.out (by omega)
        replace hy := (HB.out.cell (p := ⟨b4, o4 + f, none⟩) hbb0).trans hy
        have he' := Lib.hid he
        subst hA
        rw [hf] at z3
        clear hf he HF HC HA3 H8
        go_wp2_with fail
        all_goals first
          | (go_ret; exact ⟨⟨_, rfl, fun h => absurd h (by decide)⟩, HB.out⟩)
          | (go_meet; exact ⟨⟨_, rfl⟩, fun _ => he'.out, rfl⟩)
      · clear HF HC HA3 H8
        go_wp2_with fail
        all_goals first
          | (go_ret; exact ⟨⟨_, rfl, fun h => absurd h (by decide)⟩, HB.out⟩)
          | (exfalso; omega)
    · have hk2 : (t.kind == 3) = false := by simp [hk]
      clear HF HC HA3 H8
      go_wp2_with fail
      go_meet
      exact ⟨⟨_, rfl⟩, fun h => absurd h hk, rfl⟩
  case rest =>
  obtain ⟨⟨y0, rfl⟩, hO, rfl⟩ := hcut
  have HO := Lib.hid hO
  clear hO
  go_wp2_with fail
  go_loop [10, 11] (fun a j => ∃ (y : Int) (m : Nat), m ≤ t.flds.length ∧ a = .int .i64 y ∧ j = .int .i64 m ∧ Hid (∀ j' (h : j' < t.flds.length), j' < m → 0 ≤ t.flds[j'] ∧ t.flds[j'] < i)) (fun _ j => t.flds.length - (intOf j).toNat)
  case atStart => exact ⟨_, 0, by omega, rfl, rfl, Lib.hid (fun j' _ h => absurd h (by omega))⟩
  case round =>
    obtain ⟨y1, m, hm, rfl, rfl, hall⟩ := hrel
    by_cases hlt3 : m < t.flds.length
    · obtain ⟨b3, o3, rfl, hb3, hr3⟩ := H8.out.at_ hlt3
      unfold RInt at hr3
      rw [Nat.mul_one] at hr3
      replace hr3 := (HB.out.cell (p := ⟨b3, o3 + m, none⟩) hb3).trans hr3
      by_cases hz : 0 ≤ t.flds[m] ∧ t.flds[m] < i
      · obtain ⟨f2, hf2⟩ := Int.eq_ofNat_of_zero_le hz.1
        have hall2 := Lib.hid (fun j' (h : j' < t.flds.length) (h2 : j' < m + 1) => if h3 : j' < m then hall.out j' h h3 else (show 0 ≤ t.flds[j'] ∧ t.flds[j'] < i by
          have : j' = m := by omega
          subst this
          exact hz))
        have hfi : f2 < i := by omega
        obtain ⟨y2, hy2⟩ := HC.out f2 hfi
        obtain ⟨hA, hbb⟩ := HA3.out (by omega)
        subst hA
        replace hy2 := (HB.out.cell (p := ⟨b4, o4 + f2, none⟩) hbb).trans hy2
        rw [hf2] at hr3
        clear hz hf2 hall HF HO HC HA3 H8
        go_wp2_with fail
        all_goals
          go_round
          case rel => exact ⟨_, m + 1, by omega, rfl, by go_num, hall2⟩
          case measure => simp [intOf]; omega
      · generalize t.flds[m] = z at *
        clear hall HF HO HC HA3 H8
        go_wp2_with fail
        all_goals first
          | (go_ret; exact ⟨⟨_, rfl, fun h => absurd h (by decide)⟩, HB.out⟩)
          | (exfalso; omega)
    · have hme : m = t.flds.length := by omega
      subst hme
      have hfin : Hid (OkT t i) := Lib.hid ⟨HO.out, fun f hf => by
        obtain ⟨n, hn, rfl⟩ := List.getElem_of_mem hf
        exact hall.out n hn hn⟩
      have hE := Lib.hid (HF.out t A2 c2 wr.drew HB.out.drew ⟨H8.out.keep RInt.keeps HB.out.drew.size HB.out.drew, r6, r7⟩)
      have hic : (i : Int) ≤ c := by omega
      have hwi : IntKind.i64.wrap (i : Int) = (i : Int) := by rw [IntKind.wrap_i64]; omega
      clear hall HF HO HC HA3 H8
      go_upto_region 17 with fail
      go_cut [11, 126] (fun s11 s126 wx => ∃ b, s126 = .bool b ∧ wr = wx)
      case first =>
        go_wp2_with fail
        all_goals (go_meet; exact ⟨_, rfl, rfl⟩)
      case rest =>
      obtain ⟨b, rfl, rfl⟩ := hcut
      cases b
      case true =>
        go_wp2_with fail
        (go_ret; exact ⟨⟨_, rfl, fun h => absurd h (by decide)⟩, HB.out⟩)
      case false =>
      go_upto_region 21 with fail
      all_goals first
        | (go_ret; exact ⟨⟨_, rfl, fun h => absurd h (by decide)⟩, HB.out⟩)
        | skip
      go_still_tail 4, (by kernel_rfl)
      change wpList _ _ _ _ _ wr.drew
      go_wp2_with (go_at_call 42; refine hE.out.mono ?_; rintro e' w2 ⟨⟨q, rfl⟩, hb2⟩)
      · go_ret
        exact ⟨⟨_, rfl, fun h => absurd h (by decide)⟩, HB.out.drew.trans (hb2.mono HB.out.drew.size)⟩
      · go_ret
        exact ⟨⟨_, rfl, fun _ => hfin.out⟩, HB.out.drew.trans (hb2.mono HB.out.drew.size)⟩
end Go.Proofs.Ytmfdppgfbgjmcaa
