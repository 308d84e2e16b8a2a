/-
  Parts of the proof: V3 V48 E2 P9I PT E6 T2 PT3 PT5 PT4 PTB E3.
-/
import Derived.Test.YtbnljlpefpllcaaGreatDoorMD5
import Derived.Test.YtbnljlpefpllcaaGreatDoorMD6
import Derived.Test.YtbnljlpefpllcaaGreatDoorMD1
import Derived.Test.YtbnljlpefpllcaaGreatDoorMD2
import Derived.Test.YtbnljlpefpllcaaGreatDoorMD3
import Derived.Sort.Walk0
namespace Go.Proofs.YtbnljlpefpllcaaGreatDoor
open Go Go.RowKit Go.Maps
def seenF (ns : List ByteArray) (l : List UInt8) : Bool := ns.any (fun s => decide (s.data.toList = l))
theorem ba_ext {s t : ByteArray} (h : s.data.toList = t.data.toList) : s = t := by
  cases s; cases t
  simpa using h
theorem seenF_mem (ns : List ByteArray) (s : ByteArray) : seenF ns s.data.toList = memN s ns := by
  unfold seenF memN
  congr 1
  funext x
  rw [decide_eq_decide]
  exact ⟨ba_ext, fun h => by rw [h]⟩
theorem seenF_new (ns : List ByteArray) (s : ByteArray) : strF (seenF (s :: ns)) (.string s.data.toList) = true := by
  simp [strF, seenF]
theorem seenF_old (ns : List ByteArray) (s : ByteArray) : ∀ x, x ≠ Lit.string s.data.toList → strF (seenF (s :: ns)) x = strF (seenF ns) x := by
  intro x hx
  cases x <;> try rfl
  rename_i l
  have : s.data.toList ≠ l := fun h => hx (by rw [h])
  simp [strF, seenF, this]
theorem seen_nil : strF (seenF []) = fun _ => false := by
  funext x
  cases x <;> rfl
theorem law9 : Keyed Tryz.prog 9 := string_keyed Tryz.underlying9
theorem ident_size {s : ByteArray} (h : isIdent s = true) : s.size ≤ 255 := by
  unfold isIdent at h
  rw [ident_eq] at h
  simp only [Bool.and_eq_true, decide_eq_true_eq, len_list] at h
  omega
theorem key9 {s : ByteArray} (h : isIdent s = true) : keyOf Tryz.prog 9 (.string s) = some (.string s.data.toList) := Go.WideMaps.keyOf_string_mk Tryz.underlying9 (by have := ident_size h; unfold maxLen; omega)
theorem zeroB : ∀ w, (zeroValue 4).run Tryz.prog w = .ok (.bool false) w := Tryz.zeroValue4
set_option maxRecDepth 100000 in
set_option maxHeartbeats 4000000 in
theorem names_any (l : List ByteArray) (A : Option Addr) (c : Nat) (w : World) (hs : Slc 1 RN w A c l) :
    Calls Tryz.prog 119 #[.slice A l.length c] w fun e' w' => e' = .returned (.int .i64 (namesC l)) ∧ Below w.heap.size w w' := by
  have hle := hs.le
  have hbig := hs.big
  unfold namesC
  by_cases h0 : 65535 < l.length
  · rw [if_pos h0]
    clear hs
    go_enter Tryz.func119, Tryz.ntmps119
    go_wp2_with fail
    go_ret
    exact ⟨rfl, Below.refl _ _⟩
  rw [if_neg h0]
  obtain ⟨R, hR⟩ : ∃ R, namesE [] l = R := ⟨_, rfl⟩
  rw [hR]
  have HR := Lib.hid hR
  have HS := Lib.hid hs
  clear hR hs
  have hmm := @run_makeMap Tryz.prog
  go_enter Tryz.func119, Tryz.ntmps119
  go_wp2_with fail
  go_loopw [12] (fun v wr => ∃ (k : Nat) (ns : List ByteArray), k ≤ l.length ∧ v = .int .i64 k ∧ OwnB Tryz.prog 9 4 wr w.heap.size k (strF (seenF ns)) ∧ Hid (Below w.heap.size w wr) ∧ Hid (R = namesE ns (l.drop k))) (fun v _ => l.length - (intOf v).toNat)
  case atStart => exact ⟨0, [], by omega, rfl, by rw [seen_nil]; exact OwnB.made _ _ _ _, Lib.hid ((Below.refl _ _).alloc (Nat.le_refl _) _), Lib.hid HR.out.symm⟩
  case round =>
    obtain ⟨k, ns, hk, rfl, hown, hB, hr⟩ := hrel
    by_cases hlt : k < l.length
    · have hd := drop_cons hlt
      obtain ⟨b, o, rfl, hb, hx⟩ := (HS.out.sl.keep RN.keeps hB.out.size hB.out).at_ hlt
      obtain ⟨s, hsx⟩ : ∃ s, l[k] = s := ⟨_, rfl⟩
      rw [hsx] at hd hx
      have x0 : wr.cell? ⟨b, o + k, none⟩ = some (.string s) := by simpa [RN] using hx
      have HI := Lib.hid (isIdent_any s wr)
      have HN : Hid (R = if isIdent s = false then 12 else if memN s ns = true then 21 else namesE (s :: ns) (l.drop (k + 1))) := Lib.hid (by rw [hr.out, hd]; rfl)
      have hsz := hB.out.size
      clear hd hx hr hsx
      cases hid : isIdent s
      · rw [hid] at HI HN
        clear hid hown
        go_wp2_with (go_at_call 68; refine HI.out.mono ?_; rintro e' w1 ⟨rfl, hb1⟩)
        go_ret
        exact ⟨by rw [HN.out]; rfl, hB.out.trans (hb1.mono hsz)⟩
      · have hkey := key9 hid
        rw [hid] at HI HN
        have HM := Lib.hid (seenF_mem ns s)
        clear hid
        cases hm : memN s ns
        · have HN' : Hid (R = namesE (s :: ns) (l.drop (k + 1))) := Lib.hid (by rw [HN.out, hm]; rfl)
          have HF : Hid (strF (seenF ns) (.string s.data.toList) = false) := Lib.hid (by simp only [strF]; rw [HM.out, hm])
          clear hm HN HM
          go_wp2_with (first
            | (go_at_call 68; refine HI.out.mono ?_; rintro e' w1 ⟨rfl, hb1⟩; have hown1 := hown.below hb1)
            | (at_lookup; refine wpList_lookB _ rfl _ _ 235 rfl 9 4 law9 Tryz.underlying235 Tryz.underlying4 (zeroB _) _ _ _ rfl hown1 _ _ rfl hkey ?_; rw [HF.out])
            | (at_mapUpdate; refine wpList_storeB _ rfl _ _ _ 235 rfl 9 4 law9 Tryz.underlying235 Tryz.underlying4 _ _ _ rfl hown1 (by unfold maxLen; omega) _ _ _ rfl rfl hkey trivial _ (seenF_new ns s) (seenF_old ns s) ?_; intro w2 hown2 hg2))
          go_roundw
          case rel => exact ⟨k + 1, s :: ns, by omega, by go_num, hown2, Lib.hid ((hB.out.trans (hb1.mono hsz)).trans (below_grown hg2 (Nat.le_refl _) (Nat.le_trans hsz hb1.size))), HN'⟩
          case measure => simp [intOf]; omega
        · have HN' : Hid (R = 21) := Lib.hid (by rw [HN.out, hm]; rfl)
          have HF : Hid (strF (seenF ns) (.string s.data.toList) = true) := Lib.hid (by simp only [strF]; rw [HM.out, hm])
          clear hm HN HM
          go_wp2_with (first
            | (go_at_call 68; refine HI.out.mono ?_; rintro e' w1 ⟨rfl, hb1⟩; have hown1 := hown.below hb1)
            | (at_lookup; refine wpList_lookB _ rfl _ _ 235 rfl 9 4 law9 Tryz.underlying235 Tryz.underlying4 (zeroB _) _ _ _ rfl hown1 _ _ rfl hkey ?_; rw [HF.out]))
          go_ret
          exact ⟨by rw [HN'.out]; rfl, hB.out.trans (hb1.mono hsz)⟩
    · have HN : Hid (R = 0) := Lib.hid (by rw [hr.out, List.drop_eq_nil_of_le (by omega)]; rfl)
      clear hr hown
      go_wp2_with fail
      go_ret
      exact ⟨by rw [HN.out]; rfl, hB.out⟩
/-- A body laid in a block of its own. -/
def bxW (w : World) (b : Bdy) (h : BH) : World := w.alloc (.cells (bdC b h).toArray 28)
theorem bxW_size (w : World) (b : Bdy) (h : BH) : (bxW w b h).heap.size = w.heap.size + 1 := by simp [bxW]
theorem bxW_below (w : World) (b : Bdy) (h : BH) : Below w.heap.size w (bxW w b h) := (Below.refl _ _).alloc (Nat.le_refl _) _
theorem bx_cell {w wr : World} {b : Bdy} {h : BH} (hB : Below (w.heap.size + 1) (bxW w b h) wr) (i : Nat) (v : Value) (hi : (bdC b h)[i]? = some v) : wr.cell? ⟨w.heap.size, i, none⟩ = some v := by
  refine (hB.cell (p := ⟨w.heap.size, i, none⟩) (by simp)).trans ?_
  rw [bxW, World.cell?_alloc_at _ _ _ _ (by simp)]
  simpa using hi
theorem bx_low {w wr : World} {b : Bdy} {h : BH} (hB : Below (w.heap.size + 1) (bxW w b h) wr) : Below w.heap.size w wr :=
  (bxW_below w b h).trans (hB.mono (by omega))
theorem two_new (w : World) (x y : Value) (t : TypeId) : (w.alloc (.cells #[x, y] t)).cell? ⟨w.heap.size, 0, none⟩ = some x ∧ (w.alloc (.cells #[x, y] t)).cell? ⟨w.heap.size, 1, none⟩ = some y := by
  constructor <;> (rw [World.cell?_alloc_at _ _ _ _ (by simp)]; rfl)
theorem keepA {w W : World} {o : Obj} {p : Addr} {v : Value} (hb : Below (w.alloc o).heap.size (w.alloc o) W) (h : w.cell? p = some v) : W.cell? p = some v :=
  cell_keep hb (((((Below.refl w.heap.size w).alloc (Nat.le_refl _) o).cell (p := p) (World.block_lt_of_cell? w p h))).trans h)
set_option maxRecDepth 100000 in
set_option maxHeartbeats 8000000 in
theorem locals_any (b : Bdy) (bh : BH) (w : World) (H : BdAt w b bh) :
    Calls Tryz.prog 122 #[.agg (bdC b bh).toArray] w fun e' w' => e' = .returned (.int .i64 (localsC b)) ∧ Below w.heap.size w w' := by
  obtain ⟨A1, c1, A2, c2, A3, c3, A4, c4, A5, c5⟩ := bh
  have hle := H.loc.le
  have hbig := H.loc.big
  have HLOC := Lib.hid H.loc
  have htl := H.typ.le
  have htb := H.typ.big
  unfold localsC
  clear H
  unfold bdC
  simp only at hle hbig htl htb HLOC ⊢
  have HBX := Lib.hid (bxW_below w b ⟨A1, c1, A2, c2, A3, c3, A4, c4, A5, c5⟩)
  by_cases h0 : 65535 < b.locals.length
  · rw [if_pos h0]
    go_enter Tryz.func122, Tryz.ntmps122
    go_wp2_with fail
    go_ret
    exact ⟨rfl, HBX.out⟩
  rw [if_neg h0]
  obtain ⟨R, hR⟩ : ∃ R, localsE b.types.length [] b.locals = R := ⟨_, rfl⟩
  rw [hR]
  have HR := Lib.hid hR
  clear hR
  obtain ⟨Q, hQ⟩ : ∃ Q, (if R = 0 then (if b.args < 0 ∨ (b.locals.length : Int) < b.args then 3 else 0) else R) = Q := ⟨_, rfl⟩
  rw [hQ]
  have HQ := Lib.hid hQ
  clear hQ
  have hmm := @run_makeMap Tryz.prog
  go_enter Tryz.func122, Tryz.ntmps122
  go_wp2_with fail
  go_loopw [14] (fun v wr => ∃ (k : Nat) (ns : List ByteArray), k ≤ b.locals.length ∧ v = .int .i64 k ∧ OwnB Tryz.prog 9 4 wr (w.heap.size + 1) k (strF (seenF ns)) ∧ Hid (Below (w.heap.size + 1) (bxW w b ⟨A1, c1, A2, c2, A3, c3, A4, c4, A5, c5⟩) wr) ∧ Hid (R = localsE b.types.length ns (b.locals.drop k))) (fun v _ => b.locals.length - (intOf v).toNat)
  case atStart => exact ⟨0, [], by omega, rfl, by rw [seen_nil]; have := OwnB.made (bxW w b ⟨A1, c1, A2, c2, A3, c3, A4, c4, A5, c5⟩) Tryz.prog 9 4; rw [bxW_size] at this; exact this, Lib.hid ((Below.refl _ (bxW w b ⟨A1, c1, A2, c2, A3, c3, A4, c4, A5, c5⟩)).alloc (by rw [bxW_size]; omega) _), Lib.hid HR.out.symm⟩
  case round =>
    obtain ⟨k, ns, hk, rfl, hown, hB, hr⟩ := hrel
    have x3 := bx_cell hB.out 3 _ rfl
    have x4 := bx_cell hB.out 4 _ rfl
    have x5 := bx_cell hB.out 5 _ rfl
    have hsz := hB.out.size
    rw [bxW_size] at hsz
    by_cases hlt : k < b.locals.length
    · have hd := drop_cons hlt
      obtain ⟨bb, o, rfl, hb, hx⟩ := (HLOC.out.sl.keep RLc.keeps (Nat.le_trans (Nat.le_succ _) hsz) (bx_low hB.out)).at_ hlt
      obtain ⟨s, hsx⟩ : ∃ s, b.locals[k] = s := ⟨_, rfl⟩
      rw [hsx] at hd hx
      obtain ⟨y0, y1⟩ := hx
      have hls := lt_steps hb
      have HN : Hid (R = if isIdent s.name = false then 12 else if memN s.name ns = true then 21 else if s.type < 0 ∨ (b.types.length : Int) ≤ s.type then 3 else localsE b.types.length (s.name :: ns) (b.locals.drop (k + 1))) := Lib.hid (by rw [hr.out, hd]; rfl)
      clear hd hr hsx
      cases hid : isIdent s.name
      · have HF : Hid (Q = 12) := Lib.hid (by rw [← HQ.out, HN.out, hid]; rfl)
        have HI : Hid (∀ W, Calls Tryz.prog 68 #[.string s.name] W fun e w' => e = .returned (.bool false) ∧ Below W.heap.size W w') := Lib.hid (fun W => by rw [← hid]; exact isIdent_any s.name W)
        clear hid hown HN
        go_wp2_with (go_at_call 68; refine (HI.out _).mono ?_; rintro e' w1 ⟨rfl, hb1⟩)
        go_ret
        exact ⟨by rw [HF.out]; rfl, ((bx_low hB.out).alloc (by omega) _).trans (hb1.mono (by simp; omega))⟩
      · have hkey := key9 hid
        have HI : Hid (∀ W, Calls Tryz.prog 68 #[.string s.name] W fun e w' => e = .returned (.bool true) ∧ Below W.heap.size W w') := Lib.hid (fun W => by rw [← hid]; exact isIdent_any s.name W)
        have HM := Lib.hid (seenF_mem ns s.name)
        rw [hid] at HN
        clear hid
        cases hm : memN s.name ns
        case true =>
          have HF : Hid (Q = 21) := Lib.hid (by rw [← HQ.out, HN.out, hm]; rfl)
          have HS : Hid (strF (seenF ns) (.string s.name.data.toList) = true) := Lib.hid (by simp only [strF]; rw [HM.out, hm])
          clear hm HN HM
          go_wp2_with (first
            | (go_at_call 68; refine (HI.out _).mono ?_; rintro e' w1 ⟨rfl, hb1⟩; have hown1 := (hown.alloc _).below hb1; obtain ⟨z0, z1⟩ := two_new wr (.string s.name) (.int .i64 s.type) 87; replace z0 := cell_keep hb1 z0; replace z1 := cell_keep hb1 z1; have z3 := keepA hb1 x3)
            | (at_lookup; refine wpList_lookB _ rfl _ _ 235 rfl 9 4 law9 Tryz.underlying235 Tryz.underlying4 (zeroB _) _ _ _ rfl hown1 _ _ rfl hkey ?_; rw [HS.out]))
          go_ret
          exact ⟨by rw [HF.out]; rfl, ((bx_low hB.out).alloc (by omega) _).trans (hb1.mono (by simp; omega))⟩
        case false =>
          have HS : Hid (strF (seenF ns) (.string s.name.data.toList) = false) := Lib.hid (by simp only [strF]; rw [HM.out, hm])
          rw [hm] at HN
          have HT : Hid ((s.type < 0 ∨ (b.types.length : Int) ≤ s.type) → Q = 3) := Lib.hid (fun h => by rw [← HQ.out, HN.out]; simp only [Bool.true_eq_false, Bool.false_eq_true, if_false]; rw [if_pos h]; rfl)
          have HG : Hid (¬ (s.type < 0 ∨ (b.types.length : Int) ≤ s.type) → R = localsE b.types.length (s.name :: ns) (b.locals.drop (k + 1))) := Lib.hid (fun h => by rw [HN.out]; simp only [Bool.true_eq_false, Bool.false_eq_true, if_false]; rw [if_neg h])
          clear hm HN HM
          by_cases hty : s.type < 0 ∨ (b.types.length : Int) ≤ s.type
          · have HF := Lib.hid (HT.out hty)
            clear HT HG
            go_wp2_with (first
              | (go_at_call 68; refine (HI.out _).mono ?_; rintro e' w1 ⟨rfl, hb1⟩; have hown1 := (hown.alloc _).below hb1; obtain ⟨z0, z1⟩ := two_new wr (.string s.name) (.int .i64 s.type) 87; replace z0 := cell_keep hb1 z0; replace z1 := cell_keep hb1 z1; have z3 := keepA hb1 x3)
              | (at_lookup; refine wpList_lookB _ rfl _ _ 235 rfl 9 4 law9 Tryz.underlying235 Tryz.underlying4 (zeroB _) _ _ _ rfl hown1 _ _ rfl hkey ?_; rw [HS.out]))
            all_goals first
              | (exfalso; omega)
              | (go_ret
                 exact ⟨by rw [HF.out]; rfl, ((bx_low hB.out).alloc (by omega) _).trans (hb1.mono (by simp; omega))⟩)
          · have HF := Lib.hid (HG.out hty)
            clear HT HG
            have e1 : ¬ s.type < 0 := by omega
            have e2 : ¬ (b.types.length : Int) ≤ s.type := by omega
            clear hty
            go_wp2_with (first
              | (go_at_call 68; refine (HI.out _).mono ?_; rintro e' w1 ⟨rfl, hb1⟩; have hown1 := (hown.alloc _).below hb1; obtain ⟨z0, z1⟩ := two_new wr (.string s.name) (.int .i64 s.type) 87; replace z0 := cell_keep hb1 z0; replace z1 := cell_keep hb1 z1; have z3 := keepA hb1 x3)
              | (at_lookup; refine wpList_lookB _ rfl _ _ 235 rfl 9 4 law9 Tryz.underlying235 Tryz.underlying4 (zeroB _) _ _ _ rfl hown1 _ _ rfl hkey ?_; rw [HS.out])
              | (at_mapUpdate; refine wpList_storeB _ rfl _ _ _ 235 rfl 9 4 law9 Tryz.underlying235 Tryz.underlying4 _ _ _ rfl hown1 (by unfold maxLen; omega) _ _ _ rfl rfl hkey trivial _ (seenF_new ns s.name) (seenF_old ns s.name) ?_; intro w2 hown2 hg2))
            go_roundw
            case rel =>
              have hsz1 := hb1.size
              simp only [World.size_alloc] at hsz1
              exact ⟨k + 1, s.name :: ns, by omega, by go_num, hown2, Lib.hid (((hB.out.alloc (by omega) _).trans (hb1.mono (by simp; omega))).trans (below_grown hg2 (by omega) (by omega))), HF⟩
            case measure => simp [intOf]; omega
    · have HN : Hid (R = 0) := Lib.hid (by rw [hr.out, List.drop_eq_nil_of_le (by omega)]; rfl)
      have HF : Hid (Q = if b.args < 0 ∨ (b.locals.length : Int) < b.args then 3 else 0) := Lib.hid (by rw [← HQ.out, HN.out, if_pos rfl])
      clear hr hown
      by_cases ha : b.args < 0 ∨ (b.locals.length : Int) < b.args
      · rw [if_pos ha] at HF
        go_wp2_with fail
        all_goals first
          | (exfalso; omega)
          | (go_ret; exact ⟨by rw [HF.out]; rfl, bx_low hB.out⟩)
      · rw [if_neg ha] at HF
        have e1 : ¬ b.args < 0 := by omega
        have e2 : ¬ (b.locals.length : Int) < b.args := by omega
        clear ha
        go_wp2_with fail
        go_ret
        exact ⟨by rw [HF.out]; rfl, bx_low hB.out⟩
end Go.Proofs.YtbnljlpefpllcaaGreatDoor
namespace Go.Proofs.YtbnljlpefpllcaaGreatDoor
open Go Go.RowKit
/-- The place of a name in a list, from number k on; -1 if it is not there. -/
def idxN (s : ByteArray) : Nat → List ByteArray → Int
  | _, [] => -1
  | k, x :: r => if x = s then k else idxN s (k + 1) r
theorem idxN_neg (s : ByteArray) : ∀ (k : Nat) (l : List ByteArray), (0 ≤ idxN s k l ↔ memN s l = true)
  | _, [] => by simp [idxN, memN]
  | k, x :: r => by
    unfold idxN
    by_cases h : x = s
    · rw [if_pos h]
      simp [memN, h]
    · rw [if_neg h, idxN_neg s (k + 1) r]
      simp [memN, h]
end Go.Proofs.YtbnljlpefpllcaaGreatDoor
namespace Go.Proofs.YtbnljlpefpllcaaGreatDoor
open Go Go.RowKit
/-- The encoding of a number that is not negative. -/
def putI (i : Int) : List UInt8 := putL i.toNat
def pairW (p : Int × Int) : List UInt8 := putI p.1 ++ putI p.2
def listW {α : Type} (f : α → List UInt8) (l : List α) : List UInt8 := putL l.length ++ l.flatMap f
def typeW (x : Ty) : List UInt8 :=
  if x.kind = 3 then (if x.mu = true then 5 else 3) :: (putI x.reg ++ putI x.elem)
  else if x.kind = 4 then 4 :: listW putI x.flds
  else [x.kind.toNat.toUInt8]
/-! ## Reading what was written -/
theorem putF_pos (f n : Nat) : 0 < (putF f n).length := by
  cases f with
  | zero => simp [putF]
  | succ f => unfold putF; split <;> simp
/-- A type as it may be read. -/
def TyGood (x : Ty) : Prop :=
  (x.kind = 3 ∧ (0 ≤ x.reg ∧ x.reg ≤ 65535) ∧ (0 ≤ x.elem ∧ x.elem ≤ 65535) ∧ x.flds = []) ∨
  (x.kind = 4 ∧ x.mu = false ∧ x.reg = 0 ∧ x.elem = 0 ∧ x.flds.length ≤ 65535 ∧ ∀ i ∈ x.flds, 0 ≤ i ∧ i ≤ 65535) ∨
  (0 ≤ x.kind ∧ x.kind ≤ 2 ∧ x.mu = false ∧ x.reg = 0 ∧ x.elem = 0 ∧ x.flds = [])
end Go.Proofs.YtbnljlpefpllcaaGreatDoor
namespace Go.Proofs.YtbnljlpefpllcaaGreatDoor
open Go Go.RowKit
set_option maxRecDepth 100000 in
set_option maxHeartbeats 4000000 in
theorem pitems_int (h g t : Nat) (T : Option Addr) (c : Nat) (tbl : List ByteArray) (s : Rs) (w : World) (H : DTab w h g t T c tbl) (hr : PRd w g s) :
    Calls Tryz.prog 91 #[.pointer (some ⟨h, 0, none⟩), .func (.func 50) #[.pointer (some ⟨h, 0, none⟩)] #[]] w fun e' w' => ∃ A c n, e' = .returned (.slice A n c) ∧ PRd w' g (listS numS s).2 ∧ But g w w' ∧
      ((listS numS s).2.err = 0 → (listS numS s).1.length = n ∧ w'.ownsRow w.heap.size 3 1 (.slice A n c) n ((listS numS s).1.flatMap (fun x => [Value.int .i64 x]))) := by
  obtain ⟨i0, hi, hz0, hz1, hz2⟩ := info_parts infoInt
  have hC := pcount_any g s w hr
  have hgl := hr.lt
  have hD0 := H.c0
  have HH := Lib.hid H
  have hnl := count_le 65535 s
  have hn0 := count_zero 65535 s
  obtain ⟨Q, hQ⟩ : ∃ Q, listS numS s = Q := ⟨_, rfl⟩
  rw [hQ]
  unfold listS at hQ
  generalize countS 65535 s = K at *
  obtain ⟨n, s0⟩ := K
  simp only at hC hQ hnl hn0
  have HQ := Lib.hid hQ
  have HC := Lib.hid hC
  clear hQ hC hr H
  go_enter Tryz.func91, Tryz.ntmps91
  go_wp2_with (go_at_call 88; refine HC.out.mono ?_; rintro e' w1 ⟨rfl, hr1, hb1⟩; have HR1 := Lib.hid hr1; have HB1 := Lib.hid hb1; clear hr1 hb1)
  have hI0 : ∃ (k : Nat) (sk : Rs) (ys : List Int), n - n = k ∧ k ≤ n ∧ ys.length = k ∧ w1.ownsRow w.heap.size 3 1 (.slice none 0 0) k (ys.flatMap (fun x => [Value.int .i64 x])) ∧ PRd w1 g sk ∧ But g w w1 ∧ (0 < n → sk.err = 0) ∧ Hid (Q = (ys ++ (itemsS numS (n - k) sk).1, (itemsS numS (n - k) sk).2)) :=
    ⟨0, s0, [], by omega, by omega, rfl, World.ownsRow_nil _ _ _ _, HR1.out, HB1.out, fun h => Decidable.byContradiction fun h1 => by have := hn0 h1; omega, Lib.hid (by rw [← HQ.out]; rfl)⟩
  have HI0 := Lib.hid hI0
  clear hI0 HR1 HB1 HC
  go_loopw [5, 12] (fun v i wr => ∃ (k : Nat) (sk : Rs) (ys : List Int), i = .int .i64 k ∧ k ≤ n ∧ ys.length = k ∧ wr.ownsRow w.heap.size 3 1 v k (ys.flatMap (fun x => [Value.int .i64 x])) ∧ PRd wr g sk ∧ But g w wr ∧ (0 < n → sk.err = 0) ∧ Hid (Q = (ys ++ (itemsS numS (n - k) sk).1, (itemsS numS (n - k) sk).2))) (fun _ i _ => n - (intOf i).toNat)
  case atStart =>
    obtain ⟨k, sk, ys, hk, h1⟩ := HI0.out
    have : k = 0 := by omega
    subst this
    exact ⟨0, sk, ys, rfl, h1⟩
  case round =>
    clear HI0
    obtain ⟨k, sk, ys, rfl, hk, hyl, hown, hrd, hbt, hsk, HQ2⟩ := hrel
    by_cases hlt : k < n
    · have hsz := hbt.size
      have hst : Hid (itemsS numS (n - k) sk = if (numS sk).2.err = 0 then ((numS sk).1 :: (itemsS numS (n - (k + 1)) (numS sk).2).1, (itemsS numS (n - (k + 1)) (numS sk).2).2) else ([], (numS sk).2)) := Lib.hid (by
        rw [show n - k = (n - (k + 1)) + 1 by omega]
        rfl)
      have HN := Lib.hid (pnum_any h g t T c tbl sk wr (HH.out.but hbt) hrd)
      have HHW := Lib.hid (HH.out.but hbt)
      generalize numS sk = Z at *
      obtain ⟨x, s'⟩ := Z
      simp only at hst HN
      have HOWN := Lib.hid hown
      have HBT := Lib.hid hbt
      clear hown hrd hbt
      go_wp2_with fail
      go_at_call 50
      refine HN.out.mono ?_
      rintro e' W3 ⟨rfl, hr3, hb3⟩
      have y0 := (HHW.out.but hb3).c0
      have HE := Lib.hid (perr_any g s' W3 hr3)
      have HR3 := Lib.hid hr3
      have HB3 := Lib.hid hb3
      clear hr3 hb3 HN
      by_cases he : s'.err = 0
      · rw [he] at HE
        rw [if_pos he] at hst
        skip
        have hown2 : (W3.alloc (.cells #[.int .i64 x] 3)).ownsRow w.heap.size 3 1 u5 k (ys.flatMap (fun x => [Value.int .i64 x])) :=
          (own_block HOWN.out (fun k hk1 hk2 _ => HB3.out.block k hk2 (by omega))).alloc _
        have hbw : But g w W3 := HBT.out.trans HB3.out
        have hwz := hbw.size
        have HBW := Lib.hid hbw
        clear hbw
        go_wp2_with (first
          | (at_builtin; refine wpList_append_own _ rfl _ _ 51 rfl w.heap.size 3 i0 (.int .i64 0) 1 8 Tryz.underlying51 hi hz0 hz1 hz2 rfl (by decide) _ _ _ rfl hown2 ⟨W3.heap.size, 0, none⟩ 1 1 [.int .i64 x] rfl rfl ?c1 ?c2 ?c3 ?c4 ?c5 ?_)
          | (go_at_call 89; refine HE.out.mono ?_; rintro e' w3 ⟨rfl, hw⟩; obtain rfl := hw.symm))
        case c1 =>
          intro j u hj
          rw [add0]
          exact row_new W3 [.int .i64 x] 3 j u hj
        case c2 => intro u hu; simp at hu; (subst hu; rfl)
        case c3 => unfold maxLen; omega
        case c4 => omega
        case c5 => simp; omega
        intro v' w4 hown' hgrow _
        have hown3 : w4.ownsRow w.heap.size 3 1 v' (k + 1) ((ys ++ [x]).flatMap (fun x => [Value.int .i64 x])) := by
          rw [List.flatMap_append, List.flatMap_singleton]; exact hown'
        have hg4 : ∀ j, j < w.heap.size → w4.heap[j]? = W3.heap[j]? := fun j hj => (hgrow.block j (by simp; omega) (own_ne_low hown2 hj)).trans (Below.heap_alloc _ _ _ (by omega))
        have hb4 : But g w w4 := ⟨hgrow.os.trans HBW.out.os, hgrow.tape.trans HBW.out.tape, hgrow.output.trans HBW.out.output, by have := hgrow.size; simp at this; omega, fun j hj hne => (hg4 j hj).trans (HBW.out.block j hj hne)⟩
        have hr4 : PRd w4 g s' := HR3.out.low (by have := hgrow.size; simp at this; omega) (fun j hj => hg4 j (by omega))
        clear hown' hgrow hown2 hg4
        go_wp2_with fail
        go_roundw
        case rel => exact ⟨k + 1, s', ys ++ [x], by go_num, by omega, by simp [hyl], hown3, hr4, hb4, fun _ => he, Lib.hid (by rw [HQ2.out, hst.out]; simp)⟩
        case measure => simp [intOf]; omega
      · have e2 : (s'.err == 0) = false := by simp [he]
        have e3 : (s'.err != 0) = true := by simp [he]
        rw [if_neg he] at hst
        have HHE := Lib.hid he
        have HQ3 : Hid (Q = (ys, s')) := Lib.hid (by rw [HQ2.out, hst.out]; simp)
        clear he
        generalize s'.err = er at HE e2 e3
        go_wp2_with (go_at_call 89; refine HE.out.mono ?_; rintro e' w3 ⟨rfl, hw⟩; obtain rfl := hw)
        go_ret
        rw [HQ3.out]
        exact ⟨none, 0, 0, rfl, HR3.out, HBT.out.trans HB3.out, fun h0 => absurd h0 HHE.out⟩
    · have hkn : k = n := by omega
      have HQ3 : Hid (Q = (ys, sk)) := Lib.hid (by rw [HQ2.out, hkn, Nat.sub_self]; simp [itemsS])
      obtain ⟨A, cc, hv⟩ : ∃ A cc, u5 = .slice A k cc := by
        rcases hown.2 with ⟨h1, h2⟩ | ⟨g', cap, cur, h1, _⟩
        · exact ⟨none, 0, by rw [h1, h2]⟩
        · exact ⟨_, cap, h1⟩
      subst hv
      have HOWN := Lib.hid hown
      have HRD := Lib.hid hrd
      have HBT := Lib.hid hbt
      clear hown hrd hbt
      go_wp2_with fail
      go_ret
      rw [HQ3.out]
      exact ⟨A, cc, k, rfl, HRD.out, HBT.out, fun _ => ⟨hyl, HOWN.out⟩⟩
end Go.Proofs.YtbnljlpefpllcaaGreatDoor
namespace Go.Proofs.YtbnljlpefpllcaaGreatDoor
open Go Go.RowKit
theorem blk5 {w : World} {k : Nat} {a b c d e : Value} {t : TypeId} (h : w.heap[k]? = some (.cells #[a, b, c, d, e] t (0, 0))) :
    w.cell? ⟨k, 0, none⟩ = some a ∧ w.cell? ⟨k, 1, none⟩ = some b ∧ w.cell? ⟨k, 2, none⟩ = some c ∧ w.cell? ⟨k, 3, none⟩ = some d ∧ w.cell? ⟨k, 4, none⟩ = some e ∧ (∀ i, w.frozen? ⟨k, i, none⟩ = false) :=
  ⟨by rw [cell_of_row w _ 0 _ _ _ h]; rfl, by rw [cell_of_row w _ 1 _ _ _ h]; rfl, by rw [cell_of_row w _ 2 _ _ _ h]; rfl, by rw [cell_of_row w _ 3 _ _ _ h]; rfl, by rw [cell_of_row w _ 4 _ _ _ h]; rfl, fun i => by simp [World.frozen?, h]⟩
theorem blk5_set {w : World} {k : Nat} {a b c d e : Value} {t : TypeId} (a' b' c' d' e' : Value) (h : w.heap[k]? = some (.cells #[a, b, c, d, e] t (0, 0))) :
    (((((w.setCell ⟨k, 0, none⟩ a').setCell ⟨k, 1, none⟩ b').setCell ⟨k, 2, none⟩ c').setCell ⟨k, 3, none⟩ d').setCell ⟨k, 4, none⟩ e').heap[k]? = some (.cells #[a', b', c', d', e'] t (0, 0)) := by
  simp [World.setCell, Array.getElem?_modify, h]
/-- Five cells of one block written. -/
def set5 (w : World) (k : Nat) (a b c d e : Value) : World := ((((w.setCell ⟨k, 0, none⟩ a).setCell ⟨k, 1, none⟩ b).setCell ⟨k, 2, none⟩ c).setCell ⟨k, 3, none⟩ d).setCell ⟨k, 4, none⟩ e
theorem set5_far {w : World} {k j : Nat} (a b c d e : Value) (h : j ≠ k) : (set5 w k a b c d e).heap[j]? = w.heap[j]? := by
  unfold set5
  rw [Below.heap_setCell _ _ _ j (by simpa using h), Below.heap_setCell _ _ _ j (by simpa using h), Below.heap_setCell _ _ _ j (by simpa using h), Below.heap_setCell _ _ _ j (by simpa using h), Below.heap_setCell _ _ _ j (by simpa using h)]
theorem set5_size (w : World) (k : Nat) (a b c d e : Value) : (set5 w k a b c d e).heap.size = w.heap.size := by simp [set5]
theorem but_far {g k : Nat} {w b : World} (h : But g w b) (hk : w.heap.size ≤ k) (i : Nat) (v : Value) : But g w (b.setCell ⟨k, i, none⟩ v) :=
  ⟨h.os, h.tape, h.output, by simpa [World.setCell] using h.size, fun j hj hne => (Below.heap_setCell b ⟨k, i, none⟩ v j (by simp; omega)).trans (h.block j hj hne)⟩
theorem set5_but {g k : Nat} {w w2 : World} (a b c d e : Value) (h : But g w w2) (hk : w.heap.size ≤ k) : But g w (set5 w2 k a b c d e) := by
  unfold set5
  exact but_far (but_far (but_far (but_far (but_far h hk _ _) hk _ _) hk _ _) hk _ _) hk _ _
theorem byte_zero (s : Rs) (h : (byteS s).2.err ≠ 0) : (byteS s).1 = 0 := by
  unfold byteS at h ⊢
  by_cases h0 : s.err = 0
  · rw [if_pos h0] at h ⊢
    cases hr : s.rest with
    | nil => rfl
    | cons c r => rw [hr] at h; exact absurd rfl h
  · rw [if_neg h0]
theorem set5_prd {g k : Nat} {w : World} {s : Rs} (a b c d e : Value) (h : PRd w g s) (hk : g < k) : PRd (set5 w k a b c d e) g s :=
  h.low (by rw [set5_size]; exact Nat.le_refl _) (fun j hj => set5_far _ _ _ _ _ (by omega))
theorem flat1 {α : Type} (f : α → Value) : ∀ l : List α, l.flatMap (fun x => [f x]) = l.map f
  | [] => rfl
  | x :: l => by rw [List.flatMap_cons, flat1 f l]; rfl
/-- What types leaves. -/
def TypePost (g : Nat) (w : World) (Q : Ty × Rs) (e' : Ending) (w' : World) : Prop :=
  ∃ y : TH, e' = .returned (.agg #[.int .i64 y.t.kind, .bool y.t.mu, .int .i64 y.t.reg, .int .i64 y.t.elem, .slice y.A y.t.flds.length y.c]) ∧ PRd w' g Q.2 ∧ But g w w' ∧
    (Q.2.err = 0 → y.t = Q.1 ∧ w'.ownsRow w.heap.size 3 1 (.slice y.A y.t.flds.length y.c) y.t.flds.length (y.t.flds.map (Value.int .i64)))
theorem own_mono {w : World} {B B' n k : Nat} {e : TypeId} {v : Value} {xs : List Value} (h : w.ownsRow B e k v n xs) (hB : B' ≤ B) : w.ownsRow B' e k v n xs := by
  refine ⟨h.1, ?_⟩
  rcases h.2 with h | ⟨g, cap, cur, h1, h2, h3⟩
  · exact .inl h
  · exact .inr ⟨g, cap, cur, h1, Nat.le_trans hB h2, h3⟩
/-- The result lies in its block: the call ends. -/
theorem type_fin {g : Nat} {w W w1 : World} {Q : Ty × Rs} {q1 q2 q3 q4 q5 : Value} {fn : Func} {a : Act} (y : TH) (hk : w1.heap[w.heap.size]? = some (.cells #[q1, q2, q3, q4, q5] 83 (0, 0))) (hb : Below w.heap.size w W) (h1 : But g W w1) (hr : PRd w1 g Q.2) (hgl : g < w.heap.size)
    (hd : a.defers = [])
    (hres : ∀ W3 : World, W3.heap[w.heap.size]? = some (.cells #[.int .i64 y.t.kind, .bool y.t.mu, .int .i64 y.t.reg, .int .i64 y.t.elem, .slice y.A y.t.flds.length y.c] 83 (0, 0)) → (results fn a.tmps).run Tryz.prog W3 = .ok (.agg #[.int .i64 y.t.kind, .bool y.t.mu, .int .i64 y.t.reg, .int .i64 y.t.elem, .slice y.A y.t.flds.length y.c]) W3)
    (hy : Q.2.err = 0 → y.t = Q.1 ∧ w1.ownsRow w.heap.size 3 1 (.slice y.A y.t.flds.length y.c) y.t.flds.length (y.t.flds.map (Value.int .i64))) :
    bodyPost Tryz.prog fn (TypePost g w Q) .ret a (set5 w1 w.heap.size (.int .i64 y.t.kind) (.bool y.t.mu) (.int .i64 y.t.reg) (.int .i64 y.t.elem) (.slice y.A y.t.flds.length y.c)) := by
  have n : (set5 w1 w.heap.size (.int .i64 y.t.kind) (.bool y.t.mu) (.int .i64 y.t.reg) (.int .i64 y.t.elem) (.slice y.A y.t.flds.length y.c)).heap[w.heap.size]? = _ := blk5_set _ _ _ _ _ hk
  refine bodyPost_ret (hres _ n) hd ⟨y, rfl, set5_prd _ _ _ _ _ hr hgl, set5_but _ _ _ _ _ ((But.of_below (g := g) hb).trans h1) (Nat.le_refl _), fun h0 => ⟨(hy h0).1, ?_⟩⟩
  refine own_block (hy h0).2 (fun k _ _ hkv => set5_far _ _ _ _ _ (fun e => ?_))
  rw [e] at hkv
  exact own_ne (hy h0).2 hk (by decide) hkv
set_option maxRecDepth 100000 in
set_option maxHeartbeats 4000000 in
/-- A kind that has no parts; or an early end. -/
theorem ptypes_plain (h g t : Nat) (T : Option Addr) (c : Nat) (tbl : List ByteArray) (s : Rs) (w : World) (H : DTab w h g t T c tbl) (hr : PRd w g s) (hp : (byteS s).2.err ≠ 0 ∨ (byteS s).1 ≤ 2) : Calls Tryz.prog 47 #[.pointer (some ⟨h, 0, none⟩)] w (TypePost g w (typeS s)) := by
  have HQ : Hid (typeS s = (⟨(byteS s).1, false, 0, 0, []⟩, (byteS s).2) ∧ ((byteS s).1 = 0 ∨ (byteS s).1 = 1 ∨ (byteS s).1 = 2)) := Lib.hid (by
    unfold typeS
    by_cases he : (byteS s).2.err = 0
    · rw [if_pos he]
      have h2 : (byteS s).1 ≤ 2 := by
        rcases hp with hp | hp
        · exact absurd he hp
        · exact hp
      rw [if_neg (by omega), if_neg (by omega), if_neg (by omega)]
      exact ⟨rfl, by omega⟩
    · rw [if_neg he]
      have h0 := byte_zero s he
      rw [h0]
      exact ⟨rfl, .inl rfl⟩)
  have hgl := hr.lt; obtain ⟨W, hW⟩ : ∃ W, w.alloc (.cells #[.int .i64 0, .bool false, .int .i64 0, .int .i64 0, .slice none 0 0] 83) = W := ⟨_, rfl⟩; have hb : Below w.heap.size w W := (by rw [← hW]; exact (Below.refl _ _).alloc (Nat.le_refl _) _); have hk : W.heap[w.heap.size]? = some (.cells #[.int .i64 0, .bool false, .int .i64 0, .int .i64 0, .slice none 0 0] 83 (0, 0)) := (by rw [← hW]; exact heap_alloc_new w _); have HB := Lib.hid (pbyte_any g s W (hr.keep hb)); have y0 := (H.keep hb).c0; have HH := Lib.hid (H.keep hb); have HK := Lib.hid hk; have HW := Lib.hid hb; clear hr hk hb H
  generalize typeS s = Q at *
  generalize byteS s = R at *
  obtain ⟨b, s1⟩ := R
  simp only at HB HQ
  clear hp
  have HQ1 := Lib.hid HQ.out.1
  rcases HQ.out.2 with hb0 | hb0 | hb0
  all_goals
    subst hb0
    clear HQ
    go_enter Tryz.func47, Tryz.ntmps47
    go_wp2_with (go_at_call 90; refine HB.out.mono ?_; rintro e' w1 ⟨rfl, hr1, hb1⟩; have y1 := (HH.out.but hb1).c0; have hk1 := hb1.blk HK.out (by omega); obtain ⟨v0, v1, v2, v3, v4, v5⟩ := blk5 hk1; have v5a := v5 0; have v5b := v5 1; have v5c := v5 2; have v5d := v5 3; have v5e := v5 4; have HR1 := Lib.hid hr1; have HB1 := Lib.hid hb1; have HK1 := Lib.hid hk1; clear hr1 hb1 hk1 v5)
    refine type_fin (Q := Q) ⟨⟨_, false, 0, 0, []⟩, none, 0⟩ HK1.out HW.out HB1.out (by rw [HQ1.out]; exact HR1.out) hgl rfl (fun W3 n => ?_) (fun _ => ⟨by rw [HQ1.out]; rfl, World.ownsRow_nil _ _ _ _⟩)
    obtain ⟨u0, u1, u2, u3, u4, _⟩ := blk5 n
    simp [results, Tryz.results47, go_sem, u0, u1, u2, u3, u4] <;> rfl
end Go.Proofs.YtbnljlpefpllcaaGreatDoor
namespace Go.Proofs.YtbnljlpefpllcaaGreatDoor
open Go Go.RowKit
theorem putF_len : ∀ (f n : Nat), (putF f n).length ≤ f + 1
  | 0, _ => by simp [putF]
  | f + 1, n => by
    unfold putF
    split
    · simp
    · have := putF_len f (n / 128)
      simp only [List.length_cons]; omega
def isU8 : Obj → Bool
  | .cells _ e _ => e == 5
  | _ => false
/-- What writing leaves: all but the writer's block, and rows of bytes beyond it. -/
structure Wr (g : Nat) (w w' : World) : Prop where
  os : w'.os = w.os
  tape : w'.tape = w.tape
  output : w'.output = w.output
  size : w.heap.size ≤ w'.heap.size
  block : ∀ k o, w.heap[k]? = some o → k ≠ g → (k < g ∨ isU8 o = false) → w'.heap[k]? = some o
theorem Wr.refl (g : Nat) (w : World) : Wr g w w := ⟨rfl, rfl, rfl, Nat.le_refl _, fun _ _ h _ _ => h⟩
theorem Wr.trans {g : Nat} {a b c : World} (h : Wr g a b) (h2 : Wr g b c) : Wr g a c :=
  ⟨h2.os.trans h.os, h2.tape.trans h.tape, h2.output.trans h.output, Nat.le_trans h.size h2.size, fun k o h3 h4 h5 => h2.block k o (h.block k o h3 h4 h5) h4 h5⟩
theorem Wr.of_below {g : Nat} {a b : World} (h : Below a.heap.size a b) : Wr g a b :=
  ⟨h.os, h.tape, h.output, h.size, fun k o h1 _ _ => (h.block k (Array.getElem?_eq_some_iff.1 h1).1).trans h1⟩
theorem Wr.below {g : Nat} {a b : World} (h : Wr g a b) (hg : g ≤ a.heap.size) : Below g a b :=
  ⟨h.os, h.tape, h.output, h.size, fun k hk => by
    obtain ⟨o, ho⟩ : ∃ o, a.heap[k]? = some o := ⟨_, Array.getElem?_eq_getElem (by omega)⟩
    rw [ho]
    exact h.block k o ho (by omega) (.inl hk)⟩
/-- The writer at block g has written l. -/
def WRd (w : World) (g : Nat) (l : List UInt8) : Prop := ∃ A c, w.heap[g]? = some (.cells #[.slice A l.length c] 142 (0, 0)) ∧ w.ownsRow (g + 1) 5 1 (.slice A l.length c) l.length (l.map encB)
theorem WRd.keep {w w' : World} {g : Nat} {l : List UInt8} (h : WRd w g l) (hb : Below w.heap.size w w') : WRd w' g l := by
  obtain ⟨A, c, h1, h2⟩ := h
  exact ⟨A, c, (hb.block g (Array.getElem?_eq_some_iff.1 h1).1).trans h1, own_below h2 hb⟩
theorem WRd.lt {w : World} {g : Nat} {l : List UInt8} (h : WRd w g l) : g < w.heap.size := by
  obtain ⟨A, c, h1, _⟩ := h
  exact (Array.getElem?_eq_some_iff.1 h1).1
theorem pnewwriter (w : World) : Calls Tryz.prog 29 #[] w fun e' w' => e' = .returned (.pointer (some ⟨w.heap.size, 0, none⟩)) ∧ WRd w' w.heap.size [] ∧ Below w.heap.size w w' := by
  go_enter Tryz.func29, Tryz.ntmps29
  go_wp2_with fail
  go_ret
  exact ⟨rfl, ⟨none, 0, heap_alloc_new _ _, World.ownsRow_nil _ _ _ _⟩, (Below.refl _ _).alloc (Nat.le_refl _) _⟩
/-- The row has grown, the writer holds it: what is left. -/
theorem wr_fin {g m : Nat} {w W w5 : World} {l ns : List UInt8} {A B : Option Addr} {c d : Nat} (hg : w.heap[g]? = some (.cells #[.slice A l.length c] 142 (0, 0))) (hb : Below w.heap.size w W)
    (hown2 : W.ownsRow (g + 1) 5 1 (.slice A l.length c) l.length (l.map encB)) (hgrow : W.grownBy w5 (Value.slice A l.length c).ownBlock) (hm : m = l.length + ns.length)
    (hown : w5.ownsRow (g + 1) 5 1 (.slice B m d) m (l.map encB ++ ns.map encB)) : WRd (w5.setCell ⟨g, 0, none⟩ (.slice B m d)) g (l ++ ns) ∧ Wr g w (w5.setCell ⟨g, 0, none⟩ (.slice B m d)) := by
  have hgl := (Array.getElem?_eq_some_iff.1 hg).1
  have hg5 : w5.heap[g]? = some (.cells #[.slice A l.length c] 142 (0, 0)) := (hgrow.block g (by have := hb.size; omega) (own_ne_low hown2 (Nat.lt_succ_self g))).trans ((hb.block g hgl).trans hg)
  have hl : (l ++ ns).length = m := by simp [hm]
  refine ⟨⟨B, d, ?_, ?_⟩, hgrow.os.trans hb.os, hgrow.tape.trans hb.tape, hgrow.output.trans hb.output, ?_, fun k o hk hne hor => ?_⟩
  · rw [hl]; exact blk1_put _ hg5
  · rw [hl, List.map_append]
    exact own_block hown (fun k h1 _ _ => Below.heap_setCell _ _ _ k (by simp; omega))
  · have := hgrow.size
    have := hb.size
    simp; omega
  · have hkl := (Array.getElem?_eq_some_iff.1 hk).1
    rw [Below.heap_setCell _ _ _ k (by simpa using hne)]
    have hkW := (hb.block k hkl).trans hk
    refine (hgrow.block k (by have := hb.size; omega) ?_).trans hkW
    rcases hor with h | h
    · exact own_ne_low hown2 (by omega)
    · cases o with
      | cells cs e z =>
        refine own_ne hown2 hkW (fun e' => ?_)
        subst e'
        simp [isU8] at h
      | _ =>
        intro he
        rcases hown2.2 with ⟨h1, _⟩ | ⟨g', cap, cur, h1, _, hh, _⟩
        · rw [h1] at he
          simp [Value.ownBlock] at he
        · rw [h1] at he
          have : k = g' := by simpa [Value.ownBlock] using he
          subst this
          rw [hkW] at hh
          cases hh
set_option maxRecDepth 100000 in
set_option maxHeartbeats 4000000 in
theorem pwbyte (g : Nat) (l : List UInt8) (x : Nat) (w : World) (hr : WRd w g l) (hl : l.length ≤ 1000000000) (hx : x < 256) :
    Calls Tryz.prog 82 #[.pointer (some ⟨g, 0, none⟩), .int .u8 x] w fun e' w' => e' = .returned (.tuple #[]) ∧ WRd w' g (l ++ [x.toUInt8]) ∧ Wr g w w' := by
  obtain ⟨i0, hi, hz0, hz1, hz2⟩ := info_parts infoU8
  obtain ⟨A, c, hg, hown⟩ := hr
  have hgl := (Array.getElem?_eq_some_iff.1 hg).1
  obtain ⟨x0, x0'⟩ := blk1 hg
  have hc : x.toUInt8.toNat = x := by simp; omega
  have HG := Lib.hid hg
  have HO := Lib.hid hown
  have hown2 : (w.alloc (.cells #[.int .u8 x] 5)).ownsRow (g + 1) 5 1 (.slice A l.length c) l.length (l.map encB) := hown.alloc _
  have HC := Lib.hid hc
  clear hg hown hc
  go_enter Tryz.func82, Tryz.ntmps82
  go_wp2_with (at_builtin; refine wpList_append_own _ rfl _ _ 34 rfl (g + 1) 5 i0 (.int .u8 0) 1 1 Tryz.underlying34 hi hz0 hz1 hz2 rfl (by decide) _ _ _ rfl hown2 ⟨w.heap.size, 0, none⟩ 1 1 [.int .u8 x] rfl rfl (fun j u hj => by rw [add0]; exact row_new w [.int .u8 x] 5 j u hj) (fun u hu => by simp at hu; subst hu; rfl) (by unfold maxLen; omega) (by omega) (by simp; omega) ?_)
  intro v' w5 hown' hgrow _
  obtain ⟨B, d, hv⟩ := own_isSliceE hown'
  subst hv
  have hb : Below w.heap.size w (w.alloc (.cells #[.int .u8 x] 5)) := (Below.refl _ _).alloc (Nat.le_refl _) _
  have hfin := wr_fin (ns := [x.toUInt8]) HG.out hb hown2 hgrow rfl (by simpa [encB, HC.out] using hown')
  have hg5 : w5.heap[g]? = some (.cells #[.slice A l.length c] 142 (0, 0)) := (hgrow.block g (by simp; omega) (own_ne_low hown2 (Nat.lt_succ_self g))).trans ((hb.block g hgl).trans HG.out)
  obtain ⟨y0, y0'⟩ := blk1 hg5
  have HFIN := Lib.hid hfin
  clear hfin hg5 hown' hgrow hown2 hb
  go_wp2_with fail
  exact bodyPost_end (v := .tuple #[]) (by simp [results, Tryz.results82, go_sem] <;> rfl) rfl ⟨rfl, HFIN.out.1, HFIN.out.2⟩
set_option maxRecDepth 100000 in
set_option maxHeartbeats 4000000 in
theorem pwuint (g : Nat) (l : List UInt8) (n : Nat) (w : World) (hr : WRd w g l) (hl : l.length ≤ 1000000000) (hn : n < 2 ^ 64) :
    Calls Tryz.prog 84 #[.pointer (some ⟨g, 0, none⟩), .int .u64 n] w fun e' w' => e' = .returned (.tuple #[]) ∧ WRd w' g (l ++ putL n) ∧ Wr g w w' := by
  obtain ⟨i0, hi, hz0, hz1, hz2⟩ := info_parts infoU8
  obtain ⟨A, c, hg, hown⟩ := hr
  have hgl := (Array.getElem?_eq_some_iff.1 hg).1
  obtain ⟨x0, x0'⟩ := blk1 hg
  have hpl : (putL n).length ≤ 11 := putF_len 10 n
  have hpp : 0 < (putL n).length := putF_pos 10 n
  have HG := Lib.hid hg
  have HO := Lib.hid hown
  have HP := Lib.hid (pput_any n w.drew hn)
  generalize putL n = ns at *
  clear hg hown
  go_enter Tryz.func84, Tryz.ntmps84
  go_wp2_with fail
  refine wp_region_ot (S := fun X => X.cell? ⟨g, 0, none⟩ = some (.slice A l.length c)) 10 [0, 1, 2, 3, 4, 5, 6, 7, 8, 9, 10] (by kernel_rfl) ?_
  have hS : w.drew.cell? ⟨g, 0, none⟩ = some (.slice A l.length c) := x0
  (iterate 6 (refine wpO_take (v := ?_) (by kernel_rfl) (fun _ _ _ h => h) (Or.inl ⟨by rfl, ?_⟩) hS ?_; rotate_left; (next => (rintro X r1; (try simp only [List.getD_cons_zero, List.getD_cons_succ, List.getElem?_toArray, List.getElem?_cons_zero, List.getElem?_cons_succ, Option.getD_some]); go_simp; rfl)); simp only [List.getD_cons_zero, List.getD_cons_succ, List.getElem?_toArray, List.getElem?_cons_zero, List.getElem?_cons_succ, Option.getD_some, Act.put, List.setIfInBounds_toArray, List.set_cons_zero, List.set_cons_succ]))
  (refine wpO_one (by kernel_rfl) (fun K1 hK1 => ?_); simp only [List.getD_cons_zero, List.getD_cons_succ, List.getElem?_toArray, List.getElem?_cons_zero, List.getElem?_cons_succ, Option.getD_some, Act.put, List.setIfInBounds_toArray, List.set_cons_zero, List.set_cons_succ]; rw [if_pos (by rfl)]; go_simp)
  refine HP.out.mono ?_
  rintro e' w2 ⟨Bp, cp, rfl, hownp, hb2⟩
  have hb : Below w.heap.size w w2 := (Below.refl _ w).drew.trans hb2
  have hS2 : w2.cell? ⟨g, 0, none⟩ = some (.slice A l.length c) := cell_keep hb x0
  refine hK1.out _ _ (fun _ => hS2) ?_
  clear hK1
  (refine wpO_one (by kernel_rfl) (fun K1 hK1 => ?_); simp only [List.getD_cons_zero, List.getD_cons_succ, List.getElem?_toArray, List.getElem?_cons_zero, List.getElem?_cons_succ, Option.getD_some, Act.put, List.setIfInBounds_toArray, List.set_cons_zero, List.set_cons_succ]; rw [if_pos (by rfl)])
  rcases hownp.2 with ⟨h1, h2⟩ | ⟨gp, cap, cur, h1, hbp, hhp, _⟩
  · omega
  have hcells : ∀ j u, (ns.map encB)[j]? = some u → w2.cell? ((⟨gp, 0, none⟩ : Addr).add j) = some u := fun j u hj => hownp.cells (g := gp) (by rw [h1]; rfl) j u hj
  injection h1 with h1 _ h3
  subst h1 h3
  have hown2 : w2.ownsRow (g + 1) 5 1 (.slice A l.length c) l.length (l.map encB) := own_below HO.out hb
  refine wpO_append (.tmp 10) (.tmp 12) 34 rfl (g + 1) 5 i0 (.int .u8 0) 1 1 Tryz.underlying34 hi hz0 hz1 hz2 rfl (by decide) (.slice A l.length c) l.length _ rfl hown2 ⟨gp, 0, none⟩ ns.length cp (ns.map encB) rfl (by simp) hcells (fun u hu => by obtain ⟨x, _, rfl⟩ := List.mem_map.1 hu; rfl) (by unfold maxLen; omega) (by omega) (by have := hb.size; omega) ?_
  intro v' w5 hown' hgrow _
  obtain ⟨B, d, hv⟩ := own_isSliceE hown'
  subst hv
  have hfin := wr_fin (ns := ns) HG.out hb hown2 hgrow rfl hown'
  have hg5 : w5.heap[g]? = some (.cells #[.slice A l.length c] 142 (0, 0)) := (hgrow.block g (by have := hb.size; omega) (own_ne_low hown2 (Nat.lt_succ_self g))).trans ((hb.block g hgl).trans HG.out)
  obtain ⟨y0, y0'⟩ := blk1 hg5
  refine hK1.out _ _ (fun _ => y0) ?_
  clear hK1
  (refine wpO_one (by kernel_rfl) (fun K1 hK1 => ?_); simp only [List.getD_cons_zero, List.getD_cons_succ, List.getElem?_toArray, List.getElem?_cons_zero, List.getElem?_cons_succ, Option.getD_some, Act.put, List.setIfInBounds_toArray, List.set_cons_zero, List.set_cons_succ]; rw [if_pos (by rfl)]; go_simp)
  refine hK1.out _ _ (fun _ => y0) ?_
  clear hK1
  (refine wpO_one (by kernel_rfl) (fun K1 hK1 => ?_); simp only [List.getD_cons_zero, List.getD_cons_succ, List.getElem?_toArray, List.getElem?_cons_zero, List.getElem?_cons_succ, Option.getD_some, Act.put, List.setIfInBounds_toArray, List.set_cons_zero, List.set_cons_succ]; rw [if_pos (by rfl)]; go_simp)
  refine hK1.out _ _ (fun _ => y0) ?_
  clear hK1
  (refine wpO_one (by kernel_rfl) (fun K1 hK1 => ?_); simp only [List.getD_cons_zero, List.getD_cons_succ, List.getElem?_toArray, List.getElem?_cons_zero, List.getElem?_cons_succ, Option.getD_some, Act.put, List.setIfInBounds_toArray, List.set_cons_zero, List.set_cons_succ]; rw [if_pos (by rfl)]; go_simp)
  refine hK1.out _ _ (fun h => absurd h (by decide)) ?_
  refine wpO_done (by kernel_rfl) ?_
  have HFIN := Lib.hid hfin
  generalize hW6 : w5.setCell ⟨g, 0, none⟩ (.slice B (l.length + ns.length) d) = W6 at *
  clear hfin hg5 hown' hgrow hown2 hb hK1 hS hS2 y0 y0' hcells hownp hb2
  go_wp2_with fail
  exact bodyPost_end (v := .tuple #[]) (by simp [results, Tryz.results84, go_sem] <;> rfl) rfl ⟨rfl, HFIN.out.1, HFIN.out.2⟩
set_option maxRecDepth 100000 in
set_option maxHeartbeats 4000000 in
theorem pwbytes (g : Nat) (l : List UInt8) (w : World) (hr : WRd w g l) (hl : l.length ≤ 1000000) :
    Calls Tryz.prog 39 #[.pointer (some ⟨g, 0, none⟩)] w fun e' w' => ∃ A c, e' = .returned (.slice A l.length c) ∧ Slc 1 RB w' A c l ∧ Below w.heap.size w w' := by
  obtain ⟨A, c, hg, hown⟩ := hr
  obtain ⟨x0, _⟩ := blk1 hg
  obtain ⟨A2, c2, hv, hs, _⟩ := slc_own (R := RB) (enc := encB) (fun w B b o x h => h) hown rfl
  injection hv with hv1 _ hv2
  subst hv1 hv2
  have HC := Lib.hid (pclone_any l A c w hs hl)
  clear hg hown hs
  go_enter Tryz.func39, Tryz.ntmps39
  go_wp2_with (go_at_call 85; refine HC.out.mono ?_; rintro e' w1 ⟨A', c', rfl, hs1, _, hb1⟩; have HS1 := Lib.hid hs1; have HB1 := Lib.hid hb1; clear hs1 hb1)
  go_ret
  exact ⟨A', c', rfl, HS1.out, HB1.out⟩
end Go.Proofs.YtbnljlpefpllcaaGreatDoor
namespace Go.Proofs.YtbnljlpefpllcaaGreatDoor
open Go Go.RowKit
def bl (s : ByteArray) : List UInt8 := s.data.toList
def ba (l : List UInt8) : ByteArray := ⟨l.toArray⟩
theorem ba_bl (s : ByteArray) : ba (bl s) = s := ba_ext (by simp [ba, bl])
theorem ba_bl_map (l : List ByteArray) : (l.map bl).map ba = l := by
  rw [List.map_map]
  conv => rhs; rw [← List.map_id l]
  exact List.map_congr_left (fun x _ => ba_bl x)
theorem bl_inj {s t : ByteArray} (h : bl s = bl t) : s = t := ba_ext h
/-- Inserts a name. -/
def insB (s : ByteArray) : List ByteArray → List ByteArray
  | [] => [s]
  | x :: r => if bl s < bl x then s :: x :: r else if s = x then x :: r else x :: insB s r
def tabB : List ByteArray → List ByteArray → List ByteArray
  | acc, [] => acc
  | acc, s :: r => tabB (insB s acc) r
theorem insB_eq (s : ByteArray) : ∀ l, (insB s l).map bl = insN (bl s) (l.map bl)
  | [] => rfl
  | x :: r => by
    unfold insB
    rw [List.map_cons, insN]
    by_cases h : bl s < bl x
    · rw [if_pos h, if_pos h]; rfl
    · rw [if_neg h, if_neg h]
      by_cases h2 : s = x
      · subst h2
        rw [if_pos rfl, if_pos rfl]; rfl
      · rw [if_neg h2, if_neg (fun e => h2 (bl_inj e)), List.map_cons, insB_eq s r]
theorem tabB_eq : ∀ (l acc : List ByteArray), (tabB acc l).map bl = tabN (acc.map bl) (l.map bl)
  | [], acc => rfl
  | s :: r, acc => by rw [tabB, tabB_eq r, insB_eq]; rfl
theorem tabB_sort (l : List ByteArray) : tabB [] l = (Lib.compact ((l.map bl).mergeSort (fun x y => decide (x ≤ y)))).map ba := by
  rw [table_eq, ← ba_bl_map (tabB [] l), tabB_eq]; rfl
theorem tabB_sorted (l : List ByteArray) : (tabB [] l).Pairwise (fun a b => bl a < bl b) := by
  have h := tabN_sorted (l.map bl) (acc := []) List.Pairwise.nil
  rw [show ([] : List (List UInt8)) = ([] : List ByteArray).map bl from rfl, ← tabB_eq] at h
  exact List.pairwise_map.1 h
theorem insB_len (s : ByteArray) : ∀ l, (insB s l).length ≤ l.length + 1
  | [] => by simp [insB]
  | x :: r => by
    unfold insB
    split
    · simp
    · split
      · simp
      · have := insB_len s r
        simp only [List.length_cons]; omega
end Go.Proofs.YtbnljlpefpllcaaGreatDoor
namespace Go.Proofs.YtbnljlpefpllcaaGreatDoor
open Go Go.RowKit
set_option maxRecDepth 100000 in
set_option maxHeartbeats 4000000 in
theorem ptypes_3 (h g t : Nat) (T : Option Addr) (c : Nat) (tbl : List ByteArray) (s : Rs) (w : World) (H : DTab w h g t T c tbl) (hr : PRd w g s) (he : (byteS s).2.err = 0) (htag : (byteS s).1 = 3) : Calls Tryz.prog 47 #[.pointer (some ⟨h, 0, none⟩)] w (TypePost g w (typeS s)) := by
  have HQ : Hid (typeS s = (⟨3, false, (numS (byteS s).2).1, (numS (numS (byteS s).2).2).1, []⟩, (numS (numS (byteS s).2).2).2)) := Lib.hid (by
    unfold typeS
    rw [if_pos he, if_pos (by omega), htag]
    rfl)
  have hgl := hr.lt; obtain ⟨W, hW⟩ : ∃ W, w.alloc (.cells #[.int .i64 0, .bool false, .int .i64 0, .int .i64 0, .slice none 0 0] 83) = W := ⟨_, rfl⟩; have hb : Below w.heap.size w W := (by rw [← hW]; exact (Below.refl _ _).alloc (Nat.le_refl _) _); have hk : W.heap[w.heap.size]? = some (.cells #[.int .i64 0, .bool false, .int .i64 0, .int .i64 0, .slice none 0 0] 83 (0, 0)) := (by rw [← hW]; exact heap_alloc_new w _); have HB := Lib.hid (pbyte_any g s W (hr.keep hb)); have y0 := (H.keep hb).c0; have HH := Lib.hid (H.keep hb); have HK := Lib.hid hk; have HW := Lib.hid hb; clear hr hk hb H
  have HN1 := Lib.hid (fun w1 (hr : PRd w1 g (byteS s).2) (hb : But g W w1) => pnum_any h g t T c tbl _ w1 (HH.out.but hb) hr)
  have HN2 := Lib.hid (fun w1 (hr : PRd w1 g (numS (byteS s).2).2) (hb : But g W w1) => pnum_any h g t T c tbl _ w1 (HH.out.but hb) hr)
  generalize typeS s = Q at *
  generalize (numS (numS (byteS s).2).2).1 = el at *
  generalize (numS (numS (byteS s).2).2).2 = s3 at *
  generalize numS (byteS s).2 = R2 at *
  obtain ⟨rg, s2⟩ := R2
  generalize byteS s = R at *
  obtain ⟨b, s1⟩ := R
  simp only at HB HQ HN1 HN2 he htag
  subst htag
  have hwW := HW.out.size
  go_enter Tryz.func47, Tryz.ntmps47
  go_wp2_with (go_at_call 90; refine HB.out.mono ?_; rintro e' w1 ⟨rfl, hr1, hb1⟩; have y1 := (HH.out.but hb1).c0; have hk1 := hb1.blk HK.out (by omega); obtain ⟨v0, v1, v2, v3, v4, v5⟩ := blk5 hk1; have v5a := v5 0; have v5b := v5 1; have v5c := v5 2; have v5d := v5 3; have v5e := v5 4; have HR1 := Lib.hid hr1; have HB1 := Lib.hid hb1; have HK1 := Lib.hid hk1; clear hr1 hb1 hk1 v5)
  go_at_call 50
  refine (HN1.out w1 HR1.out HB1.out).mono ?_
  rintro e' w2 ⟨rfl, hr2, hb2⟩
  have hb2 := HB1.out.trans hb2
  have hs2 := hb2.size
  obtain ⟨A2, hA2⟩ : ∃ A2, w2.alloc (.cells #[.int .i64 0, .bool false, .int .i64 0, .int .i64 0, .slice none 0 0] 83) = A2 := ⟨_, rfl⟩
  have hbA : Below w2.heap.size w2 A2 := by rw [← hA2]; exact (Below.refl _ _).alloc (Nat.le_refl _) _
  have hkA : A2.heap[w2.heap.size]? = some (.cells #[.int .i64 0, .bool false, .int .i64 0, .int .i64 0, .slice none 0 0] 83 (0, 0)) := by rw [← hA2]; exact heap_alloc_new w2 _
  obtain ⟨W3, hW3⟩ : ∃ W3, set5 A2 w2.heap.size (.int .i64 3) (.bool false) (.int .i64 rg) (.int .i64 0) (.slice none 0 0) = W3 := ⟨_, rfl⟩
  have hk3 : W3.heap[w2.heap.size]? = some (.cells #[.int .i64 3, .bool false, .int .i64 rg, .int .i64 0, .slice none 0 0] 83 (0, 0)) := by rw [← hW3]; exact blk5_set _ _ _ _ _ hkA
  have hb3 : But g W W3 := by rw [← hW3]; exact set5_but _ _ _ _ _ (hb2.trans (But.of_below hbA)) hs2
  have hr3 : PRd W3 g s2 := by rw [← hW3]; exact set5_prd _ _ _ _ _ (hr2.keep hbA) (by omega)
  have y2 := (HH.out.but hb2).c0
  have y3 := (HH.out.but hb3).c0
  obtain ⟨a0, a1, a2, a3, a4, a5⟩ := blk5 hkA
  have a5a := a5 0
  have a5b := a5 1
  have a5c := a5 2
  have a5d := a5 3
  have a5e := a5 4
  have HR3 := Lib.hid hr3
  have HB3 := Lib.hid hb3
  have HK3 := Lib.hid hk3
  unfold set5 at hW3
  clear hr2 hb2 hbA hkA hr3 hb3 hk3 a5
  go_wp2_with fail
  go_at_call 50
  refine (HN2.out W3 HR3.out HB3.out).mono ?_
  rintro e' w4 ⟨rfl, hr4, hb4⟩
  have hk4 := hb4.blk HK3.out (by omega)
  have hb4 := HB3.out.trans hb4
  have hk0 := hb4.blk HK.out (by omega)
  obtain ⟨c0, c1, c2, c3, c4, c5⟩ := blk5 hk4
  obtain ⟨d0, d1, d2, d3, d4, d5⟩ := blk5 hk0
  have c5d := c5 3
  have d5a := d5 0
  have d5b := d5 1
  have d5c := d5 2
  have d5d := d5 3
  have d5e := d5 4
  have HR4 := Lib.hid hr4
  have HB4 := Lib.hid hb4
  have HK4 := Lib.hid hk4
  have HK0 := Lib.hid hk0
  have hne : w2.heap.size ≠ w.heap.size := by
    have := (Array.getElem?_eq_some_iff.1 HK.out).1
    omega
  have hne' := hne.symm
  clear hr4 hb4 hk4 hk0 c5 d5 hW3 hA2 a0 a1 a2 a3 a4 a5a a5b a5c a5d a5e v0 v1 v2 v3 v4 v5a v5b v5c v5d v5e
  go_wp2_with fail
  have hkk := set_far (p := ⟨w2.heap.size, 3, none⟩) (.int .i64 el) HK0.out hne'
  refine type_fin (Q := Q) ⟨⟨3, false, rg, el, []⟩, none, 0⟩ hkk HW.out (but_far HB4.out hs2 3 (.int .i64 el)) (by rw [HQ.out]; exact HR4.out.low (by simp) (fun j hj => Below.heap_setCell _ _ _ j (by simp; omega))) hgl rfl (fun W5 n => ?_) (fun _ => ⟨by rw [HQ.out], World.ownsRow_nil _ _ _ _⟩)
  obtain ⟨u0, u1, u2, u3, u4, _⟩ := blk5 n
  simp [results, Tryz.results47, go_sem, u0, u1, u2, u3, u4] <;> rfl
end Go.Proofs.YtbnljlpefpllcaaGreatDoor
namespace Go.Proofs.YtbnljlpefpllcaaGreatDoor
open Go Go.RowKit
set_option maxRecDepth 100000 in
set_option maxHeartbeats 4000000 in
theorem ptypes_5 (h g t : Nat) (T : Option Addr) (c : Nat) (tbl : List ByteArray) (s : Rs) (w : World) (H : DTab w h g t T c tbl) (hr : PRd w g s) (he : (byteS s).2.err = 0) (htag : (byteS s).1 = 5) : Calls Tryz.prog 47 #[.pointer (some ⟨h, 0, none⟩)] w (TypePost g w (typeS s)) := by
  have HQ : Hid (typeS s = (⟨3, true, (numS (byteS s).2).1, (numS (numS (byteS s).2).2).1, []⟩, (numS (numS (byteS s).2).2).2)) := Lib.hid (by
    unfold typeS
    rw [if_pos he, if_pos (by omega), htag]
    rfl)
  have hgl := hr.lt; obtain ⟨W, hW⟩ : ∃ W, w.alloc (.cells #[.int .i64 0, .bool false, .int .i64 0, .int .i64 0, .slice none 0 0] 83) = W := ⟨_, rfl⟩; have hb : Below w.heap.size w W := (by rw [← hW]; exact (Below.refl _ _).alloc (Nat.le_refl _) _); have hk : W.heap[w.heap.size]? = some (.cells #[.int .i64 0, .bool false, .int .i64 0, .int .i64 0, .slice none 0 0] 83 (0, 0)) := (by rw [← hW]; exact heap_alloc_new w _); have HB := Lib.hid (pbyte_any g s W (hr.keep hb)); have y0 := (H.keep hb).c0; have HH := Lib.hid (H.keep hb); have HK := Lib.hid hk; have HW := Lib.hid hb; clear hr hk hb H
  have HN1 := Lib.hid (fun w1 (hr : PRd w1 g (byteS s).2) (hb : But g W w1) => pnum_any h g t T c tbl _ w1 (HH.out.but hb) hr)
  have HN2 := Lib.hid (fun w1 (hr : PRd w1 g (numS (byteS s).2).2) (hb : But g W w1) => pnum_any h g t T c tbl _ w1 (HH.out.but hb) hr)
  generalize typeS s = Q at *
  generalize (numS (numS (byteS s).2).2).1 = el at *
  generalize (numS (numS (byteS s).2).2).2 = s3 at *
  generalize numS (byteS s).2 = R2 at *
  obtain ⟨rg, s2⟩ := R2
  generalize byteS s = R at *
  obtain ⟨b, s1⟩ := R
  simp only at HB HQ HN1 HN2 he htag
  subst htag
  have hwW := HW.out.size
  go_enter Tryz.func47, Tryz.ntmps47
  go_wp2_with (go_at_call 90; refine HB.out.mono ?_; rintro e' w1 ⟨rfl, hr1, hb1⟩; have y1 := (HH.out.but hb1).c0; have hk1 := hb1.blk HK.out (by omega); obtain ⟨v0, v1, v2, v3, v4, v5⟩ := blk5 hk1; have v5a := v5 0; have v5b := v5 1; have v5c := v5 2; have v5d := v5 3; have v5e := v5 4; have HR1 := Lib.hid hr1; have HB1 := Lib.hid hb1; have HK1 := Lib.hid hk1; clear hr1 hb1 hk1 v5)
  go_at_call 50
  refine (HN1.out w1 HR1.out HB1.out).mono ?_
  rintro e' w2 ⟨rfl, hr2, hb2⟩
  have hb2 := HB1.out.trans hb2
  have hs2 := hb2.size
  obtain ⟨A2, hA2⟩ : ∃ A2, w2.alloc (.cells #[.int .i64 0, .bool false, .int .i64 0, .int .i64 0, .slice none 0 0] 83) = A2 := ⟨_, rfl⟩
  have hbA : Below w2.heap.size w2 A2 := by rw [← hA2]; exact (Below.refl _ _).alloc (Nat.le_refl _) _
  have hkA : A2.heap[w2.heap.size]? = some (.cells #[.int .i64 0, .bool false, .int .i64 0, .int .i64 0, .slice none 0 0] 83 (0, 0)) := by rw [← hA2]; exact heap_alloc_new w2 _
  obtain ⟨W3, hW3⟩ : ∃ W3, set5 A2 w2.heap.size (.int .i64 3) (.bool true) (.int .i64 rg) (.int .i64 0) (.slice none 0 0) = W3 := ⟨_, rfl⟩
  have hk3 : W3.heap[w2.heap.size]? = some (.cells #[.int .i64 3, .bool true, .int .i64 rg, .int .i64 0, .slice none 0 0] 83 (0, 0)) := by rw [← hW3]; exact blk5_set _ _ _ _ _ hkA
  have hb3 : But g W W3 := by rw [← hW3]; exact set5_but _ _ _ _ _ (hb2.trans (But.of_below hbA)) hs2
  have hr3 : PRd W3 g s2 := by rw [← hW3]; exact set5_prd _ _ _ _ _ (hr2.keep hbA) (by omega)
  have y2 := (HH.out.but hb2).c0
  have y3 := (HH.out.but hb3).c0
  obtain ⟨a0, a1, a2, a3, a4, a5⟩ := blk5 hkA
  have a5a := a5 0
  have a5b := a5 1
  have a5c := a5 2
  have a5d := a5 3
  have a5e := a5 4
  have HR3 := Lib.hid hr3
  have HB3 := Lib.hid hb3
  have HK3 := Lib.hid hk3
  unfold set5 at hW3
  clear hr2 hb2 hbA hkA hr3 hb3 hk3 a5
  go_wp2_with fail
  go_at_call 50
  refine (HN2.out W3 HR3.out HB3.out).mono ?_
  rintro e' w4 ⟨rfl, hr4, hb4⟩
  have hk4 := hb4.blk HK3.out (by omega)
  have hb4 := HB3.out.trans hb4
  have hk0 := hb4.blk HK.out (by omega)
  obtain ⟨c0, c1, c2, c3, c4, c5⟩ := blk5 hk4
  obtain ⟨d0, d1, d2, d3, d4, d5⟩ := blk5 hk0
  have c5d := c5 3
  have d5a := d5 0
  have d5b := d5 1
  have d5c := d5 2
  have d5d := d5 3
  have d5e := d5 4
  have HR4 := Lib.hid hr4
  have HB4 := Lib.hid hb4
  have HK4 := Lib.hid hk4
  have HK0 := Lib.hid hk0
  have hne : w2.heap.size ≠ w.heap.size := by
    have := (Array.getElem?_eq_some_iff.1 HK.out).1
    omega
  have hne' := hne.symm
  clear hr4 hb4 hk4 hk0 c5 d5 hW3 hA2 a0 a1 a2 a3 a4 a5a a5b a5c a5d a5e v0 v1 v2 v3 v4 v5a v5b v5c v5d v5e
  go_wp2_with fail
  have hkk := set_far (p := ⟨w2.heap.size, 3, none⟩) (.int .i64 el) HK0.out hne'
  refine type_fin (Q := Q) ⟨⟨3, true, rg, el, []⟩, none, 0⟩ hkk HW.out (but_far HB4.out hs2 3 (.int .i64 el)) (by rw [HQ.out]; exact HR4.out.low (by simp) (fun j hj => Below.heap_setCell _ _ _ j (by simp; omega))) hgl rfl (fun W5 n => ?_) (fun _ => ⟨by rw [HQ.out], World.ownsRow_nil _ _ _ _⟩)
  obtain ⟨u0, u1, u2, u3, u4, _⟩ := blk5 n
  simp [results, Tryz.results47, go_sem, u0, u1, u2, u3, u4] <;> rfl
end Go.Proofs.YtbnljlpefpllcaaGreatDoor
namespace Go.Proofs.YtbnljlpefpllcaaGreatDoor
open Go Go.RowKit
set_option maxRecDepth 100000 in
set_option maxHeartbeats 4000000 in
theorem ptypes_4 (h g t : Nat) (T : Option Addr) (c : Nat) (tbl : List ByteArray) (s : Rs) (w : World) (H : DTab w h g t T c tbl) (hr : PRd w g s) (he : (byteS s).2.err = 0) (htag : (byteS s).1 = 4) : Calls Tryz.prog 47 #[.pointer (some ⟨h, 0, none⟩)] w (TypePost g w (typeS s)) := by
  have HQ : Hid (typeS s = (⟨4, false, 0, 0, (listS numS (byteS s).2).1⟩, (listS numS (byteS s).2).2)) := Lib.hid (by
    unfold typeS
    rw [if_pos he, if_neg (by omega), if_pos htag])
  have hgl := hr.lt; obtain ⟨W, hW⟩ : ∃ W, w.alloc (.cells #[.int .i64 0, .bool false, .int .i64 0, .int .i64 0, .slice none 0 0] 83) = W := ⟨_, rfl⟩; have hb : Below w.heap.size w W := (by rw [← hW]; exact (Below.refl _ _).alloc (Nat.le_refl _) _); have hk : W.heap[w.heap.size]? = some (.cells #[.int .i64 0, .bool false, .int .i64 0, .int .i64 0, .slice none 0 0] 83 (0, 0)) := (by rw [← hW]; exact heap_alloc_new w _); have HB := Lib.hid (pbyte_any g s W (hr.keep hb)); have y0 := (H.keep hb).c0; have HH := Lib.hid (H.keep hb); have HK := Lib.hid hk; have HW := Lib.hid hb; clear hr hk hb H
  have HN1 := Lib.hid (fun w1 (hr : PRd w1 g (byteS s).2) (hb : But g W w1) => pitems_int h g t T c tbl _ w1 (HH.out.but hb) hr)
  generalize typeS s = Q at *
  generalize listS numS (byteS s).2 = R2 at *
  obtain ⟨fs, s2⟩ := R2
  generalize byteS s = R at *
  obtain ⟨b, s1⟩ := R
  simp only at HB HQ HN1 he htag
  subst htag
  have hwW := HW.out.size
  go_enter Tryz.func47, Tryz.ntmps47
  go_wp2_with (go_at_call 90; refine HB.out.mono ?_; rintro e' w1 ⟨rfl, hr1, hb1⟩; have y1 := (HH.out.but hb1).c0; have hk1 := hb1.blk HK.out (by omega); obtain ⟨v0, v1, v2, v3, v4, v5⟩ := blk5 hk1; have v5a := v5 0; have v5b := v5 1; have v5c := v5 2; have v5d := v5 3; have v5e := v5 4; have HR1 := Lib.hid hr1; have HB1 := Lib.hid hb1; have HK1 := Lib.hid hk1; clear hr1 hb1 hk1 v5)
  go_at_call 91
  refine (HN1.out w1 HR1.out HB1.out).mono ?_
  rintro e' w2 ⟨A', c', n', rfl, hr2, hb2, hf2⟩
  have hs1 := HB1.out.size
  have hb2 := HB1.out.trans hb2
  have hs2 := hb2.size
  have hk0 := hb2.blk HK.out (by omega)
  obtain ⟨d0, d1, d2, d3, d4, d5⟩ := blk5 hk0
  have d5a := d5 0
  have d5b := d5 1
  have d5c := d5 2
  have d5d := d5 3
  have d5e := d5 4
  have HR2 := Lib.hid hr2
  have HB2 := Lib.hid hb2
  have HK2 := Lib.hid hk0
  have HF2 := Lib.hid hf2
  clear hr2 hb2 hk0 hf2 d5 v0 v1 v2 v3 v4 v5a v5b v5c v5d v5e
  go_wp2_with fail
  obtain ⟨fs', hfs, hfe⟩ : ∃ fs' : List Int, fs'.length = n' ∧ (s2.err = 0 → fs' = fs) := by
    by_cases h0 : s2.err = 0
    · exact ⟨fs, (HF2.out h0).1, fun _ => rfl⟩
    · exact ⟨List.replicate n' 0, by simp, fun h1 => absurd h1 h0⟩
  subst hfs
  refine type_fin (Q := Q) ⟨⟨4, false, 0, 0, fs'⟩, A', c'⟩ HK2.out HW.out HB2.out (by rw [HQ.out]; exact HR2.out) hgl rfl (fun W5 n => ?_) (fun h0 => ?_)
  · obtain ⟨u0, u1, u2, u3, u4, _⟩ := blk5 n
    simp [results, Tryz.results47, go_sem, u0, u1, u2, u3, u4] <;> rfl
  · rw [HQ.out] at h0 ⊢
    have h1 := hfe h0
    subst h1
    refine ⟨rfl, ?_⟩
    have := (HF2.out h0).2
    rw [flat1] at this
    exact own_mono this (by omega)
end Go.Proofs.YtbnljlpefpllcaaGreatDoor
namespace Go.Proofs.YtbnljlpefpllcaaGreatDoor
open Go Go.RowKit
set_option maxRecDepth 100000 in
set_option maxHeartbeats 4000000 in
theorem ptypes_bad (h g t : Nat) (T : Option Addr) (c : Nat) (tbl : List ByteArray) (s : Rs) (w : World) (H : DTab w h g t T c tbl) (hr : PRd w g s) (he : (byteS s).2.err = 0) (htag : 5 < (byteS s).1) : Calls Tryz.prog 47 #[.pointer (some ⟨h, 0, none⟩)] w (TypePost g w (typeS s)) := by
  have HQ : Hid (typeS s = (⟨0, false, 0, 0, []⟩, ⟨[], 14⟩)) := Lib.hid (by
    unfold typeS
    rw [if_pos he, if_neg (by omega), if_neg (by omega), if_pos htag])
  have hb8 : (byteS s).1 < 256 := by
    unfold byteS
    split
    · split
      · show 0 < 256
        omega
      · exact UInt8.toNat_lt _
    · show 0 < 256
      omega
  have hgl := hr.lt; obtain ⟨W, hW⟩ : ∃ W, w.alloc (.cells #[.int .i64 0, .bool false, .int .i64 0, .int .i64 0, .slice none 0 0] 83) = W := ⟨_, rfl⟩; have hb : Below w.heap.size w W := (by rw [← hW]; exact (Below.refl _ _).alloc (Nat.le_refl _) _); have hk : W.heap[w.heap.size]? = some (.cells #[.int .i64 0, .bool false, .int .i64 0, .int .i64 0, .slice none 0 0] 83 (0, 0)) := (by rw [← hW]; exact heap_alloc_new w _); have HB := Lib.hid (pbyte_any g s W (hr.keep hb)); have y0 := (H.keep hb).c0; have HH := Lib.hid (H.keep hb); have HK := Lib.hid hk; have HW := Lib.hid hb; clear hr hk hb H
  have HN1 := Lib.hid (fun w1 (hr : PRd w1 g (byteS s).2) => pfail_any g _ 14 (by omega) w1 hr)
  generalize typeS s = Q at *
  generalize byteS s = R at *
  obtain ⟨b, s1⟩ := R
  have HF : Hid (failS 14 s1 = ⟨[], 14⟩) := Lib.hid (by unfold failS; rw [if_pos he])
  simp only at HB HQ HN1 he htag hb8
  have e0 : ((b : Int) == 0) = false := beq_false_of_ne (by omega)
  have e1 : ((b : Int) == 1) = false := beq_false_of_ne (by omega)
  have e2 : ((b : Int) == 2) = false := beq_false_of_ne (by omega)
  have e3 : ((b : Int) == 3) = false := beq_false_of_ne (by omega)
  have e4 : ((b : Int) == 4) = false := beq_false_of_ne (by omega)
  have e5 : ((b : Int) == 5) = false := beq_false_of_ne (by omega)
  have ew : IntKind.i64.wrap (b : Int) = (b : Int) := by rw [IntKind.wrap_i64]; omega
  have hwW := HW.out.size
  go_enter Tryz.func47, Tryz.ntmps47
  go_wp2_with (go_at_call 90; refine HB.out.mono ?_; rintro e' w1 ⟨rfl, hr1, hb1⟩; have y1 := (HH.out.but hb1).c0; have hk1 := hb1.blk HK.out (by omega); obtain ⟨v0, v1, v2, v3, v4, v5⟩ := blk5 hk1; have v5a := v5 0; have v5b := v5 1; have v5c := v5 2; have v5d := v5 3; have v5e := v5 4; have HR1 := Lib.hid hr1; have HB1 := Lib.hid hb1; have HK1 := Lib.hid hk1; clear hr1 hb1 hk1 v5)
  go_at_call 87
  refine (HN1.out w1 HR1.out).mono ?_
  rintro e' w2 ⟨rfl, hr2, hb2⟩
  have hb2 := HB1.out.trans hb2
  have hk0 := hb2.blk HK.out (by omega)
  obtain ⟨d0, d1, d2, d3, d4, d5⟩ := blk5 hk0
  have d5a := d5 0
  have d5b := d5 1
  have d5c := d5 2
  have d5d := d5 3
  have d5e := d5 4
  have HR2 := Lib.hid hr2
  have HB2 := Lib.hid hb2
  have HK2 := Lib.hid hk0
  clear hr2 hb2 hk0 d5 v0 v1 v2 v3 v4 v5a v5b v5c v5d v5e
  go_wp2_with fail
  refine type_fin (Q := Q) ⟨⟨0, false, 0, 0, []⟩, none, 0⟩ HK2.out HW.out HB2.out (by rw [HQ.out, ← HF.out]; exact HR2.out) hgl rfl (fun W5 n => ?_) (fun h0 => by rw [HQ.out] at h0; cases h0)
  obtain ⟨u0, u1, u2, u3, u4, _⟩ := blk5 n
  simp [results, Tryz.results47, go_sem, u0, u1, u2, u3, u4] <;> rfl
end Go.Proofs.YtbnljlpefpllcaaGreatDoor
namespace Go.Proofs.YtbnljlpefpllcaaGreatDoor
open Go Go.RowKit
/-- Behind an error f keeps it. -/
def Stay {α : Type} (f : Rs → α × Rs) : Prop := ∀ s, s.err ≠ 0 → (f s).2.err = s.err
theorem uint_stay (most : Nat) : Stay (uintS most) := fun s h => by unfold uintS; rw [if_neg h]
theorem count_stay (most : Nat) : Stay (countS most) := fun s h => by unfold countS; rw [if_neg h]
theorem byte_stay : Stay byteS := fun s h => by unfold byteS; rw [if_neg h]
theorem num_stay : Stay numS := fun s h => uint_stay _ s h
theorem name_stay (t : List ByteArray) : Stay (nameS t) := fun s h => by
  have := uint_stay 65535 s h
  unfold nameS
  rw [if_neg (by rw [this]; exact h)]
  exact this
theorem pair_stay : Stay pairS := fun s h => by
  unfold pairS
  have := num_stay s h
  rw [num_stay _ (by rw [this]; exact h), this]
theorem items_stay {α : Type} {f : Rs → α × Rs} (hf : Stay f) : ∀ n s, s.err ≠ 0 → (itemsS f n s).2.err = s.err
  | 0, _, _ => rfl
  | n + 1, s, h => by
    unfold itemsS
    have := hf s h
    rw [if_neg (by rw [this]; exact h)]
    exact this
theorem list_stay {α : Type} {f : Rs → α × Rs} (hf : Stay f) : Stay (listS f) := fun s h => by
  unfold listS
  have := count_stay 65535 s h
  rw [items_stay hf _ _ (by rw [this]; exact h), this]
theorem type_stay : Stay typeS := fun s h => by
  unfold typeS
  have := byte_stay s h
  rw [if_neg (by rw [this]; exact h)]
  exact this
theorem local_stay (t : List ByteArray) : Stay (localS t) := fun s h => by
  unfold localS
  have := name_stay t s h
  rw [num_stay _ (by rw [this]; exact h), this]
/-! ## Writing what was read -/
theorem idxN_at {t : List ByteArray} (hn : t.Nodup) : ∀ (j k : Nat) (s : ByteArray), t[j]? = some s → idxN s k t = ((k + j : Nat) : Int) := by
  induction t with
  | nil => intro j k s h; simp at h
  | cons x r ih =>
    intro j k s h
    obtain ⟨h1, h2⟩ := List.nodup_cons.1 hn
    unfold idxN
    cases j with
    | zero =>
      have : x = s := by simpa using h
      rw [if_pos this]; rfl
    | succ j =>
      have h' : r[j]? = some s := by simpa using h
      have hne : x ≠ s := fun e => h1 (e ▸ List.mem_of_getElem? h')
      rw [if_neg hne, ih h2 j (k + 1) s h']
      congr 1
      omega
/-! ## A proper prefix -/
end Go.Proofs.YtbnljlpefpllcaaGreatDoor
