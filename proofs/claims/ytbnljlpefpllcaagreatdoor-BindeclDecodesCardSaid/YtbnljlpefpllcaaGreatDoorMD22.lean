/-
  Parts of the proof: EN Z0 Z1 Z2.
-/
import Derived.Test.YtbnljlpefpllcaaGreatDoorMD10
import Derived.Test.YtbnljlpefpllcaaGreatDoorMD11
import Derived.Test.YtbnljlpefpllcaaGreatDoorMD14
import Derived.Test.YtbnljlpefpllcaaGreatDoorMD21
import Derived.Test.YtbnljlpefpllcaaGreatDoorMD8
import Derived.Test.YtbnljlpefpllcaaGreatDoorMD7
import Derived.Test.YtbnljlpefpllcaaGreatDoorSg
namespace Go.Proofs.YtbnljlpefpllcaaGreatDoor
open Go Go.RowKit
/-- What Encode writes, and its error. -/
def declX (tbl : List ByteArray) (b : Bdy) : List UInt8 := nameX tbl b.name ++ (listW (nameX tbl) b.regions ++ (listW pairW b.outl ++ (listW typeW b.types ++ (listW (localX tbl) b.locals ++ putI b.args))))
def declErr (tbl : List ByteArray) (b : Bdy) : Int := b.locals.foldl (fun e (s : Lc) => errX tbl s.name e) (b.regions.foldl (fun e s => errX tbl s e) (errX tbl b.name 0))
theorem chk_decl {b : Bdy} (h : chkB b = 0) : declC b = 0 := by
  unfold chkB at h
  by_cases h0 : declC b = 0
  · exact h0
  · rw [if_neg h0] at h
    exact absurd h h0
/-- What Encode leaves. -/
def EncPost (tbl : List ByteArray) (b : Bdy) (w : World) (e' : Ending) (w' : World) : Prop :=
  Below w.heap.size w w' ∧ (chkB b ≠ 0 → e' = .returned (.tuple #[.slice none 0 0, .int .i64 16])) ∧
  (chkB b = 0 → declErr tbl b ≠ 0 → e' = .returned (.tuple #[.slice none 0 0, .int .i64 (declErr tbl b)])) ∧
  (chkB b = 0 → declErr tbl b = 0 → ∃ A c, e' = .returned (.tuple #[.slice A (declX tbl b).length c, .int .i64 0]) ∧ Slc 1 RB w' A c (declX tbl b))
set_option maxRecDepth 100000 in
set_option maxHeartbeats 8000000 in
theorem pencode_any (b : Bdy) (bh : BH) (t : Nat) (T : Option Addr) (c : Nat) (tbl : List ByteArray) (w : World) (H : BdAt w b bh) (hT : TabsOk w) (ht : TabAt w t T c tbl) (hsort : tbl.Pairwise (fun a b => bl a < bl b)) (htl : tbl.length ≤ 1000000) (hlen : chkB b = 0 → (declX tbl b).length ≤ 1000000) :
    Calls Tryz.prog 11 #[.agg (bdC b bh).toArray, .pointer (some ⟨t, 0, none⟩)] w (EncPost tbl b w) := by
  obtain ⟨A1, a1, A2, a2, A3, a3, A4, a4, A5, a5⟩ := bh
  obtain ⟨W, hW⟩ : ∃ W, w.alloc (.cells #[.string b.name, .slice A1 b.regions.length a1, .slice A2 b.outl.length a2, .slice A3 b.types.length a3, .slice A4 b.locals.length a4, .int .i64 b.args, .slice A5 b.blocks.length a5] 28) = W := ⟨_, rfl⟩
  have hb : Below w.heap.size w W := by rw [← hW]; exact (Below.refl _ _).alloc (Nat.le_refl _) _
  have hk : W.heap[w.heap.size]? = some (.cells #[.string b.name, .slice A1 b.regions.length a1, .slice A2 b.outl.length a2, .slice A3 b.types.length a3, .slice A4 b.locals.length a4, .int .i64 b.args, .slice A5 b.blocks.length a5] 28 (0, 0)) := by rw [← hW]; exact heap_alloc_new w _
  have HCHK : Hid (Calls Tryz.prog 28 #[.agg #[.string b.name, .slice A1 b.regions.length a1, .slice A2 b.outl.length a2, .slice A3 b.types.length a3, .slice A4 b.locals.length a4, .int .i64 b.args, .slice A5 b.blocks.length a5]] W fun e' w' => e' = .returned (.int .i64 (chkB b)) ∧ Below W.heap.size W w') := Lib.hid (vcheck_any b ⟨A1, a1, A2, a2, A3, a3, A4, a4, A5, a5⟩ W (H.keep hb) (hT.keep hb))
  have HH := Lib.hid (H.keep hb)
  have HT := Lib.hid (ht.keep hb)
  have HSO := Lib.hid hsort
  have HLN := Lib.hid hlen
  have HB := Lib.hid hb
  have HK := Lib.hid hk
  obtain ⟨x0, x1, x2, x3, x4, x5, x6, _⟩ := blk7 hk
  have HDF := Lib.hid (fun h => chk_decl (b := b) h)
  obtain ⟨ch, hch⟩ : ∃ ch, chkB b = ch := ⟨_, rfl⟩
  have HCH := Lib.hid hch
  rw [hch] at HCHK HLN HDF
  clear H hT ht hsort hlen hb hk hch
  change Calls _ _ #[.agg #[.string b.name, .slice A1 b.regions.length a1, .slice A2 b.outl.length a2, .slice A3 b.types.length a3, .slice A4 b.locals.length a4, .int .i64 b.args, .slice A5 b.blocks.length a5], .pointer (some ⟨t, 0, none⟩)] _ _
  go_enter Tryz.func11, Tryz.ntmps11
  by_cases h0 : ch = 0
  case neg =>
    have e1 : (ch == 0) = false := by simp [h0]
    have e2 : (ch != 0) = true := by simp [h0]
    have H0 := Lib.hid h0
    clear h0
    go_wp2_with fail
    go_at_call 28
    refine HCHK.out.mono ?_
    rintro e' w1 ⟨rfl, hb1⟩
    have HB1 := Lib.hid (HB.out.trans (hb1.mono HB.out.size))
    clear hb1
    go_wp2_with fail
    refine bodyPost_ret (v := .tuple #[.slice none 0 0, .int .i64 16]) (by simp [results, Tryz.results11, go_sem] <;> rfl) rfl ?_
    unfold EncPost
    rw [HCH.out]
    exact ⟨HB1.out, fun _ => rfl, fun h => absurd h H0.out, fun h => absurd h H0.out⟩
  case pos =>
  subst h0
  have hdc := HDF.out rfl
  have hok := decl_facts hdc
  have hty := hok.typC
  unfold typesC at hty
  rw [if_neg (by have := hok.ntyp; omega)] at hty
  have HTG := Lib.hid (typesE_read (by have := hok.nreg; omega) _ _ _ (by simpa using hok.ntyp) hty)
  have HPA := Lib.hid hok.pairs
  have HLO := Lib.hid hok.locs
  have hnreg := hok.nreg
  have hntyp := hok.ntyp
  have hnloc := hok.nloc
  have hargs := hok.args
  have HLEN := Lib.hid (HLN.out rfl)
  clear hdc hok hty HDF HLN
  go_wp2_with fail
  go_at_call 28
  refine HCHK.out.mono ?_
  rintro e' w1 ⟨rfl, hb1⟩
  have hbd := HH.out.keep hb1
  have htb := HT.out.keep hb1
  have hk1 := (hb1.block _ (Array.getElem?_eq_some_iff.1 HK.out).1).trans HK.out
  have hkl := (Array.getElem?_eq_some_iff.1 hk1).1
  have HBD := Lib.hid hbd
  have HTB := Lib.hid htb
  have HK1 := Lib.hid hk1
  have HB1 := Lib.hid (HB.out.trans (hb1.mono HB.out.size))
  clear hbd htb hk1 hb1 HCHK
  go_wp2_with fail
  go_at_call 29
  refine (pnewwriter w1).mono ?_
  rintro e' w2 ⟨rfl, hw2, hb2⟩
  have hs2 := hw2.lt
  obtain ⟨W3, hW3⟩ : ∃ W3, w2.alloc (.cells #[.pointer (some ⟨w1.heap.size, 0, none⟩), .pointer (some ⟨t, 0, none⟩), .int .i64 0] 75) = W3 := ⟨_, rfl⟩
  have hb3 : Below w2.heap.size w2 W3 := by rw [← hW3]; exact (Below.refl _ _).alloc (Nat.le_refl _) _
  have hes : ES w1 w2.heap.size w1.heap.size t W3 0 [] := ⟨hb2.trans (hb3.mono hb2.size), by rw [← hW3]; exact heap_alloc_new w2 _, hw2.keep hb3, Nat.le_refl _, hs2⟩
  have HES := Lib.hid hes
  have HB3 := Lib.hid (hb2.trans (hb3.mono hb2.size))
  have kcell : ∀ Z, Below w1.heap.size w1 Z → Z.heap[w.heap.size]? = some (.cells #[.string b.name, .slice A1 b.regions.length a1, .slice A2 b.outl.length a2, .slice A3 b.types.length a3, .slice A4 b.locals.length a4, .int .i64 b.args, .slice A5 b.blocks.length a5] 28 (0, 0)) := fun Z hZ => (hZ.block _ hkl).trans HK1.out
  have KC := Lib.hid kcell
  clear x0 x1 x2 x3 x4 x5 x6
  obtain ⟨x0, _, _, _, _, _, _, _⟩ := blk7 (kcell W3 hes.bel)
  clear hw2 hb2 hb3 hes kcell
  have HLX : Hid ((nameX tbl b.name).length + (listW (nameX tbl) b.regions).length + (listW pairW b.outl).length + (listW typeW b.types).length + (listW (localX tbl) b.locals).length + (putI b.args).length ≤ 1000000) := Lib.hid (by
    have h := HLEN.out
    unfold declX at h
    simp only [List.length_append] at h
    omega)
  have HDX : Hid (declX tbl b = [] ++ nameX tbl b.name ++ listW (nameX tbl) b.regions ++ listW pairW b.outl ++ listW typeW b.types ++ listW (localX tbl) b.locals ++ putI b.args) := Lib.hid (by unfold declX; simp only [List.nil_append, List.append_assoc])
  have HDE : Hid (declErr tbl b = b.locals.foldl (fun e (s : Lc) => errX tbl s.name e) (b.types.foldl (fun e _ => e) (b.outl.foldl (fun e _ => e) (b.regions.foldl (fun e s => errX tbl s e) (errX tbl b.name 0))))) := Lib.hid (by rw [fold_same, fold_same]; rfl)
  obtain ⟨er, hre⟩ : ∃ er, declErr tbl b = er := ⟨_, rfl⟩
  obtain ⟨dx, hxe⟩ : ∃ dx, declX tbl b = dx := ⟨_, rfl⟩
  have HRE := Lib.hid hre
  have HXE := Lib.hid hxe
  rw [hre] at HDE
  rw [hxe] at HDX HLEN
  clear hre hxe
  go_wp2_with fail
  go_at_call 30
  refine (ename_any w1 w2.heap.size w1.heap.size t T c tbl 0 [] b.name W3 HTB.out HSO.out htl HES.out (by have h := HLX.out; simp only [List.length_append, List.length_nil]; omega)).mono ?_
  rintro e' w4 ⟨rfl, hs4, _⟩
  obtain ⟨_, x1, _, _, _, _, _, _⟩ := blk7 (KC.out w4 hs4.bel)
  have HS4 := Lib.hid hs4
  clear hs4
  go_wp2_with fail
  go_at_call 31
  refine (elist_str w1 w2.heap.size w1.heap.size t T c tbl _ _ b.regions A1 a1 w4 HTB.out HSO.out htl HBD.out.reg HS4.out (fun _ _ => trivial) (by have h := HLX.out; simp only [List.length_append, List.length_nil]; omega)).mono ?_
  rintro e' w5 ⟨rfl, hs5, _⟩
  obtain ⟨_, _, x2, _, _, _, _, _⟩ := blk7 (KC.out w5 hs5.bel)
  have HS5 := Lib.hid hs5
  clear hs5
  go_wp2_with fail
  go_at_call 32
  refine (elist_pair w1 w2.heap.size w1.heap.size t _ _ b.outl A2 a2 w5 HBD.out.out HS5.out (fun p hp => by have := HPA.out p hp; omega) (by have h := HLX.out; simp only [List.length_append, List.length_nil]; omega)).mono ?_
  rintro e' w6 ⟨rfl, hs6, _⟩
  obtain ⟨_, _, _, x3, _, _, _, _⟩ := blk7 (KC.out w6 hs6.bel)
  have HS6 := Lib.hid hs6
  clear hs6
  go_wp2_with fail
  go_at_call 34
  refine (elist_typ w1 w2.heap.size w1.heap.size t _ _ b.types A3 a3 w6 HBD.out.typ HS6.out HTG.out (by have h := HLX.out; simp only [List.length_append, List.length_nil]; omega)).mono ?_
  rintro e' w7 ⟨rfl, hs7, _⟩
  obtain ⟨_, _, _, _, x4, _, _, _⟩ := blk7 (KC.out w7 hs7.bel)
  have HS7 := Lib.hid hs7
  clear hs7
  go_wp2_with fail
  go_at_call 36
  refine (elist_loc w1 w2.heap.size w1.heap.size t T c tbl _ _ b.locals A4 a4 w7 HTB.out HSO.out htl HBD.out.loc HS7.out (fun p hp => by have := (HLO.out p hp).2; omega) (by have h := HLX.out; simp only [List.length_append, List.length_nil]; omega)).mono ?_
  rintro e' w8 ⟨rfl, hs8, _⟩
  obtain ⟨_, _, _, _, _, x5, _, _⟩ := blk7 (KC.out w8 hs8.bel)
  have HS8 := Lib.hid hs8
  clear hs8
  go_wp2_with fail
  go_at_call 38
  refine (enum_any w1 w2.heap.size w1.heap.size t _ _ b.args w8 HS8.out (by omega) (by have h := HLX.out; simp only [List.length_append, List.length_nil]; omega)).mono ?_
  rintro e' w9 ⟨rfl, hs9, _⟩
  rw [← HDE.out, ← HDX.out] at hs9
  obtain ⟨y0, y1, y2, _⟩ := trip hs9.at_
  have HS9 := Lib.hid hs9
  have HB9 : Hid (Below w.heap.size w w9) := Lib.hid (HB1.out.trans (hs9.bel.mono HB1.out.size))
  have HLL := Lib.hid HLEN.out
  clear hs9
  by_cases her : er = 0
  · subst her
    have HYB := Lib.hid (pwbytes w1.heap.size dx w9 HS9.out.wr HLL.out)
    go_wp2_with fail
    go_at_call 39
    refine HYB.out.mono ?_
    rintro e' w10 ⟨A', c', rfl, hs10, hb10⟩
    have HS10 := Lib.hid hs10
    have HB10 := Lib.hid hb10
    clear hs10 hb10
    go_wp2_with fail
    refine bodyPost_ret (v := .tuple #[.slice A' dx.length c', .int .i64 0]) (by simp [results, Tryz.results11, go_sem] <;> rfl) rfl ?_
    unfold EncPost
    rw [HCH.out, HRE.out, HXE.out]
    exact ⟨HB9.out.trans (HB10.out.mono HB9.out.size), fun h => absurd rfl h, fun _ h => absurd rfl h, fun _ _ => ⟨A', c', rfl, HS10.out⟩⟩
  · have e1 : (er == 0) = false := by simp [her]
    have e2 : (er != 0) = true := by simp [her]
    have HER := Lib.hid her
    clear her
    go_wp2_with fail
    go_quiet (fail)
    go_wp2_with fail
    refine bodyPost_ret (v := .tuple #[.slice none 0 0, .int .i64 er]) (by simp [results, Tryz.results11, go_sem] <;> rfl) rfl ?_
    unfold EncPost
    rw [HCH.out, HRE.out, HXE.out]
    exact ⟨below_drewN HB9.out _, fun h => absurd rfl h, fun _ _ => rfl, fun _ h => absurd h HER.out⟩
end Go.Proofs.YtbnljlpefpllcaaGreatDoor
namespace Go.Proofs.YtbnljlpefpllcaaGreatDoor
open Go Go.RowKit
def exB : Bdy := ⟨⟨#[102]⟩, [⟨#[97]⟩], [], [⟨2, false, 0, 0, []⟩], [⟨⟨#[120]⟩, 0⟩], 0, [⟨[], ⟨2, [], [], ⟨0, []⟩, ⟨#[]⟩⟩⟩]⟩
def exT : List ByteArray := [⟨#[97]⟩, ⟨#[102]⟩, ⟨#[120]⟩]
def exL : List UInt8 := [1, 1, 0, 0, 1, 2, 1, 2, 0, 0]
set_option maxRecDepth 100000
theorem ex_chk : chkB exB = 0 := by decide
theorem ex_decl : declX exT exB = exL := by decide
theorem ex_err : declErr exT exB = 0 := by decide
theorem ex_tab : tabB [] exT = exT := by decide
theorem ex_dec : (decS exT exL) = ({ exB with blocks := [] }, 0) := by decide
end Go.Proofs.YtbnljlpefpllcaaGreatDoor
namespace Go.Proofs.YtbnljlpefpllcaaGreatDoor
open Go Go.RowKit
/-- A slice of one item, just made. -/
theorem slc_new {α : Type} {k : Nat} {R : Rd α} {W : World} {n : Nat} {x : α} (hn : n < W.heap.size) (h : R W W.heap.size n 0 x) : Slc k R W (some ⟨n, 0, none⟩) 1 [x] := by
  refine ⟨fun _ => ⟨n, 0, rfl, hn, fun i y hi => ?_⟩, by simp, by omega⟩
  cases i with
  | zero =>
    simp only [List.getElem?_cons_zero, Option.some.injEq] at hi
    subst hi
    rw [Nat.zero_mul]
    exact h
  | succ i => simp at hi
theorem cell_of {W : World} {n : Nat} {vs : Array Value} {t : TypeId} (h : W.heap[n]? = some (.cells vs t (0, 0))) (j : Nat) : W.cell? ⟨n, j, none⟩ = vs[j]? := by
  simp [World.cell?, h]
set_option maxRecDepth 100000 in
set_option maxHeartbeats 8000000 in
theorem pdecode_nil (A : Option Addr) (n c : Nat) (w : World) :
    Calls Tryz.prog 14 #[.slice A n c, .pointer none] w (fun e' w' => e' = .returned (.tuple #[.agg #[.string ⟨#[]⟩, .slice none 0 0, .slice none 0 0, .slice none 0 0, .slice none 0 0, .int .i64 0, .slice none 0 0], .int .i64 1]) ∧ Below w.heap.size w w') := by
  obtain ⟨W, hW⟩ : ∃ W, w.alloc (.cells #[.string ⟨#[]⟩, .slice none 0 0, .slice none 0 0, .slice none 0 0, .slice none 0 0, .int .i64 0, .slice none 0 0] 28) = W := ⟨_, rfl⟩
  have hb : Below w.heap.size w W := by rw [← hW]; exact (Below.refl _ _).alloc (Nat.le_refl _) _
  have hk : W.heap[w.heap.size]? = some (.cells #[.string ⟨#[]⟩, .slice none 0 0, .slice none 0 0, .slice none 0 0, .slice none 0 0, .int .i64 0, .slice none 0 0] 28 (0, 0)) := by rw [← hW]; exact heap_alloc_new w _
  obtain ⟨d0, d1, d2, d3, d4, d5, d6, d7⟩ := blk7 hk
  have d70 := d7 0
  have d71 := d7 1
  have d72 := d7 2
  have d73 := d7 3
  have d74 := d7 4
  have d75 := d7 5
  have d76 := d7 6
  have HB := Lib.hid hb
  have HK := Lib.hid hk
  clear hb hk d7
  go_enter Tryz.func14, Tryz.ntmps14
  go_wp2_with fail
  generalize hW7 : ((((((W.setCell ⟨w.heap.size, 0, none⟩ (.string ⟨#[]⟩)).setCell ⟨w.heap.size, 1, none⟩ (.slice none 0 0)).setCell ⟨w.heap.size, 2, none⟩ (.slice none 0 0)).setCell ⟨w.heap.size, 3, none⟩ (.slice none 0 0)).setCell ⟨w.heap.size, 4, none⟩ (.slice none 0 0)).setCell ⟨w.heap.size, 5, none⟩ (.int .i64 0)).setCell ⟨w.heap.size, 6, none⟩ (.slice none 0 0) = W7
  have hW7' : set7 W w.heap.size (.string ⟨#[]⟩) (.slice none 0 0) (.slice none 0 0) (.slice none 0 0) (.slice none 0 0) (.int .i64 0) (.slice none 0 0) = W7 := hW7
  have n := blk7_set (.string ⟨#[]⟩) (.slice none 0 0) (.slice none 0 0) (.slice none 0 0) (.slice none 0 0) (.int .i64 0) (.slice none 0 0) HK.out
  have hB7 : Below w.heap.size w W7 := by
    rw [← hW7']
    exact set7_below _ _ _ _ _ _ _ HB.out (Nat.le_refl _)
  rw [hW7'] at n
  clear hW7 hW7'
  obtain ⟨u0, u1, u2, u3, u4, u5, u6, _⟩ := blk7 n
  refine bodyPost_ret (v := .tuple #[.agg #[.string ⟨#[]⟩, .slice none 0 0, .slice none 0 0, .slice none 0 0, .slice none 0 0, .int .i64 0, .slice none 0 0], .int .i64 1]) (by simp [results, Tryz.results14, go_sem, u0, u1, u2, u3, u4, u5, u6] <;> rfl) rfl ?_
  exact ⟨rfl, hB7⟩
def exW1 (w : World) : World := w.alloc (.cells #[.string ⟨#[102]⟩, .slice (some ⟨w.heap.size + 1, 0, none⟩) 1 1, .slice none 0 0, .slice (some ⟨w.heap.size + 1 + 1, 0, none⟩) 1 1, .slice (some ⟨w.heap.size + 1 + 1 + 1, 0, none⟩) 1 1, .int .i64 0, .slice (some ⟨w.heap.size + 1 + 1 + 1 + 1, 0, none⟩) 1 1] 28)
def exW2 (w : World) : World := (exW1 w).alloc (.cells #[.string ⟨#[97]⟩] 9)
def exW3 (w : World) : World := (exW2 w).alloc (.cells #[.int .i64 2, .bool false, .int .i64 0, .int .i64 0, .slice none 0 0] 83)
def exW4 (w : World) : World := (exW3 w).alloc (.cells #[.string ⟨#[120]⟩, .int .i64 0] 87)
def exW5 (w : World) : World := (exW4 w).alloc (.cells #[.slice none 0 0, .int .i64 2, .slice none 0 0, .slice none 0 0, .int .i64 0, .slice none 0 0, .string ⟨#[]⟩] 60)
def exH (w : World) : BH := ⟨some ⟨w.heap.size + 1, 0, none⟩, 1, none, 0, some ⟨w.heap.size + 1 + 1, 0, none⟩, 1, some ⟨w.heap.size + 1 + 1 + 1, 0, none⟩, 1, some ⟨w.heap.size + 1 + 1 + 1 + 1, 0, none⟩, 1⟩
theorem size_w (w : World) (o : Obj) : (w.alloc o).heap.size = w.heap.size + 1 := by simp
theorem al_keep (w : World) (o : Obj) : Below w.heap.size w (w.alloc o) := (Below.refl _ _).alloc (Nat.le_refl _) _
theorem exW_below (w : World) : Below w.heap.size w (exW5 w) := by
  have h1 : Below w.heap.size w (exW1 w) := al_keep _ _
  have h2 : Below (exW1 w).heap.size (exW1 w) (exW2 w) := al_keep _ _
  have h3 : Below (exW2 w).heap.size (exW2 w) (exW3 w) := al_keep _ _
  have h4 : Below (exW3 w).heap.size (exW3 w) (exW4 w) := al_keep _ _
  have h5 : Below (exW4 w).heap.size (exW4 w) (exW5 w) := al_keep _ _
  exact keep0 h5 (keep0 h4 (keep0 h3 (keep0 h2 h1)))
theorem exW_at (w : World) : BdAt (exW5 w) exB (exH w) := by
  have s1 : (exW1 w).heap.size = w.heap.size + 1 := size_w _ _
  have s2 : (exW2 w).heap.size = w.heap.size + 1 + 1 := by rw [← s1]; exact size_w _ _
  have s3 : (exW3 w).heap.size = w.heap.size + 1 + 1 + 1 := by rw [← s2]; exact size_w _ _
  have s4 : (exW4 w).heap.size = w.heap.size + 1 + 1 + 1 + 1 := by rw [← s3]; exact size_w _ _
  have s5 : (exW5 w).heap.size = w.heap.size + 1 + 1 + 1 + 1 + 1 := by rw [← s4]; exact size_w _ _
  have h3 : Below (exW2 w).heap.size (exW2 w) (exW3 w) := al_keep _ _
  have h4 : Below (exW3 w).heap.size (exW3 w) (exW4 w) := al_keep _ _
  have h5 : Below (exW4 w).heap.size (exW4 w) (exW5 w) := al_keep _ _
  have k2 : (exW2 w).heap[w.heap.size + 1]? = some (.cells #[.string ⟨#[97]⟩] 9 (0, 0)) := by rw [← s1]; exact heap_alloc_new _ _
  have k3 : (exW3 w).heap[w.heap.size + 1 + 1]? = some (.cells #[.int .i64 2, .bool false, .int .i64 0, .int .i64 0, .slice none 0 0] 83 (0, 0)) := by rw [← s2]; exact heap_alloc_new _ _
  have k4 : (exW4 w).heap[w.heap.size + 1 + 1 + 1]? = some (.cells #[.string ⟨#[120]⟩, .int .i64 0] 87 (0, 0)) := by rw [← s3]; exact heap_alloc_new _ _
  have k5 : (exW5 w).heap[w.heap.size + 1 + 1 + 1 + 1]? = some (.cells #[.slice none 0 0, .int .i64 2, .slice none 0 0, .slice none 0 0, .int .i64 0, .slice none 0 0, .string ⟨#[]⟩] 60 (0, 0)) := by rw [← s4]; exact heap_alloc_new _ _
  have k4' := (h5.block _ (by omega)).trans k4
  have k3' := (h5.block _ (by omega)).trans ((h4.block _ (by omega)).trans k3)
  have k2' := (h5.block _ (by omega)).trans ((h4.block _ (by omega)).trans ((h3.block _ (by omega)).trans k2))
  have nilS : ∀ {α : Type} {k : Nat} {R : Rd α} {B : Nat} {o : Nat}, (exW5 w).cell? ⟨w.heap.size + 1 + 1 + 1 + 1, o, none⟩ = some (.slice none 0 0) → RSl k R (exW5 w) B (w.heap.size + 1 + 1 + 1 + 1) o ([] : List α) := fun h => ⟨none, 0, h, by simp, by omega, Sl.nil⟩
  exact ⟨slc_new (by omega) (cell_of k2' 0), ⟨Sl.nil, by simp [exB, exH], by simp [exH]⟩,
    slc_new (by omega) ⟨cell_of k3' 0, cell_of k3' 1, cell_of k3' 2, cell_of k3' 3, none, 0, cell_of k3' 4, by simp, by omega, Sl.nil⟩,
    slc_new (by omega) ⟨cell_of k4' 0, cell_of k4' 1⟩,
    slc_new (by omega) ⟨nilS (cell_of k5 0), cell_of k5 1, nilS (cell_of k5 2), nilS (cell_of k5 3), ⟨cell_of k5 4, nilS (cell_of k5 5)⟩, cell_of k5 6⟩⟩
set_option maxRecDepth 100000 in
set_option maxHeartbeats 8000000 in
theorem example_any (w : World) : Calls Tryz.prog 27 #[] w (fun e' w' => ∃ bh, e' = .returned (.agg (bdC exB bh).toArray) ∧ BdAt w' exB bh ∧ Below w.heap.size w w') := by
  go_enter Tryz.func27, Tryz.ntmps27
  go_wp2_with fail
  change bodyPost _ _ _ _ _ (exW5 w)
  have hB := exW_below w
  have hat := exW_at w
  have h2 : Below (exW1 w).heap.size (exW1 w) (exW5 w) := keep0 (al_keep _ _) (keep0 (al_keep _ _) (keep0 (al_keep _ _) (al_keep _ _)))
  have k1 : (exW5 w).heap[w.heap.size]? = some (.cells #[.string ⟨#[102]⟩, .slice (some ⟨w.heap.size + 1, 0, none⟩) 1 1, .slice none 0 0, .slice (some ⟨w.heap.size + 1 + 1, 0, none⟩) 1 1, .slice (some ⟨w.heap.size + 1 + 1 + 1, 0, none⟩) 1 1, .int .i64 0, .slice (some ⟨w.heap.size + 1 + 1 + 1 + 1, 0, none⟩) 1 1] 28 (0, 0)) := (h2.block _ (by rw [show (exW1 w).heap.size = w.heap.size + 1 from size_w _ _]; omega)).trans (heap_alloc_new _ _)
  obtain ⟨u0, u1, u2, u3, u4, u5, u6, _⟩ := blk7 k1
  generalize exW5 w = W at *
  refine bodyPost_ret (v := .agg (bdC exB (exH w)).toArray) (by simp [results, Tryz.results27, go_sem, u0, u1, u2, u3, u4, u5, u6] <;> rfl) rfl ?_
  exact ⟨exH w, rfl, hat, hB⟩
end Go.Proofs.YtbnljlpefpllcaaGreatDoor
namespace Go.Proofs.YtbnljlpefpllcaaGreatDoor
open Go Go.RowKit
/-- A new row. -/
theorem slc_row {α : Type} {enc : α → Value} {R : Rd α} (hR : ∀ (w : World) (B b o : Nat) (x : α), w.cell? ⟨b, o, none⟩ = some (enc x) → R w B b o x) (W : World) (T : TypeId) (l : List α) (n : Nat) (hn : n = l.length) (hl : n ≤ 1000000) : Slc 1 R (W.alloc (.cells (l.map enc).toArray T)) (some ⟨W.heap.size, 0, none⟩) n l := by
  subst hn
  refine ⟨fun _ => ⟨W.heap.size, 0, rfl, by simp, fun i x hi => hR _ _ _ _ _ ?_⟩, by simp, by omega⟩
  have hk := heap_alloc_new W (.cells (l.map enc).toArray T)
  rw [cell_of hk]
  simp [hi]
theorem bytes_in {w : World} {A : Option Addr} {c : Nat} {l : List UInt8} (h : Slc 1 RB w A c l) : Lib.BytesIn w A l.length (l.map fun x => (x.toNat : Int)) := fun hn => by
  obtain ⟨b, o, hA, _, hx⟩ := h.sl hn
  refine ⟨b, o, hA, fun i hi => ?_⟩
  have := hx i l[i] (List.getElem?_eq_getElem hi)
  rw [Nat.mul_one] at this
  rw [List.getD_eq_getElem?_getD, List.getElem?_map, List.getElem?_eq_getElem hi]
  exact this
theorem bytesOf_nums (l : List UInt8) : Lib.bytesOf (l.map fun x => (x.toNat : Int)) = l := by
  unfold Lib.bytesOf
  rw [List.map_map]
  conv => rhs; rw [← List.map_id l]
  exact List.map_congr_left (fun x _ => by simp)
theorem bytesEq_any {l m : List UInt8} {A B : Option Addr} {c d : Nat} {w : World} (h1 : Slc 1 RB w A c l) (h2 : Slc 1 RB w B d m) (n k : Nat) (hn : l.length = n) (hk : m.length = k) :
    Calls Tryz.prog 13 #[.slice A n c, .slice B k d] w fun e' w' => e' = .returned (.bool (decide (l = m))) ∧ w' = w := by
  subst hn hk
  refine (Tryz.bytes_Equal_all A B l.length c m.length d _ _ w (by simp) (by simp) (bytes_in h1) (bytes_in h2)).mono ?_
  rintro e' w' ⟨rfl, rfl⟩
  refine ⟨?_, rfl⟩
  rw [bytesOf_nums, bytesOf_nums]
  exact congrArg (fun b => Ending.returned (Value.bool b)) (by by_cases h : l = m <;> simp [h])
set_option maxRecDepth 100000 in
set_option maxHeartbeats 8000000 in
theorem alive_any (w : World) (hT : TabsOk w) : Calls Tryz.prog 10 #[] w (fun e' w' => e' = .returned (.bool true) ∧ Below w.heap.size w w') := by
  obtain ⟨W, hW⟩ : ∃ W, w.alloc (.cells #[.string ⟨#[97]⟩, .string ⟨#[102]⟩, .string ⟨#[120]⟩] 9) = W := ⟨_, rfl⟩
  have hb : Below w.heap.size w W := by rw [← hW]; exact al_keep _ _
  have hs : Slc 1 RN W (some ⟨w.heap.size, 0, none⟩) 3 exT := by rw [← hW]; exact slc_row (enc := Value.string) (fun _ _ _ _ _ h => h) w _ exT 3 rfl (by omega)
  have hid : ∀ s ∈ exT, isIdent s = true := by decide
  have HN := Lib.hid ((pnewtab_any exT _ 3 W hs (by decide)).mono (fun e' w' h => (⟨h.1, by have := h.2.1 hid; rwa [ex_tab] at this⟩ : Below W.heap.size W w' ∧ ∃ t B d, e' = .returned (.tuple #[.pointer (some ⟨t, 0, none⟩), .int .i64 0]) ∧ TabAt w' t B d exT)))
  have HT := Lib.hid (hT.keep hb)
  have HB := Lib.hid hb
  clear hb hs hT
  go_enter Tryz.func10, Tryz.ntmps10
  go_wp2_with fail
  go_at_call 22
  refine HN.out.mono ?_
  rintro e' w1 ⟨hb1, t, B, d, rfl, ht1⟩
  have HB1 := Lib.hid (HB.out.trans (hb1.mono HB.out.size))
  have HT1 := Lib.hid (HT.out.keep hb1)
  have HTB1 := Lib.hid ht1
  clear hb1 ht1 HB HT
  go_wp2_with fail
  go_at_call 27
  refine (example_any w1).mono ?_
  rintro e' w2 ⟨bh, rfl, hbd, hb2⟩
  have HB2 := Lib.hid (HB1.out.trans (hb2.mono HB1.out.size))
  have HE := Lib.hid (pencode_any exB bh t B d exT w2 hbd (HT1.out.keep hb2) (HTB1.out.keep hb2) (by rw [← ex_tab]; exact tabB_sorted exT) (by decide) (fun _ => by rw [ex_decl]; decide))
  have HTB2 := Lib.hid (HTB1.out.keep hb2)
  clear hb2 hbd HB1 HT1 HTB1
  go_wp2_with fail
  go_at_call 11
  refine HE.out.mono ?_
  rintro e' w3 ⟨hb3, _, _, h3⟩
  obtain ⟨A, c, rfl, hc⟩ := h3 ex_chk ex_err
  rw [ex_decl] at hc ⊢
  have HB3 := Lib.hid (HB2.out.trans (hb3.mono HB2.out.size))
  have HTB3 := Lib.hid (HTB2.out.keep hb3)
  have HC3 := Lib.hid hc
  clear hb3 h3 hc HE HTB2 HB2
  go_wp2_with fail
  have HD := Lib.hid (fun W4 (hb : Below w3.heap.size w3 W4) => (show Calls Tryz.prog 14 #[.slice A 10 c, .pointer (some ⟨t, 0, none⟩)] W4 (fun e' w' => ∃ A1 a1 A2 a2 A3 a3 A4 a4 A5 a5, e' = .returned (.tuple #[.agg #[.string ⟨#[102]⟩, .slice A1 1 a1, .slice A2 0 a2, .slice A3 1 a3, .slice A4 1 a4, .int .i64 0, .slice A5 0 a5], .int .i64 0]) ∧ Below W4.heap.size W4 w') from (pdecode_any exL A c t B d exT W4 (HC3.out.keep RB.keeps hb) (by decide) (HTB3.out.keep hb)).mono (fun e' w' h => by
    obtain ⟨⟨A1, a1, A2, a2, A3, a3, A4, a4, A5, a5⟩, h1, _, h3⟩ := h
    rw [ex_dec] at h1
    exact ⟨A1, a1, A2, a2, A3, a3, A4, a4, A5, a5, h1, h3⟩)))
  go_at_call 14
  refine (pdecode_nil none 0 0 w3).mono ?_
  rintro e' w4 ⟨rfl, hb4⟩
  have HB44 := Lib.hid hb4
  clear hb4
  go_wp2_with fail
  generalize hW4 : w4.alloc (.cells #[.string ⟨#[]⟩, .slice none 0 0, .slice none 0 0, .slice none 0 0, .slice none 0 0, .int .i64 0, .slice none 0 0] 28) = W4
  have hb4 := HB44.out
  have hb4 : Below w3.heap.size w3 W4 := by rw [← hW4]; exact keep0 (al_keep _ _) hb4
  have HB4 := Lib.hid (HB3.out.trans (hb4.mono HB3.out.size))
  have HD4 := Lib.hid (HD.out W4 hb4)
  have HC4 := Lib.hid (HC3.out.keep RB.keeps hb4)
  clear hb4 HD HC3 HTB3 HB3
  go_at_call 14
  refine HD4.out.mono ?_
  rintro e' w5 ⟨A1, a1, A2, a2, A3, a3, A4, a4, A5, a5, rfl, hb5⟩
  obtain ⟨W5, hW5⟩ : ∃ W5, w5.alloc (.cells #[.string ⟨#[102]⟩, .slice A1 1 a1, .slice A2 0 a2, .slice A3 1 a3, .slice A4 1 a4, .int .i64 0, .slice A5 0 a5] 28) = W5 := ⟨_, rfl⟩
  have hb5 : Below W4.heap.size W4 W5 := by rw [← hW5]; exact keep0 (al_keep _ _) hb5
  have hk5 : W5.heap[w5.heap.size]? = some (.cells #[.string ⟨#[102]⟩, .slice A1 1 a1, .slice A2 0 a2, .slice A3 1 a3, .slice A4 1 a4, .int .i64 0, .slice A5 0 a5] 28 (0, 0)) := by rw [← hW5]; exact heap_alloc_new _ _
  obtain ⟨W6, hW6⟩ : ∃ W6, W5.alloc (.cells #[.int .u8 1, .int .u8 1, .int .u8 0, .int .u8 0, .int .u8 1, .int .u8 2, .int .u8 1, .int .u8 2, .int .u8 0, .int .u8 0] 5) = W6 := ⟨_, rfl⟩
  have hb6 : Below W5.heap.size W5 W6 := by rw [← hW6]; exact al_keep _ _
  have hs6 : Slc 1 RB W6 (some ⟨W5.heap.size, 0, none⟩) 10 exL := by rw [← hW6]; exact slc_row (enc := encB) (fun _ _ _ _ _ h => h) W5 _ exL 10 rfl (by omega)
  have HQ := Lib.hid (bytesEq_any ((HC4.out.keep RB.keeps hb5).keep RB.keeps hb6) hs6 10 10 rfl rfl)
  rw [show decide (exL = exL) = true by simp] at HQ
  obtain ⟨u0, u1, u2, u3, u4, u5, u6, _⟩ := blk7 ((hb6.block _ (Array.getElem?_eq_some_iff.1 hk5).1).trans hk5)
  have HB6 := Lib.hid (HB4.out.trans ((keep0 hb6 hb5).mono HB4.out.size))
  clear hb5 hk5 hb6 hs6 HD4 HC4 HB4
  go_wp2_with fail
  go_at_call 13
  refine HQ.out.mono ?_
  rintro e' w7 ⟨rfl, rfl⟩
  go_wp2_with fail
  go_ret
  exact ⟨rfl, HB6.out⟩
end Go.Proofs.YtbnljlpefpllcaaGreatDoor
