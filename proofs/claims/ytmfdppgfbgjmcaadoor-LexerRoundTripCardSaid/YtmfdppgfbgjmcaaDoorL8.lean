/-
  Walk: Lex.
-/
import Derived.Test.YtmfdppgfbgjmcaaDoorL6
import Derived.Test.YtmfdppgfbgjmcaaDoorL7
namespace Go.Proofs.YtmfdppgfbgjmcaaDoor
open Go Go.RowKit Go.WideShapes

/-- A token's cells. -/
def cellsT (t : Tk) : List Value := [.int .i64 t.kind, .string ⟨t.text.toArray⟩, .int .i64 t.num, .int .i64 t.pos]
def RTk : Rd Tk := fun w _ b o x => w.cell? ⟨b, o, none⟩ = some (.int .i64 x.kind) ∧ w.cell? ⟨b, o + 1, none⟩ = some (.string ⟨x.text.toArray⟩) ∧ w.cell? ⟨b, o + 2, none⟩ = some (.int .i64 x.num) ∧ w.cell? ⟨b, o + 3, none⟩ = some (.int .i64 x.pos)
theorem RTk.keeps : RTk.Keeps := fun _ _ _ _ b o _ _ hlt hb h =>
  ⟨(hb.cell (p := ⟨b, o, none⟩) hlt).trans h.1, (hb.cell (p := ⟨b, o + 1, none⟩) hlt).trans h.2.1, (hb.cell (p := ⟨b, o + 2, none⟩) hlt).trans h.2.2.1, (hb.cell (p := ⟨b, o + 3, none⟩) hlt).trans h.2.2.2⟩

theorem flat_get {α : Type} {k : Nat} (f : α → List Value) (hf : ∀ y, (f y).length = k) : ∀ (ys : List α) (i : Nat) (y : α), ys[i]? = some y → ∀ j, j < k → (ys.flatMap f)[i * k + j]? = (f y)[j]? := by
  intro ys
  induction ys with
  | nil => intro i y h; simp at h
  | cons z zs ih =>
    intro i y h j hj
    cases i with
    | zero =>
      simp at h
      subst h
      rw [List.flatMap_cons, Nat.zero_mul, Nat.zero_add, List.getElem?_append_left (by rw [hf]; exact hj)]
    | succ i =>
      have := ih i y (by simpa using h) j hj
      rw [List.flatMap_cons, List.getElem?_append_right (by rw [hf, Nat.add_mul]; omega), hf, show (i + 1) * k + j - k = i * k + j by rw [Nat.add_mul]; omega]
      exact this

theorem slc_of_toks {W : World} {base : Nat} {e : TypeId} {v : Value} {ys : List Tk} (h : W.ownsRow base e 4 v ys.length (ys.flatMap cellsT)) : ∃ A c, v = .slice A ys.length c ∧ Slc 4 RTk W A c ys := by
  rcases h.2 with ⟨rfl, hn⟩ | ⟨g, cap, cur, rfl, hb, hh, hnc, hm, _, _⟩
  · have : ys = [] := List.eq_nil_of_length_eq_zero hn
    subst this
    exact ⟨none, 0, rfl, Sl.nil, by simp, by omega⟩
  · refine ⟨some ⟨g, 0, none⟩, cap, rfl, ⟨fun _ => ⟨g, 0, rfl, (Array.getElem?_eq_some_iff.1 hh).1, fun i x hx => ?_⟩, by simpa using hnc, by simp only [maxLen] at hm; omega⟩⟩
    have hc : ∀ j u, j < 4 → (cellsT x)[j]? = some u → W.cell? ⟨g, i * 4 + j, none⟩ = some u := fun j u hj hu => by
      have := h.cells (g := g) rfl (i * 4 + j) u (by rw [flat_get cellsT (fun _ => rfl) ys i x hx j hj]; exact hu)
      rwa [add0] at this
    rw [Nat.zero_add]
    exact ⟨hc 0 _ (by omega) rfl, hc 1 _ (by omega) rfl, hc 2 _ (by omega) rfl, hc 3 _ (by omega) rfl⟩

theorem infoTk : (Tryd.prog.info? 28).map (fun i => (i.zero, i.size, i.bytes)) = some (some (.agg #[.int .i64 0, .string ⟨#[]⟩, .int .i64 0, .int .i64 0]), 4, 40) := by kernel_rfl

/-- What Lex answers for the list l. -/
def lexP (l : List UInt8) (e' : Ending) (w' : World) : Prop := ∃ A c, e' = .returned (.tuple #[.slice A (lexL l).1.length c, .int .i64 (lexL l).2.1, .int .i64 (lexL l).2.2]) ∧ Slc 4 RTk w' A c (lexL l).1

/-- .. and the tokens lie in a row of the call's own. -/
def lexP2 (base : Nat) (l : List UInt8) (e' : Ending) (w' : World) : Prop := ∃ A c, e' = .returned (.tuple #[.slice A (lexL l).1.length c, .int .i64 (lexL l).2.1, .int .i64 (lexL l).2.2]) ∧ Slc 4 RTk w' A c (lexL l).1 ∧ w'.ownsRow base 28 4 (.slice A (lexL l).1.length c) (lexL l).1.length ((lexL l).1.flatMap cellsT)

set_option maxRecDepth 100000 in
set_option maxHeartbeats 8000000 in
theorem lex_own (s : ByteArray) (w : World) (hs : s.size ≤ 1000000) (hv : VarsOk w) :
    Calls Tryd.prog 8 #[.string s] w fun e' w' => lexP2 w.heap.size s.data.toList e' w' ∧ Below w.heap.size w w' := by
  have HV := Lib.hid hv
  clear hv
  obtain ⟨i0, hi, hz0, hz1, hz2⟩ := info_parts infoTk
  have HK0 := Lib.hid (skip_any s 0 w (by omega) hs)
  go_enter Tryd.func8, Tryd.ntmps8
  go_wp2_with fail
  go_step3
  go_wp2_with fail
  go_step3
  go_wp2_with (go_at_call 12; refine HK0.out.mono ?_; rintro e' w' ⟨rfl, hw'⟩; obtain rfl := hw'.symm)
  obtain ⟨l, hl⟩ : ∃ l, s.data.toList = l := ⟨_, rfl⟩
  have hll : l.length = s.size := by rw [← hl, len_list]
  rw [hl]
  have HL := Lib.hid hl
  have HLL := Lib.hid hll
  clear HK0 hl hll
  go_loopw [5, 6, 7] (fun v af u wr => ∃ (m : Nat) (a : Int) (g : Bool) (acc : List Tk), m ≤ s.size ∧ u = .int .i64 m ∧ af = .int .i64 a ∧ Hid (((m : Int) == a) = g) ∧ wr.ownsRow w.heap.size 28 4 v acc.length (acc.flatMap cellsT) ∧ Hid (acc.length ≤ m) ∧ Hid (Below w.heap.size w wr) ∧ Hid (lexL l = comb acc (lexS s.size (l.drop m) g))) (fun _ _ u _ => s.size - (intOf u).toNat)
  case atStart =>
    refine ⟨s.size - (skipM false l).length, -1, false, [], by omega, rfl, rfl, Lib.hid (by simp <;> omega), World.ownsRow_nil _ _ _ _, Lib.hid (by simp), Lib.hid (Below.refl _ _), Lib.hid ?_⟩
    rw [comb_nil, lexL_eq, HLL.out, ← HLL.out, drop_suffix (skip_suffix false l)]
  case round =>
    obtain ⟨m, a, g, acc, hm, rfl, rfl, hga, hown, hacc, HB, hlex⟩ := hrel
    by_cases hlt : m < s.size
    · have hd : l.drop m = s[m] :: l.drop (m + 1) := by rw [← HL.out]; exact drop_at s m hlt
      obtain ⟨c, hc⟩ : ∃ c, s[m] = c := ⟨_, rfl⟩
      obtain ⟨r, hr⟩ : ∃ r, l.drop (m + 1) = r := ⟨_, rfl⟩
      rw [hc, hr] at hd
      have hpos : (s.size : Int) - (c :: r).length = m := by rw [← hd, List.length_drop, HLL.out]; omega
      obtain ⟨j, hj⟩ : ∃ j, Lib.indexByte (letters ++ digits) c = j := ⟨_, rfl⟩
      have I1 : Hid (∀ W, Calls Tryd.prog 13 #[.string ⟨#[95, 97, 98, 99, 100, 101, 102, 103, 104, 105, 106, 107, 108, 109, 110, 111, 112, 113, 114, 115, 116, 117, 118, 119, 120, 121, 122, 65, 66, 67, 68, 69, 70, 71, 72, 73, 74, 75, 76, 77, 78, 79, 80, 81, 82, 83, 84, 85, 86, 87, 88, 89, 90, 48, 49, 50, 51, 52, 53, 54, 55, 56, 57]⟩, .int .u8 c.toNat] W fun e' w' => e' = .returned (.int .i64 j) ∧ w' = W) := Lib.hid (fun W => by rw [← hj]; exact index_any _ c W)
      have hjj := index_of_mem c (letters ++ digits)
      rw [hj] at hjj
      have HD := Lib.hid hd
      have HPOS := Lib.hid hpos
      have HOWN := Lib.hid hown
      have HSC := Lib.hid (scan_any s m wr hlt hs (HV.out.keep HB.out))
      rw [HL.out, hd] at HSC
      clear hj hd hr hpos hown
      have hga' := hga.out
      by_cases hgc : (g && (letters ++ digits).contains c) = true
      · obtain ⟨rfl, hcc⟩ : g = true ∧ (letters ++ digits).contains c = true := by simpa [Bool.and_eq_true] using hgc
        have hj0 : 0 ≤ j := by
          rcases hjj with ⟨h, _⟩ | ⟨_, h⟩
          · exact h
          · rw [h] at hcc; cases hcc
        have HR : Hid (lexL l = ([], (m : Int), 18)) := Lib.hid (by rw [hlex.out, HD.out, lexS_glued _ _ _ hcc, HPOS.out]; rfl)
        clear hjj hgc hcc HSC
        go_wp2_with (go_at_call 13; refine (I1.out _).mono ?_; rintro e' w' ⟨rfl, hw'⟩; obtain rfl := hw'.symm)
        rw [Exit.noGoto_ret]
        refine bodyPost_ret (v := .tuple #[.slice none 0 0, .int .i64 m, .int .i64 18]) (by simp [results, Tryd.results8, go_sem] <;> rfl) rfl ⟨⟨none, 0, by rw [HL.out, HR.out]; rfl, by rw [HL.out, HR.out]; exact ⟨Sl.nil, by simp, by omega⟩, by rw [HL.out, HR.out]; exact World.ownsRow_nil _ _ _ _⟩, HB.out⟩
      · have hgc' : (g && (letters ++ digits).contains c) = false := by simpa using hgc
        have HGC := Lib.hid hgc'
        go_upto_region 6 with fail
        go_cut [29] (fun s29 wx => s29 = .bool false ∧ wr = wx)
        case first =>
          cases g
          · clear hgc hgc' HGC
            go_wp2_with fail
            go_meet
            exact ⟨rfl, rfl⟩
          · rcases hjj with ⟨_, h⟩ | ⟨rfl, h⟩
            · rw [h] at hgc'; cases hgc'
            · clear hgc hgc' HGC h
              go_wp2_with (go_at_call 13; refine (I1.out _).mono ?_; rintro e' w' ⟨rfl, hw'⟩; obtain rfl := hw'.symm)
              go_meet
              exact ⟨rfl, rfl⟩
        case rest =>
        obtain ⟨rfl, rfl⟩ := hcut
        clear hgc hgc' hjj hga'
        go_wp2_with fail
        go_at_call 14
        refine HSC.out.mono ?_
        rintro e' w1 ⟨⟨ka, nn, tt, t, rfl, himp⟩, hb1⟩
        have HB1 := Lib.hid (HB.out.trans (hb1.mono HB.out.size))
        have hown1 := own_below HOWN.out hb1
        have HN := Lib.hid (fun he => lex_next HD.out (by rw [HLL.out]; exact hm) he)
        have HLX : Hid ((scanL (c :: r)).err = 0 → lexL l = comb (acc ++ [⟨(scanL (c :: r)).kind, (scanL (c :: r)).text, (scanL (c :: r)).num, m⟩]) (lexS s.size (nextL (c :: r)) (glued (c :: r)))) := Lib.hid (fun he => by
          rw [hlex.out, HD.out, lexS_step _ _ _ _ HGC.out he, comb_comb, HPOS.out])
        have HLE : Hid ((scanL (c :: r)).err ≠ 0 → lexL l = ([], (m : Int), (scanL (c :: r)).err)) := Lib.hid (fun he => by
          rw [hlex.out, HD.out, lexS_err _ _ _ _ HGC.out he, HPOS.out]
          simp [comb, he])
        have HIMP := Lib.hid himp
        have HOWN1 := Lib.hid hown1
        clear himp hown1 HOWN hlex hb1 I1 HPOS
        by_cases he : (scanL (c :: r)).err = 0
        case neg =>
          have HR := Lib.hid (HLE.out he)
          have e1 : ((scanL (c :: r)).err == 0) = false := by simp [he]
          have e2 : ((scanL (c :: r)).err != 0) = true := by simp [he]
          clear HLE HLX HN HIMP he
          generalize (scanL (c :: r)).err = er at *
          go_wp2_with fail
          rw [Exit.noGoto_ret]
          refine bodyPost_ret (v := .tuple #[.slice none 0 0, .int .i64 m, .int .i64 er]) (by simp [results, Tryd.results8, go_sem] <;> rfl) rfl ⟨⟨none, 0, by rw [HL.out, HR.out]; rfl, by rw [HL.out, HR.out]; exact ⟨Sl.nil, by simp, by omega⟩, by rw [HL.out, HR.out]; exact World.ownsRow_nil _ _ _ _⟩, HB1.out.alloc HB1.out.size _⟩
        case pos =>
          have hh := HIMP.out he
          have hn := HN.out he
          have HLN := Lib.hid (HLX.out he)
          rw [he]
          clear HLE HLX HN HIMP
          obtain ⟨rfl, rfl, rfl, rfl⟩ := hh
          have hglu : Hid (glued (c :: r) = (isN (scanL (c :: r)).kind && (nextL (c :: r)).length == ((c :: r).drop (scanL (c :: r)).len).length)) := Lib.hid rfl
          obtain ⟨hn1, hn2, hn3, hn4, hn5⟩ := hn
          have hnx : (skipM false (l.drop (m + (scanL (c :: r)).len))).length = (nextL (c :: r)).length := by unfold nextL; rw [hn2]
          have hnlt := next_lt (l := c :: r) (by simp) he
          have hdl : ((c :: r).drop (scanL (c :: r)).len).length = s.size - (m + (scanL (c :: r)).len) := by rw [← hn2, List.length_drop, HLL.out]
          have hsk := skip_any s (m + (scanL (c :: r)).len)
          rw [HL.out, hnx] at hsk
          rw [hnx, HLL.out] at hn4
          rw [hnx, HLL.out] at hn3
          rw [HLL.out] at hn1 hn5
          rw [hn5] at hnlt
          rw [hdl] at hglu
          clear he hn2 hnx hdl hn5
          generalize nextL (c :: r) = nx at *
          generalize glued (c :: r) = gl at *
          generalize (scanL (c :: r)).kind = K at *
          generalize (scanL (c :: r)).text = T at *
          generalize (scanL (c :: r)).num = N at *
          generalize (scanL (c :: r)).len = L at *
          obtain ⟨m2, hm2e⟩ : ∃ m2, m2 = s.size - nx.length := ⟨_, rfl⟩
          rw [← hm2e] at hsk hn4
          have hm2 : m2 ≤ s.size := by omega
          have hmeas : s.size - m2 < s.size - m := by omega
          have HFIN : Hid (lexL l = comb (acc ++ [⟨K, T, N, m⟩]) (lexS s.size (l.drop m2) gl)) := Lib.hid (by rw [hn4]; exact HLN.out)
          have hgl : Hid (isN K = true → ((m2 : Int) == (m : Int) + (L : Int)) = gl) := Lib.hid (fun h => by
            rw [hglu.out, h, Bool.true_and, Bool.eq_iff_iff]
            simp
            omega)
          have hgl2 : Hid (isN K = false → ((m2 : Int) == -1) = gl) := Lib.hid (fun h => by
            rw [hglu.out, h, Bool.false_and]
            simp)
          have hownA := (HOWN1.out.alloc (.cells #[.int .i64 K, .string ⟨T.toArray⟩, .int .i64 N, .int .i64 m] 28)).alloc (.cells #[.int .i64 K, .string ⟨T.toArray⟩, .int .i64 N, .int .i64 m] 28)
          have hac := hacc.out
          have HLA : Hid ((acc ++ [(⟨K, T, N, m⟩ : Tk)]).length ≤ m2) := Lib.hid (by rw [List.length_append, List.length_singleton]; omega)
          have hsz := HB1.out.size
          have HM := Lib.hid hm2e
          clear hn3 hn4 hm2e HLN hglu HSC hga HD HGC hacc
          go_wp2_with (at_builtin; refine wpList_append_own _ rfl _ _ 23 rfl w.heap.size 28 i0 _ 4 40 Tryd.underlying23 hi hz0 hz1 hz2 rfl (by decide) _ _ _ rfl hownA ⟨w1.heap.size + 1, 0, none⟩ 1 1 (cellsT ⟨K, T, N, m⟩) rfl rfl ?c1 ?c2 ?c3 ?c4 ?c5 ?_)
          case c1 =>
            intro j' u hj'
            rw [add0, cell_of_row _ _ j' _ _ _ (Box.new2 w1 _ _ _ _ _)]
            simpa [cellsT] using hj'
          case c2 => simp [cellsT, Value.oneCell']
          case c3 => unfold maxLen; omega
          case c4 => omega
          case c5 => simp; omega
          intro v' w3 hown' hgrow _
          have HB3 : Hid (Below w.heap.size w w3) := Lib.hid (((HB1.out.alloc HB1.out.size _).alloc (by simp; omega) _).grown hgrow (by simp; omega) (fun g hg => (hownA.lt g hg).1))
          have hbx : Box w3 w1.heap.size (.int .i64 K) (.string ⟨T.toArray⟩) (.int .i64 N) (.int .i64 m) :=
            (hgrow.block w1.heap.size (by simp; omega) (fun e => by have := (HOWN1.out.lt _ e.symm).2; omega)).trans (Box.new1 w1 _ _ _ _ _)
          have hown3 : Hid (w3.ownsRow w.heap.size 28 4 v' (acc ++ [(⟨K, T, N, m⟩ : Tk)]).length ((acc ++ [(⟨K, T, N, m⟩ : Tk)]).flatMap cellsT)) := Lib.hid (by
            rw [List.length_append, List.length_singleton, List.flatMap_append, List.flatMap_singleton]
            exact hown')
          have HSK : Hid (Calls Tryd.prog 12 #[.string s, .int .i64 ((m : Int) + (L : Int))] w3 fun e' w' => e' = .returned (.int .i64 m2) ∧ w' = w3) := Lib.hid (hsk w3 hn1 hs)
          obtain ⟨q0, _, _, _⟩ := hbx.cells
          clear hownA hown' hgrow hbx hsk HOWN1 HB HB1
          by_cases hN : isN K = true
          · have hgl' := Lib.hid (hgl.out hN)
            clear hgl hgl2
            have hK : K = 2 ∨ K = 6 ∨ K = 7 := by simpa [isN, or_assoc] using hN
            clear hN
            rcases hK with rfl | rfl | rfl
            all_goals
              go_wp2_with (go_at_call 12; refine HSK.out.mono ?_; rintro e' w' ⟨rfl, hw'⟩; obtain rfl := hw'.symm)
              go_roundw
              case rel => exact ⟨m2, _, gl, acc ++ [⟨_, T, N, m⟩], hm2, rfl, rfl, Lib.hid (by exact hgl'.out), hown3.out, HLA, HB3, HFIN⟩
              case measure => simp [intOf]; omega

          · have hN' : isN K = false := by simpa using hN
            have hgl' := Lib.hid (hgl2.out hN')
            have e2 : (K == 2) = false := by simp [isN] at hN'; simpa using hN'.1.1
            have e6 : (K == 6) = false := by simp [isN] at hN'; simpa using hN'.1.2
            have e7 : (K == 7) = false := by simp [isN] at hN'; simpa using hN'.2
            clear hgl hgl2 hN hN'
            go_wp2_with (go_at_call 12; refine HSK.out.mono ?_; rintro e' w' ⟨rfl, hw'⟩; obtain rfl := hw'.symm)
            go_roundw
            case rel => exact ⟨m2, _, gl, acc ++ [⟨_, T, N, m⟩], hm2, rfl, rfl, Lib.hid (by exact hgl'.out), hown3.out, HLA, HB3, HFIN⟩
            case measure => simp [intOf]; omega

    · have hme : m = s.size := by omega
      subst hme
      have HR : Hid (lexL l = (acc ++ [⟨0, [], 0, s.size⟩], (s.size : Int), 0)) := Lib.hid (by
        rw [hlex.out, show l.drop s.size = [] from List.drop_eq_nil_of_le (by rw [HLL.out]; omega), lexS_nil]
        rfl)
      have hac := hacc.out
      have hsz := HB.out.size
      have hownA := hown.alloc (.cells #[.int .i64 0, .string ⟨#[]⟩, .int .i64 0, .int .i64 s.size] 28)
      clear hlex hga hacc
      go_wp2_with (at_builtin; refine wpList_append_own _ rfl _ _ 23 rfl w.heap.size 28 i0 _ 4 40 Tryd.underlying23 hi hz0 hz1 hz2 rfl (by decide) _ _ _ rfl hownA ⟨wr.heap.size, 0, none⟩ 1 1 (cellsT ⟨0, [], 0, s.size⟩) rfl rfl ?c1 ?c2 ?c3 ?c4 ?c5 ?_)
      case c1 =>
        intro j' u hj'
        rw [add0, cell_of_row _ _ j' _ _ _ (heap_alloc_new wr _)]
        simpa [cellsT] using hj'
      case c2 => simp [cellsT, Value.oneCell']
      case c3 => unfold maxLen; omega
      case c4 => omega
      case c5 => simp; omega
      intro v' w3 hown' hgrow _
      have HB3 : Hid (Below w.heap.size w w3) := Lib.hid ((HB.out.alloc HB.out.size _).grown hgrow (by simp; omega) (fun g hg => (hownA.lt g hg).1))
      have hown3 : w3.ownsRow w.heap.size 28 4 v' (acc ++ [(⟨0, [], 0, s.size⟩ : Tk)]).length ((acc ++ [(⟨0, [], 0, s.size⟩ : Tk)]).flatMap cellsT) := by
        rw [List.length_append, List.length_singleton, List.flatMap_append, List.flatMap_singleton]
        exact hown'
      obtain ⟨A, c, rfl, hsl⟩ := slc_of_toks hown3
      have HSL := Lib.hid hsl
      have HOW := Lib.hid hown3
      clear hownA hown' hgrow hown3 hown hsl
      go_wp2_with fail
      rw [Exit.noGoto_ret]
      refine bodyPost_ret (v := .tuple #[.slice A (acc ++ [(⟨0, [], 0, s.size⟩ : Tk)]).length c, .int .i64 s.size, .int .i64 0]) (by simp [results, Tryd.results8, go_sem] <;> rfl) rfl ⟨⟨A, c, by rw [HL.out, HR.out], by rw [HL.out, HR.out]; exact HSL.out, by rw [HL.out, HR.out]; exact HOW.out⟩, HB3.out⟩
theorem lex_any (s : ByteArray) (w : World) (hs : s.size ≤ 1000000) (hv : VarsOk w) :
    Calls Tryd.prog 8 #[.string s] w fun e' w' => lexP s.data.toList e' w' ∧ Below w.heap.size w w' :=
  (lex_own s w hs hv).mono (fun _ _ ⟨⟨A, c, h1, h2, _⟩, h4⟩ => ⟨⟨A, c, h1, h2⟩, h4⟩)
end Go.Proofs.YtmfdppgfbgjmcaaDoor
