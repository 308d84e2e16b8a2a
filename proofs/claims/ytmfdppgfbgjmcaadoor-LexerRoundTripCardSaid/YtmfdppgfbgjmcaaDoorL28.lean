/-
  Walk: the law LexerRoundTrip.
-/
import Derived.Test.YtmfdppgfbgjmcaaDoorL26
namespace Go.Proofs.YtmfdppgfbgjmcaaDoor
open Go Go.RowKit Go.WideShapes

set_option maxRecDepth 100000 in
set_option maxHeartbeats 8000000 in
theorem round_any (s : ByteArray) (w : World) (hs : s.size ≤ 9223372036854775807) (hv : VarsOk w) (htb : TabOk w) : Calls Tryd.prog 5 #[.string s] w fun e' w' => e' = .returned (.bool true) ∧ Below w.heap.size w w' := by
  have HV := Lib.hid hv
  have HT := Lib.hid htb
  clear hv htb
  by_cases h3 : 3000 < s.size
  · go_enter Tryd.func5, Tryd.ntmps5
    go_wp2_with (go_at_call 7; refine (alive_any _ HV.out).mono ?_; rintro e' w1 ⟨rfl, hb1⟩)
    go_ret
    exact ⟨rfl, hb1⟩
  have HLX := Lib.hid (lex_any s w (by omega) HV.out)
  have hbad := (lexL_good s.data.toList).2
  have hgd := (lexL_good s.data.toList).1
  have hrd := lexL_round (l := s.data.toList)
  rw [len_list] at hrd
  obtain ⟨ts, at', er, hx⟩ : ∃ ts at' er, lexL s.data.toList = (ts, at', er) := ⟨_, _, _, rfl⟩
  unfold lexP at HLX
  rw [hx] at HLX hbad hrd hgd
  simp only at HLX hbad hrd hgd
  have HR := Lib.hid hrd
  have HG : Hid (er = 0 → 0 < ts.length) := Lib.hid (fun h => List.length_pos_iff.2 (good_last (hgd h)).1)
  clear hx hrd hgd
  go_enter Tryd.func5, Tryd.ntmps5
  go_wp2_with fail
  go_at_call 8
  refine HLX.out.mono ?_
  rintro e' w1 ⟨⟨A, c, rfl, hs1⟩, hb1⟩
  have HB1 := Lib.hid hb1
  have HV1 := Lib.hid (HV.out.keep hb1)
  have HT1 := Lib.hid (HT.out.keep hb1)
  have HS1 := Lib.hid hs1
  have hle := hs1.le
  have hbig := hs1.big
  clear hb1 hs1 HLX HV HT
  by_cases he : er = 0
  case neg =>
    obtain ⟨rfl, h0, h1⟩ := hbad he
    have e1 : (er == 0) = false := by simp [he]
    have e2 : (er != 0) = true := by simp [he]
    clear HR HG hbad
    go_wp2_with (go_at_call 7; refine (alive_any _ HV1.out).mono ?_; rintro e' w2 ⟨rfl, hb2⟩)
    go_ret
    exact ⟨rfl, HB1.out.trans (hb2.mono HB1.out.size)⟩
  case pos =>
  subst he
  obtain ⟨⟨vs, M, hj, hvl, hsame⟩, hsz, hok⟩ := HR.out rfl
  have hpos := HG.out rfl
  have hjl := join_sizeT ts
  have hln := len_sizeT ts
  have HJ : Hid (∀ W, VarsOk W → Calls Tryd.prog 8 #[.string ⟨(Lib.join (ts.map formT) [32]).toArray⟩] W fun e' w' => ∃ A c, e' = .returned (.tuple #[.slice A ts.length c, .int .i64 M, .int .i64 0]) ∧ Slc 4 RTk w' A c vs ∧ Below W.heap.size W w') := Lib.hid (fun W hW => by
    refine (lex_any _ W (by
      show (Lib.join (ts.map formT) [32]).toArray.size ≤ _
      simp only [List.size_toArray]
      omega) hW).mono ?_
    rintro e' w' ⟨⟨A, c, rfl, hs⟩, hb⟩
    rw [show (⟨(Lib.join (ts.map formT) [32]).toArray⟩ : ByteArray).data.toList = Lib.join (ts.map formT) [32] from rfl, hj] at *
    exact ⟨A, c, by rw [← hvl], hs, hb⟩)
  have HSM := Lib.hid hsame
  have HOK := Lib.hid hok
  have HJJ : Hid (∀ (W : World) (v : Value), W.ownsRow w1.heap.size 9 1 v ts.length (ts.map formV) → Calls Tryd.prog 10 #[v, .string ⟨#[32]⟩] W fun e' w' => e' = .returned (.string ⟨(Lib.join (ts.map formT) [32]).toArray⟩) ∧ Below W.heap.size W w') := Lib.hid (fun W v ho => join_forms_any ho hpos (by omega))
  obtain ⟨J, hJ⟩ : ∃ J : ByteArray, ⟨(Lib.join (ts.map formT) [32]).toArray⟩ = J := ⟨_, rfl⟩
  rw [hJ] at HJ HJJ
  obtain ⟨i0, hi, hz0, hz1, hz2⟩ := info_parts infoS
  clear hbad HR HG hsame hok hj hJ hjl
  go_wp2_with fail
  go_loopw [6, 7, 35] (fun v sz u wr => ∃ k : Nat, k ≤ ts.length ∧ u = .int .i64 k ∧ sz = .int .i64 (sizeT (ts.take k)) ∧ Hid (wr.ownsRow w1.heap.size 9 1 v k ((ts.take k).map formV)) ∧ Hid (Below w1.heap.size w1 wr)) (fun _ _ u _ => ts.length - (intOf u).toNat)
  case atStart => exact ⟨0, by omega, rfl, rfl, Lib.hid (World.ownsRow_nil _ _ _ _), Lib.hid (Below.refl _ _)⟩
  case round =>
    obtain ⟨k, hk, rfl, rfl, HO, HB⟩ := hrel
    by_cases hlt : k < ts.length
    · have HS := Lib.hid (HS1.out.keep RTk.keeps HB.out)
      obtain ⟨b, o, rfl, hb', hr'⟩ := HS.out.sl.at_ hlt
      obtain ⟨x0, x1, x2, x3⟩ := hr'
      have hok := HOK.out _ (List.getElem_mem hlt)
      have hst := sizeT_take ts (k + 1)
      have hsu := sizeT_succ hlt
      have hfl := formB_size ts[k]
      have HBK := Lib.hid (HB.out.alloc HB.out.size (.cells #[.int .i64 ts[k].kind, .string ⟨ts[k].text.toArray⟩, .int .i64 ts[k].num, .int .i64 ts[k].pos] 28))
      have HF := Lib.hid (format_any ts[k] (wr.alloc (.cells #[.int .i64 ts[k].kind, .string ⟨ts[k].text.toArray⟩, .int .i64 ts[k].num, .int .i64 ts[k].pos] 28)) hok.1 (by omega) (HT1.out.keep HBK.out))
      have HOA := Lib.hid (HO.out.alloc (.cells #[.int .i64 ts[k].kind, .string ⟨ts[k].text.toArray⟩, .int .i64 ts[k].num, .int .i64 ts[k].pos] 28))
      have htk := Lib.hid (take_formV hlt)
      obtain ⟨Fm, hFm⟩ : ∃ Fm : ByteArray, formB ts[k] = Fm := ⟨_, rfl⟩
      have HF2 := HF
      rw [show (⟨(formT ts[k]).toArray⟩ : ByteArray) = Fm from hFm] at HF2
      have htk2 : Hid ((ts.take (k + 1)).map formV = (ts.take k).map formV ++ [.string Fm]) := Lib.hid (by rw [htk.out, ← hFm]; rfl)
      rw [hFm, show (formT ts[k]).length = Fm.size by rw [← hFm, formB_size]] at hfl
      rw [show (formT ts[k]).length = Fm.size by rw [← hFm, formB_size]] at hsu
      generalize ts[k] = t at *
      clear htk HF hok hFm HO
      go_wp2_with fail
      refine HF2.out.mono ?_
      rintro e' w2 ⟨rfl, hb2⟩
      have hbw : Below w1.heap.size w1 w2 := HBK.out.trans (hb2.mono HBK.out.size)
      have HB2 := Lib.hid hbw
      have hsz2 := hbw.size
      have hown2 := (own_below HOA.out hb2).alloc (.cells #[.string Fm] 9)
      have HOWN2 := Lib.hid hown2
      have hF9 : Fm.size ≤ 9000 := by omega
      have hmin : min (Fm.size : Int) 9000 = Fm.size := by omega
      have hS20 : ¬ (20000 : Int) < (sizeT (ts.take k) : Int) + ((Fm.size : Int) + 1) := by omega
      clear hbw hb2 hown2 HF2 HBK HOA hfl x0 x1 x2 x3 HS HB
      go_wp2_with (at_builtin; refine wpList_append_own _ rfl _ _ 31 rfl w1.heap.size 9 i0 _ 1 16 Tryd.underlying31 hi hz0 hz1 hz2 rfl (by decide) _ _ _ rfl HOWN2.out ⟨w2.heap.size, 0, none⟩ 1 1 [.string Fm] rfl rfl ?c1 ?c2 ?c3 ?c4 ?c5 ?_)
      case c1 =>
        intro j' u hj'
        rw [add0, cell_of_row _ _ j' _ _ _ (heap_alloc_new w2 _)]
        simpa using hj'
      case c2 => simp [Value.oneCell']
      case c3 => unfold maxLen; omega
      case c4 => omega
      case c5 => simp; omega
      intro v' w3 hown' hgrow _
      have HB3 : Hid (Below w1.heap.size w1 w3) := Lib.hid ((HB2.out.alloc HB2.out.size _).grown hgrow (by simp; omega) (fun g hg => (HOWN2.out.lt g hg).1))
      have HO3 : Hid (w3.ownsRow w1.heap.size 9 1 v' (k + 1) ((ts.take (k + 1)).map formV)) := Lib.hid (by rw [htk2.out]; first | exact hown' | (rw [List.map_take]; exact hown'))
      have hsz3 : Value.int .i64 ((sizeT (ts.take k) : Int) + ((Fm.size : Int) + 1)) = .int .i64 (sizeT (ts.take (k + 1))) := by rw [hsu]; congr 1
      clear hown' hgrow HOWN2 HB2
      go_wp2_with fail
      go_roundw
      case rel => exact ⟨k + 1, by omega, by go_num, hsz3, HO3, HB3⟩
      case measure => simp [intOf]; omega
    · have hke : k = ts.length := by omega
      subst hke
      have HO' := Lib.hid HO.out
      rw [List.take_length] at HO'
      clear HO HOK
      go_wp2_with (go_at_call 10; refine (HJJ.out _ _ HO'.out).mono ?_; rintro e' w2 ⟨rfl, hb2⟩)
      have HB2 := Lib.hid (HB.out.trans (hb2.mono HB.out.size))
      clear hb2 HB HJJ HO'
      go_at_call 8
      refine (HJ.out _ (HV1.out.keep HB2.out)).mono ?_
      rintro e' w3 ⟨A2, c2, rfl, hs3, hb3⟩
      have HB3 := Lib.hid (HB2.out.trans (hb3.mono HB2.out.size))
      have HS3 := Lib.hid hs3
      have hle3 := hs3.le
      have hbig3 := hs3.big
      have HS2 := Lib.hid (HS1.out.keep RTk.keeps HB3.out)
      clear hb3 hs3 HB2 HS1 HJ
      go_wp2_with fail
      go_loopw [72] (fun u wr => ∃ k : Nat, k ≤ ts.length ∧ u = .int .i64 k ∧ Hid (Slc 4 RTk wr A c ts) ∧ Hid (Slc 4 RTk wr A2 c2 vs) ∧ Hid (Below w1.heap.size w1 wr)) (fun u _ => ts.length - (intOf u).toNat)
      case atStart => exact ⟨0, by omega, rfl, HS2, HS3, HB3⟩
      case round =>
        clear HS2 HS3 HB3
        obtain ⟨k, hk, rfl, HS, HT, HB⟩ := hrel
        by_cases hlt : k < ts.length
        · have hlt2 : k < vs.length := by omega
          obtain ⟨b, o, rfl, hb', hr'⟩ := HS.out.sl.at_ hlt
          obtain ⟨x0, x1, x2, x3⟩ := hr'
          obtain ⟨b2, o2, rfl, hb2', hr2'⟩ := HT.out.sl.at_ hlt2
          obtain ⟨y0, y1, y2, y3⟩ := hr2'
          obtain ⟨q0, q1, q2⟩ := HSM.out k hlt2 hlt
          rw [q0] at y0
          rw [q1] at y1
          rw [q2] at y2
          generalize ts[k] = t at *
          clear q0 q1 q2 y3
          go_wp2_with fail
          go_quiet (fail)
          go_wp2_with fail
          go_roundw
          case rel => exact ⟨k + 1, by omega, by go_num, Lib.hid (HS.out.keep RTk.keeps (below_drewN (Below.refl _ _) _)), Lib.hid (HT.out.keep RTk.keeps (below_drewN (Below.refl _ _) _)), Lib.hid (below_drewN HB.out _)⟩
          case measure => simp [intOf]; omega
        · go_wp2_with (go_at_call 7; refine (alive_any _ (HV1.out.keep HB.out)).mono ?_; rintro e' wz ⟨rfl, hbz⟩)
          go_ret
          exact ⟨rfl, (HB1.out.trans (HB.out.mono HB1.out.size)).trans (hbz.mono (by have h1 := HB1.out.size; have h2 := HB.out.size; omega))⟩
end Go.Proofs.YtmfdppgfbgjmcaaDoor
