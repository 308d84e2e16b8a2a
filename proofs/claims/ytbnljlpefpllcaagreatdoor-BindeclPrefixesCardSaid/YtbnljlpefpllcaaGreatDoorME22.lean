/-
  Parts of the proof: V53 V52 V60 V67B0 V67G0 V67B1.
-/
import Derived.Test.YtbnljlpefpllcaaGreatDoorME0
import Derived.Test.YtbnljlpefpllcaaGreatDoorME20
import Derived.Test.YtbnljlpefpllcaaGreatDoorME12
import Derived.Test.YtbnljlpefpllcaaGreatDoorME9
import Derived.Test.YtbnljlpefpllcaaGreatDoorME17
import Derived.Test.YtbnljlpefpllcaaGreatDoorME14
import Derived.Test.YtbnljlpefpllcaaGreatDoorME21
import Derived.Test.YtbnljlpefpllcaaGreatDoorME13
import Derived.Test.YtbnljlpefpllcaaGreatDoorME5
namespace Go.Proofs.YtbnljlpefpllcaaGreatDoor
set_option maxRecDepth 100000
set_option maxHeartbeats 16000000
section
open Go Go.RowKit Go.Maps
theorem rW (b:Bdy) (bh:BH) (w:World) (H:BdAt w b bh) (hz:∀x∈b.blocks,x.term.name.size≤9223372036854775807)
 (hdecl:∀W,Below w.heap.size w W→Calls Tryz.prog 61 #[.agg (bdC b bh).toArray] W fun e' w'=>e' = .returned (.int .i64 (declC b))∧Below W.heap.size W w')
 (hstm:declC b=0→∀W,Below w.heap.size w W→∀(s:Stm) (A0 A B:Option Addr) (c0 c d:Nat),Slc 2 RPj w A0 c0 s.place.proj→Slc 2 RPj w A c s.rv.place.proj→Slc 4 ROp w B d s.rv.args→
   Calls Tryz.prog 62 #[.agg (bdC b bh).toArray,.agg (stC s A0 c0 A c B d).toArray] W fun e' w'=>e' = .returned (.int .i64 (stE b s))∧Below W.heap.size W w')
 (htm:declC b=0→∀W,Below w.heap.size w W→∀(t:Trm) (A B C:Option Addr) (c d f:Nat),Slc 1 RInt w A c t.targets→Slc 4 ROp w B d t.args→Slc 2 RPj w C f t.place.proj→t.name.size≤9223372036854775807→
   Calls Tryz.prog 63 #[.agg (bdC b bh).toArray,.agg (tmC t A c B d C f).toArray] W fun e' w'=>e' = .returned (.int .i64 (tmE b t))∧Below W.heap.size W w'):
 Calls Tryz.prog 17 #[.agg (bdC b bh).toArray] w fun e' w'=>e' = .returned (.int .i64 (chkB b))∧Below w.heap.size w w':=by
 have HZ:=aF hz
 have HD:=aF hdecl
 have HST:=aF hstm
 have HTM:=aF htm
 have HBLK:=aF H.blk
 have hbl:=H.blk.le
 have hbg:=H.blk.big
 obtain ⟨R,hR⟩:∃R,chkB b=R:=⟨_,rfl⟩
 rw [hR]
 have HR:Hid (R=if declC b=0 then bksE b b.blocks else declC b):=aF hR.symm
 have HNB:=aF (fun h=>(dY (b:=b) h).nblk.1)
 clear hR H hdecl hstm htm hz
 unfold bdC at *
 by_cases hd:declC b=0
 case neg=>
  have HF:Hid (R=declC b):=aF (by rw [HR.out,aX hd])
  generalize declC b=de at HD HF hd
  have e1:(de != 0)=true:=by simp [hd]
  clear HR HST HTM HNB hd
  go_enter Tryz.func17,Tryz.ntmps17
  go_wp2_with (go_at_call 61;refine (HD.out _ ((aV _ _).alloc (aW _) _)).mono ?_;rintro e' w1 ⟨rfl,hb1⟩;have HB:=aF (((aV _ _).alloc (aW _) _).trans (hb1.mono ((aV _ _).alloc (aW _) _).size));clear hb1)
  go_ret
  exact ⟨by rw [HF.out];rfl,HB.out⟩
 case pos=>
 have HF:Hid (R=bksE b b.blocks):=aF (by rw [HR.out,aY hd])
 have HSM:=aF (HST.out hd)
 have HTT0:=aF (HTM.out hd)
 obtain ⟨bb,oo,hA5,hbb,hel⟩:=HBLK.out.sl (HNB.out hd)
 have HEL:=aF hel
 rw [hd] at HD
 clear HR HST HTM HNB hd hel
 rw [hA5] at HD HSM HTT0 ⊢
 have HCW:=aF (cW w [Value.string b.name,.slice bh.A1 b.regions.length bh.c1,.slice bh.A2 b.outl.length bh.c2,.slice bh.A3 b.types.length bh.c3,.slice bh.A4 b.locals.length bh.c4,.int .i64 b.args,.slice (some ⟨bb,oo,none⟩) b.blocks.length bh.c5] 28)
 go_enter Tryz.func17,Tryz.ntmps17
 go_wp2_with (go_at_call 61;refine (HD.out _ ((aV _ _).alloc (aW _) _)).mono ?_;rintro e' w1 ⟨rfl,hb1⟩;have HB:=aF (((aV _ _).alloc (aW _) _).trans (hb1.mono ((aV _ _).alloc (aW _) _).size));have HC1:=aF (cells_kept HCW.out hb1);have hsz1:w.heap.size<w1.heap.size:=bN (by simp) hb1.size;clear hb1)
 go_loopg [4] b.blocks.length (fun gk i wr=>∃k:Nat,gk=b.blocks.length - k∧k≤b.blocks.length∧i = .int .i64 k∧Hid (aA (bdM b bh.A1 bh.c1 bh.A2 bh.c2 bh.A3 bh.c3 bh.A4 bh.c4 (some ⟨bb,oo,none⟩) bh.c5 []) wr w.heap.size)∧Hid (Below w.heap.size w wr)∧w.heap.size<wr.heap.size∧Hid (R=bksE b (b.blocks.drop k)))
 case atStart=>exact ⟨0,by omega,by omega,rfl,HC1,HB,hsz1,HF⟩
 case round=>
  clear HC1 HB HF HCW
  obtain ⟨k,hgk,hk,rfl,HCC,HB3,hlw3,hr⟩:=hrel
  obtain ⟨y0,y1,y2,y3,y4,y5,y6⟩:=aQ HCC.out
  by_cases hlt:k<b.blocks.length
  ·have hd:=cU hlt
   have hx:=HEL.out k _ (bB hlt)
   have hxz:=HZ.out _ (bM hlt)
   obtain ⟨x,hxx⟩:∃x,b.blocks[k]=x:=⟨_,rfl⟩
   rw [hxx] at hd hx hxz
   obtain ⟨A1,c1,A2,c2,A3,c3,A4,c4,p0,p1,p2,p3,p4,p5,p6,hs1,hs2,hs3,hs4⟩:=sX hx
   have HQ:Hid (R=if bkE b x=0 then bksE b (b.blocks.drop (k+1)) else bkE b x):=aF (by rw [hr.out,hd,bksE])
   have HS1:=aF hs1
   have hl1:=hs1.le
   have hg1:=hs1.big
   have HTT:=aF (fun W hb=>HTT0.out W hb x.term A2 A3 A4 c2 c3 c4 hs2 hs3 hs4 hxz)
   unfold tmC at HTT
   replace p0:=cell_keep HB3.out p0
   replace p1:=cell_keep HB3.out p1
   replace p2:=cell_keep HB3.out p2
   replace p3:=cell_keep HB3.out p3
   replace p4:=cell_keep HB3.out p4
   replace p5:=cell_keep HB3.out p5
   replace p6:=cell_keep HB3.out p6
   clear hd hx hxx hr hs1 hs2 hs3 hs4 hxz
   by_cases hln:65535<x.stmts.length
   ·have HF:Hid (R=15):=aF (by rw [HQ.out];unfold bkE;rw [aY hln];rfl)
    clear HQ
    go_wp2_with fail
    go_ret
    exact ⟨by rw [HF.out];rfl,HB3.out.alloc (Nat.le_of_lt hlw3) _⟩
   have HQ2:Hid (R=if stsE b (x.stmts.drop 0)=0 then (if tmE b x.term=0 then bksE b (b.blocks.drop (k+1)) else tmE b x.term) else stsE b (x.stmts.drop 0)):=aF (by
    rw [HQ.out,bW]
    unfold bkE
    rw [aX hln]
    by_cases h:stsE b x.stmts=0 <;> simp [h])
   have HBK:=aF (cW wr (bkL x A1 c1 A2 c2 A3 c3 A4 c4) 60)
   have HCC2:Hid (∀i v,[Value.string b.name,.slice bh.A1 b.regions.length bh.c1,.slice bh.A2 b.outl.length bh.c2,.slice bh.A3 b.types.length bh.c3,.slice bh.A4 b.locals.length bh.c4,.int .i64 b.args,.slice (some ⟨bb,oo,none⟩) b.blocks.length bh.c5][i]?=some v→(wr.alloc (.cells (bkL x A1 c1 A2 c2 A3 c3 A4 c4).toArray 60)).cell? ⟨w.heap.size,i,none⟩=some v):=aF (fun i v hi=>cell_keep ((aV _ _).alloc (aW _) _) (HCC.out i v hi))
   have HB4:=aF (HB3.out.alloc (Nat.le_of_lt hlw3) (.cells (bkL x A1 c1 A2 c2 A3 c3 A4 c4).toArray 60))
   obtain ⟨gx,hgx⟩:∃g,wr.heap.size=g:=⟨_,rfl⟩
   clear HQ
   go_wp2_with fail
   go_loopg [6] x.stmts.length (fun gj i wr2=>∃j:Nat,gj=x.stmts.length - j∧j≤x.stmts.length∧i = .int .i64 j∧Hid (aA (bdM b bh.A1 bh.c1 bh.A2 bh.c2 bh.A3 bh.c3 bh.A4 bh.c4 (some ⟨bb,oo,none⟩) bh.c5 []) wr2 w.heap.size)∧Hid (aA (bkL x A1 c1 A2 c2 A3 c3 A4 c4) wr2 wr.heap.size)∧Hid (Below w.heap.size w wr2)∧wr.heap.size+1≤wr2.heap.size∧Hid (R=if stsE b (x.stmts.drop j)=0 then (if tmE b x.term=0 then bksE b (b.blocks.drop (k+1)) else tmE b x.term) else stsE b (x.stmts.drop j)))
   case atStart=>exact ⟨0,by omega,by omega,rfl,HCC2,HBK,HB4,by simp,HQ2⟩
   case round=>
    clear HCC2 HBK HB4 HQ2 p0 p1 p2 p3 p4 p5 p6 HCC HB3 y0 y1 y2 y3 y4 y5 y6
    obtain ⟨j,hgj,hj,rfl,HCC,HBK,HB5,hsz5,hr⟩:=hrel
    have hlw5:=Nat.lt_of_succ_le hsz5
    have hlw6:=Nat.lt_trans hlw3 hlw5
    rw [hgx] at HBK hlw5 hsz5
    by_cases hjl:j<x.stmts.length
    ·have hd:=cU hjl
     obtain ⟨b3,o3,hA1,hb3,hy⟩:=HS1.out.sl.at_ hjl
     have HA1:=aF hA1
     clear hA1
     obtain ⟨s,hss⟩:∃s,x.stmts[j]=s:=⟨_,rfl⟩
     rw [hss] at hd hy
     obtain ⟨B0,d0,B1,d1,B2,d2,m0,m1,m2,m3,m4,m5,m6,m7,m8,m9,m10,hp0,hp,hl⟩:=rJ hy
     have HSS:=aF (fun W hb=>HSM.out W hb s B0 B1 B2 d0 d1 d2 hp0 hp hl)
     unfold stC at HSS
     have hmm:∀X,Below w.heap.size w X→∀i v,(stC s B0 d0 B1 d1 B2 d2)[i]?=some v→X.cell? ⟨b3,o3+j * 11+i,none⟩=some v:=fun X hX i v hi=>by
      refine cell_keep hX ?_
      match i,hi with
      | 0,hi=>simp [stC] at hi;subst hi;exact m0
      | 1,hi=>simp [stC] at hi;subst hi;exact m1
      | 2,hi=>simp [stC] at hi;subst hi;exact m2
      | 3,hi=>simp [stC] at hi;subst hi;exact m3
      | 4,hi=>simp [stC] at hi;subst hi;exact m4
      | 5,hi=>simp [stC] at hi;subst hi;exact m5
      | 6,hi=>simp [stC] at hi;subst hi;exact m6
      | 7,hi=>simp [stC] at hi;subst hi;exact m7
      | 8,hi=>simp [stC] at hi;subst hi;exact m8
      | 9,hi=>simp [stC] at hi;subst hi;exact m9
      | 10,hi=>simp [stC] at hi;subst hi;exact m10
      | i+11,hi=>simp [stC] at hi
     have HMM:=aF hmm
     have HQ3:Hid ((stE b s=0→R=if stsE b (x.stmts.drop (j+1))=0 then (if tmE b x.term=0 then bksE b (b.blocks.drop (k+1)) else tmE b x.term) else stsE b (x.stmts.drop (j+1)))∧(stE b s≠0→R=stE b s)):=aF (by
      rw [hr.out,hd]
      constructor
      ·intro h;rw [show stsE b (s :: x.stmts.drop (j+1))=stsE b (x.stmts.drop (j+1)) from by rw [stsE,aY h]]
      ·intro h;rw [show stsE b (s :: x.stmts.drop (j+1))=stE b s from by rw [stsE,aX h],aX h])
     generalize stE b s=es at HSS HQ3
     clear hd hy hss hp0 hp hl hr hmm m0 m1 m2 m3 m4 m5 m6 m7 m8 m9 m10
     have k0:=HBK.out 0 _ rfl
     go_wp2_with fail
     have hS:(aA (bdM b bh.A1 bh.c1 bh.A2 bh.c2 bh.A3 bh.c3 bh.A4 bh.c4 (some ⟨bb,oo,none⟩) bh.c5 []) wr.drew w.heap.size)∧(aA (bkL x A1 c1 A2 c2 A3 c3 A4 c4) wr.drew gx)∧Below w.heap.size w wr.drew:=⟨HCC.out,HBK.out,HB5.out.drew⟩
     clear k0
     refine cP (S:=fun X=>(aA (bdM b bh.A1 bh.c1 bh.A2 bh.c2 bh.A3 bh.c3 bh.A4 bh.c4 (some ⟨bb,oo,none⟩) bh.c5 []) X w.heap.size)∧(aA (bkL x A1 c1 A2 c2 A3 c3 A4 c4) X gx)∧Below w.heap.size w X) [0,1,2,3,4,5,6,7] (by kernel_rfl) ?_
     (iterate 6 (refine cQ (v:=?_) ?_ hS ?_;rotate_left;(next=>(rintro X ⟨hX,hY,hZ⟩;obtain ⟨s0,s1,s2,s3,s4,s5,s6⟩:=aQ hX;have t0:=hY 0 _ rfl;rw [HA1.out] at t0;have m0:=HMM.out X hZ 0 _ rfl;have m1:=HMM.out X hZ 1 _ rfl;have m2:=HMM.out X hZ 2 _ rfl;have m3:=HMM.out X hZ 3 _ rfl;have m4:=HMM.out X hZ 4 _ rfl;have m5:=HMM.out X hZ 5 _ rfl;have m6:=HMM.out X hZ 6 _ rfl;have m7:=HMM.out X hZ 7 _ rfl;have m8:=HMM.out X hZ 8 _ rfl;have m9:=HMM.out X hZ 9 _ rfl;have m10:=HMM.out X hZ 10 _ rfl;rw [Nat.add_zero] at m0;(try simp only [aH]);go_simp;rfl));simp only [aH,Act.put,aJ]))
     (refine cS (by kernel_rfl) (fun K1 hK1=>?_);simp only [aH,Act.put,aJ];rw [aY (by rfl)];go_simp)
     refine (HSS.out _ hS.2.2).mono ?_
     rintro e' w5 ⟨rfl,hb5⟩
     replace hS:=bI (cells_kept hS.1 hb5) (bI (cells_kept hS.2.1 hb5) (hS.2.2.trans (hb5.mono hS.2.2.size)))
     have HS5:=aF hS
     have hsz7:wr.heap.size≤w5.heap.size:=hb5.size
     clear hb5
     refine hK1.out _ _ (fun _=>hS) ?_
     clear hK1
     (iterate 1 (refine cQ (v:=?_) ?_ hS ?_;rotate_left;(next=>(rintro X -;(try simp only [aH]);go_simp;rfl));simp only [aH,Act.put,aJ]))
     refine cV (by kernel_rfl) ?_
     clear hS
     by_cases he:es=0
     ·subst he
      have HF:=aF (HQ3.out.1 rfl)
      clear HQ3
      go_wp2_with fail
      go_roundg (x.stmts.length - (j+1))
      case measure=>omega
      case rel=>exact ⟨j+1,rfl,by omega,by go_num,aF HS5.out.1,aF (by rw [hgx];exact HS5.out.2.1),aF HS5.out.2.2,by omega,HF⟩
     ·have HF:=aF (HQ3.out.2 he)
      have e1:(es != 0)=true:=by simp [he]
      clear HQ3 he
      go_wp2_with fail
      go_ret
      exact ⟨by rw [HF.out];rfl,HS5.out.2.2⟩
    ·have HQ3:Hid (R=if tmE b x.term=0 then bksE b (b.blocks.drop (k+1)) else tmE b x.term):=aF (by rw [hr.out,bD (by omega:x.stmts.length≤j)];rfl)
     obtain ⟨y0,y1,y2,y3,y4,y5,y6⟩:=aQ HCC.out
     obtain ⟨k0,k1,k2,k3,k4,k5,k6⟩:=aQ HBK.out
     generalize tmE b x.term=et at HTT HQ3
     clear hr
     by_cases he:et=0
     ·subst he
      have HF:Hid (R=bksE b (b.blocks.drop (k+1))):=aF (by rw [HQ3.out];rfl)
      clear HQ3
      go_wp2_with (go_at_call 63;refine (HTT.out _ HB5.out).mono ?_;rintro e' w5 ⟨rfl,hb5⟩;have HB7:=aF (HB5.out.trans (hb5.mono HB5.out.size));have HC7:=aF (cells_kept HCC.out hb5);have hsz7:=hb5.size;clear hb5)
      go_roundg (b.blocks.length - (k+1))
      case measure=>omega
      case rel=>exact ⟨k+1,rfl,by omega,by go_num,HC7,HB7,by omega,HF⟩
     ·have HF:Hid (R=et):=aF (by rw [HQ3.out,aX he])
      have e1:(et != 0)=true:=by simp [he]
      clear HQ3 he
      go_wp2_with (go_at_call 63;refine (HTT.out _ HB5.out).mono ?_;rintro e' w5 ⟨rfl,hb5⟩;have HB7:=aF (HB5.out.trans (hb5.mono HB5.out.size));clear hb5)
      go_ret
      exact ⟨by rw [HF.out];rfl,HB7.out⟩
  ·have HF:Hid (R=0):=aF (by rw [hr.out,bD (by omega:b.blocks.length≤k)];rfl)
   clear hr
   go_wp2_with fail
   go_ret
   exact ⟨by rw [HF.out];rfl,HB3.out⟩
theorem xX {b:Bdy} {bh:BH} {w:World} (H:Rk w b bh) (s:Stm) (A0 A B:Option Addr) (c0 c d:Nat) (hp0:Slc 2 RPj w A0 c0 s.place.proj) (_hl:Slc 4 ROp w B d s.rv.args)
 (hasg:∀W,Below w.heap.size w W→∀t:Nat,t<b.types.length→Calls Tryz.prog 106 #[.agg (bdC b bh).toArray,.agg (rvC s.rv A c B d).toArray,.int .i64 t] W fun e' w'=>e' = .returned (.int .i64 (rvE b s.rv t))∧Below W.heap.size W w'):
 Calls Tryz.prog 62 #[.agg (bdC b bh).toArray,.agg (stC s A0 c0 A c B d).toArray] w fun e' w'=>e' = .returned (.int .i64 (stE b s))∧Below w.heap.size w w':=by
 have HT:=aF (fun W (hb:Below w.heap.size w W)=>eK b bh s.place A0 c0 W (H.keep hb).at_ (hp0.keep RPj.keeps hb) H.ok.okay)
 have HM:=aF (fun W (hb:Below w.heap.size w W)=>kV b bh s.place A0 c0 W (H.keep hb).at_ (hp0.keep RPj.keeps hb) H.ok.okay)
 have HN:=aF (fun W=>dS s.place A0 c0 W)
 have HBK:=aF (fun W=>vO s.rv A B c d W)
 have hlocl:=H.at_.loc.le
 have hlocb:=H.at_.loc.big
 have hin:=gO H.ok.okay (l:=s.place.loc) (ps:=s.place.proj)
 change (tyB b s.place).2=0→0≤(tyB b s.place).1∧(tyB b s.place).1<b.types.length at hin
 have HAS0:=aF hasg
 obtain ⟨R,hR⟩:∃R,stE b s=R:=⟨_,rfl⟩
 rw [hR]
 have HR:Hid (R=if s.kind=0 then (if s.loc≠0 then 2 else if writE b s.place≠0 then writE b s.place else rvE b s.rv (tyB b s.place).1) else if s.kind=1 then (if zeroP s.place=false∨blankR s.rv=false then 2 else if s.loc<0∨(b.locals.length:Int)≤s.loc then 3 else 0) else if s.kind=2 then (if zeroP s.place=false∨blankR s.rv=false∨s.loc≠0 then 2 else 0) else 14):=aF hR.symm
 have HW:Hid (writE b s.place=if (tyB b s.place).2≠0 then (tyB b s.place).2 else fail22 (!mutB b s.place)):=aF rfl
 clear H hp0 _hl hR hasg
 generalize writE b s.place=we at HR HW
 generalize tyB b s.place=q at HT HR HW hin
 generalize mutB b s.place=mu at HM HW
 generalize zeroP s.place=z at HN HR
 generalize blankR s.rv=bl at HBK HR
 obtain ⟨t,te⟩:=q
 simp only at HR HW hin HT
 unfold bdC at *
 unfold rvC at HBK HAS0
 unfold stC
 obtain ⟨k,hk⟩:∃k,s.kind=k:=⟨_,rfl⟩
 rw [hk] at HR ⊢
 clear hk
 by_cases h0:k=0
 ·subst h0
  clear HN HBK
  by_cases hl0:s.loc=0
  case neg=>
   have HF:Hid (R=2):=aF (by rw [HR.out];simp [hl0])
   have e1:(s.loc != 0)=true:=by simp [hl0]
   clear HR HW HM HT HAS0 hl0 hin
   go_enter Tryz.func62,Tryz.ntmps62
   go_wp2_with fail
   go_ret
   exact ⟨by rw [HF.out];rfl,aG⟩
  have e1:(s.loc != 0)=false:=by simp [hl0]
  by_cases ht:te=0
  case neg=>
   have HF:Hid (R=te):=aF (by rw [HR.out,aY rfl,aX (by simp [hl0]),HW.out];simp [ht])
   have e2:(te != 0)=true:=by simp [ht]
   clear HR HW HM HAS0 hl0 hin ht
   go_enter Tryz.func62,Tryz.ntmps62
   go_wp2_with (go_at_call 104;refine (HT.out _ (bel2 _ _ _)).mono ?_;rintro e' w1 ⟨rfl,hb⟩;have HB:=aF ((bel2 _ _ _).trans (hb.mono (bel2 _ _ _).size));obtain ⟨y,z⟩:=cR hb;have HY:=aF y;have HZ:=aF z;obtain ⟨y0,y1,y2,y3,y4,y5,y6⟩:=aQ HY.out;obtain ⟨z0,z1,z2,z3,z4,z5,z6,z7,z8,z9,z10⟩:=aU HZ.out;clear y z hb)
   go_ret
   exact ⟨by rw [HF.out];rfl,HB.out⟩
  subst ht
  obtain ⟨g1,g2⟩:=hin rfl
  obtain ⟨i,rfl⟩:=bF g1
  have HAS:=aF (fun W hb=>HAS0.out W hb i (by omega))
  cases mu
  ·have HF:Hid (R=22):=aF (by rw [HR.out,aY rfl,aX (by simp [hl0]),HW.out];simp [fail22])
   clear HR HW HAS HAS0 hl0 hin g1 g2
   go_enter Tryz.func62,Tryz.ntmps62
   go_wp2_with (first | (go_at_call 105;refine (HM.out _ HB.out).mono ?_;rintro e' w2 ⟨rfl,hb⟩;have HB2:=aF (HB.out.trans (hb.mono HB.out.size));have HY2:=aF (cells_kept HY.out hb);have HZ2:=aF (cells_kept HZ.out hb);clear y0 y1 y2 y3 y4 y5 y6 z0 z1 z2 z3 z4 z5 z6 z7 z8 z9 z10;clear hb HY HZ;have HY:=HY2;have HZ:=HZ2;obtain ⟨y0,y1,y2,y3,y4,y5,y6⟩:=aQ HY.out;obtain ⟨z0,z1,z2,z3,z4,z5,z6,z7,z8,z9,z10⟩:=aU HZ.out) | (go_at_call 104;refine (HT.out _ (bel2 _ _ _)).mono ?_;rintro e' w1 ⟨rfl,hb⟩;have HB:=aF ((bel2 _ _ _).trans (hb.mono (bel2 _ _ _).size));obtain ⟨y,z⟩:=cR hb;have HY:=aF y;have HZ:=aF z;obtain ⟨y0,y1,y2,y3,y4,y5,y6⟩:=aQ HY.out;obtain ⟨z0,z1,z2,z3,z4,z5,z6,z7,z8,z9,z10⟩:=aU HZ.out;clear y z hb))
   go_ret
   exact ⟨by rw [HF.out];rfl,HB2.out⟩
  ·have HF:Hid (R=rvE b s.rv i):=aF (by rw [HR.out,aY rfl,aX (by simp [hl0]),HW.out];simp [fail22])
   clear HR HW HAS0 hl0 hin g1 g2
   go_enter Tryz.func62,Tryz.ntmps62
   go_wp2_with (first | (go_at_call 106;refine (HAS.out _ HB2.out).mono ?_;rintro e' w3 ⟨rfl,hb⟩;have HB3:=aF (HB2.out.trans (hb.mono HB2.out.size));clear hb) | (go_at_call 105;refine (HM.out _ HB.out).mono ?_;rintro e' w2 ⟨rfl,hb⟩;have HB2:=aF (HB.out.trans (hb.mono HB.out.size));have HY2:=aF (cells_kept HY.out hb);have HZ2:=aF (cells_kept HZ.out hb);clear y0 y1 y2 y3 y4 y5 y6 z0 z1 z2 z3 z4 z5 z6 z7 z8 z9 z10;clear hb HY HZ;have HY:=HY2;have HZ:=HZ2;obtain ⟨y0,y1,y2,y3,y4,y5,y6⟩:=aQ HY.out;obtain ⟨z0,z1,z2,z3,z4,z5,z6,z7,z8,z9,z10⟩:=aU HZ.out) | (go_at_call 104;refine (HT.out _ (bel2 _ _ _)).mono ?_;rintro e' w1 ⟨rfl,hb⟩;have HB:=aF ((bel2 _ _ _).trans (hb.mono (bel2 _ _ _).size));obtain ⟨y,z⟩:=cR hb;have HY:=aF y;have HZ:=aF z;obtain ⟨y0,y1,y2,y3,y4,y5,y6⟩:=aQ HY.out;obtain ⟨z0,z1,z2,z3,z4,z5,z6,z7,z8,z9,z10⟩:=aU HZ.out;clear y z hb))
   go_ret
   exact ⟨by rw [HF.out];rfl,HB3.out⟩
 clear HM HT HAS0 HW hin
 by_cases h1:k=1
 ·subst h1
  cases z
  ·have HF:Hid (R=2):=aF (by rw [HR.out];simp)
   clear HR HBK h0
   go_enter Tryz.func62,Tryz.ntmps62
   go_wp2_with (go_at_call 107;refine (HN.out _).mono ?_;rintro e' w1 ⟨rfl,hb⟩;have HB:=aF ((bel2 _ _ _).trans (hb.mono (bel2 _ _ _).size));obtain ⟨y,z⟩:=cR hb;have HY:=aF y;have HZ:=aF z;obtain ⟨y0,y1,y2,y3,y4,y5,y6⟩:=aQ HY.out;obtain ⟨z0,z1,z2,z3,z4,z5,z6,z7,z8,z9,z10⟩:=aU HZ.out;clear y z hb)
   go_ret
   exact ⟨by rw [HF.out];rfl,HB.out⟩
  cases bl
  ·have HF:Hid (R=2):=aF (by rw [HR.out];simp)
   clear HR h0
   go_enter Tryz.func62,Tryz.ntmps62
   go_wp2_with (first | (go_at_call 108;refine (HBK.out _).mono ?_;rintro e' w2 ⟨rfl,hb⟩;have HB2:=aF (HB.out.trans (hb.mono HB.out.size));have HY2:=aF (cells_kept HY.out hb);have HZ2:=aF (cells_kept HZ.out hb);clear y0 y1 y2 y3 y4 y5 y6 z0 z1 z2 z3 z4 z5 z6 z7 z8 z9 z10;clear hb HY HZ;have HY:=HY2;have HZ:=HZ2;obtain ⟨y0,y1,y2,y3,y4,y5,y6⟩:=aQ HY.out;obtain ⟨z0,z1,z2,z3,z4,z5,z6,z7,z8,z9,z10⟩:=aU HZ.out) | (go_at_call 107;refine (HN.out _).mono ?_;rintro e' w1 ⟨rfl,hb⟩;have HB:=aF ((bel2 _ _ _).trans (hb.mono (bel2 _ _ _).size));obtain ⟨y,z⟩:=cR hb;have HY:=aF y;have HZ:=aF z;obtain ⟨y0,y1,y2,y3,y4,y5,y6⟩:=aQ HY.out;obtain ⟨z0,z1,z2,z3,z4,z5,z6,z7,z8,z9,z10⟩:=aU HZ.out;clear y z hb))
   go_ret
   exact ⟨by rw [HF.out];rfl,HB2.out⟩
  by_cases hlo:s.loc<0∨(b.locals.length:Int)≤s.loc
  ·have HF:Hid (R=3):=aF (by rw [HR.out,aX h0,aY rfl,aX (by simp),aY hlo])
   clear HR h0
   go_enter Tryz.func62,Tryz.ntmps62
   go_wp2_with (first | (go_at_call 108;refine (HBK.out _).mono ?_;rintro e' w2 ⟨rfl,hb⟩;have HB2:=aF (HB.out.trans (hb.mono HB.out.size));have HY2:=aF (cells_kept HY.out hb);have HZ2:=aF (cells_kept HZ.out hb);clear y0 y1 y2 y3 y4 y5 y6 z0 z1 z2 z3 z4 z5 z6 z7 z8 z9 z10;clear hb HY HZ;have HY:=HY2;have HZ:=HZ2;obtain ⟨y0,y1,y2,y3,y4,y5,y6⟩:=aQ HY.out;obtain ⟨z0,z1,z2,z3,z4,z5,z6,z7,z8,z9,z10⟩:=aU HZ.out) | (go_at_call 107;refine (HN.out _).mono ?_;rintro e' w1 ⟨rfl,hb⟩;have HB:=aF ((bel2 _ _ _).trans (hb.mono (bel2 _ _ _).size));obtain ⟨y,z⟩:=cR hb;have HY:=aF y;have HZ:=aF z;obtain ⟨y0,y1,y2,y3,y4,y5,y6⟩:=aQ HY.out;obtain ⟨z0,z1,z2,z3,z4,z5,z6,z7,z8,z9,z10⟩:=aU HZ.out;clear y z hb))
   all_goals first
    | (exfalso;omega)
    | (go_ret;exact ⟨by rw [HF.out];rfl,HB2.out⟩)
  ·have HF:Hid (R=0):=aF (by rw [HR.out,aX h0,aY rfl,aX (by simp),aX hlo])
   have e5:¬s.loc<0:=by omega
   have e6:¬(b.locals.length:Int)≤s.loc:=by omega
   clear HR h0 hlo
   go_enter Tryz.func62,Tryz.ntmps62
   go_wp2_with (first | (go_at_call 108;refine (HBK.out _).mono ?_;rintro e' w2 ⟨rfl,hb⟩;have HB2:=aF (HB.out.trans (hb.mono HB.out.size));have HY2:=aF (cells_kept HY.out hb);have HZ2:=aF (cells_kept HZ.out hb);clear y0 y1 y2 y3 y4 y5 y6 z0 z1 z2 z3 z4 z5 z6 z7 z8 z9 z10;clear hb HY HZ;have HY:=HY2;have HZ:=HZ2;obtain ⟨y0,y1,y2,y3,y4,y5,y6⟩:=aQ HY.out;obtain ⟨z0,z1,z2,z3,z4,z5,z6,z7,z8,z9,z10⟩:=aU HZ.out) | (go_at_call 107;refine (HN.out _).mono ?_;rintro e' w1 ⟨rfl,hb⟩;have HB:=aF ((bel2 _ _ _).trans (hb.mono (bel2 _ _ _).size));obtain ⟨y,z⟩:=cR hb;have HY:=aF y;have HZ:=aF z;obtain ⟨y0,y1,y2,y3,y4,y5,y6⟩:=aQ HY.out;obtain ⟨z0,z1,z2,z3,z4,z5,z6,z7,z8,z9,z10⟩:=aU HZ.out;clear y z hb))
   all_goals first
    | (exfalso;omega)
    | (go_ret;exact ⟨by rw [HF.out];rfl,HB2.out⟩)
 by_cases h2:k=2
 ·subst h2
  cases z
  ·have HF:Hid (R=2):=aF (by rw [HR.out];simp)
   clear HR HBK h0 h1
   go_enter Tryz.func62,Tryz.ntmps62
   go_wp2_with (go_at_call 107;refine (HN.out _).mono ?_;rintro e' w1 ⟨rfl,hb⟩;have HB:=aF ((bel2 _ _ _).trans (hb.mono (bel2 _ _ _).size));obtain ⟨y,z⟩:=cR hb;have HY:=aF y;have HZ:=aF z;obtain ⟨y0,y1,y2,y3,y4,y5,y6⟩:=aQ HY.out;obtain ⟨z0,z1,z2,z3,z4,z5,z6,z7,z8,z9,z10⟩:=aU HZ.out;clear y z hb)
   go_ret
   exact ⟨by rw [HF.out];rfl,HB.out⟩
  cases bl
  ·have HF:Hid (R=2):=aF (by rw [HR.out];simp)
   clear HR h0 h1
   go_enter Tryz.func62,Tryz.ntmps62
   go_wp2_with (first | (go_at_call 108;refine (HBK.out _).mono ?_;rintro e' w2 ⟨rfl,hb⟩;have HB2:=aF (HB.out.trans (hb.mono HB.out.size));have HY2:=aF (cells_kept HY.out hb);have HZ2:=aF (cells_kept HZ.out hb);clear y0 y1 y2 y3 y4 y5 y6 z0 z1 z2 z3 z4 z5 z6 z7 z8 z9 z10;clear hb HY HZ;have HY:=HY2;have HZ:=HZ2;obtain ⟨y0,y1,y2,y3,y4,y5,y6⟩:=aQ HY.out;obtain ⟨z0,z1,z2,z3,z4,z5,z6,z7,z8,z9,z10⟩:=aU HZ.out) | (go_at_call 107;refine (HN.out _).mono ?_;rintro e' w1 ⟨rfl,hb⟩;have HB:=aF ((bel2 _ _ _).trans (hb.mono (bel2 _ _ _).size));obtain ⟨y,z⟩:=cR hb;have HY:=aF y;have HZ:=aF z;obtain ⟨y0,y1,y2,y3,y4,y5,y6⟩:=aQ HY.out;obtain ⟨z0,z1,z2,z3,z4,z5,z6,z7,z8,z9,z10⟩:=aU HZ.out;clear y z hb))
   go_ret
   exact ⟨by rw [HF.out];rfl,HB2.out⟩
  by_cases hlo:s.loc=0
  ·have HF:Hid (R=0):=aF (by rw [HR.out];simp [hlo])
   have e5:(s.loc != 0)=false:=by simp [hlo]
   clear HR h0 h1 hlo
   go_enter Tryz.func62,Tryz.ntmps62
   go_wp2_with (first | (go_at_call 108;refine (HBK.out _).mono ?_;rintro e' w2 ⟨rfl,hb⟩;have HB2:=aF (HB.out.trans (hb.mono HB.out.size));have HY2:=aF (cells_kept HY.out hb);have HZ2:=aF (cells_kept HZ.out hb);clear y0 y1 y2 y3 y4 y5 y6 z0 z1 z2 z3 z4 z5 z6 z7 z8 z9 z10;clear hb HY HZ;have HY:=HY2;have HZ:=HZ2;obtain ⟨y0,y1,y2,y3,y4,y5,y6⟩:=aQ HY.out;obtain ⟨z0,z1,z2,z3,z4,z5,z6,z7,z8,z9,z10⟩:=aU HZ.out) | (go_at_call 107;refine (HN.out _).mono ?_;rintro e' w1 ⟨rfl,hb⟩;have HB:=aF ((bel2 _ _ _).trans (hb.mono (bel2 _ _ _).size));obtain ⟨y,z⟩:=cR hb;have HY:=aF y;have HZ:=aF z;obtain ⟨y0,y1,y2,y3,y4,y5,y6⟩:=aQ HY.out;obtain ⟨z0,z1,z2,z3,z4,z5,z6,z7,z8,z9,z10⟩:=aU HZ.out;clear y z hb))
   go_ret
   exact ⟨by rw [HF.out];rfl,HB2.out⟩
  ·have HF:Hid (R=2):=aF (by rw [HR.out];simp [hlo])
   have e5:(s.loc != 0)=true:=by simp [hlo]
   clear HR h0 h1 hlo
   go_enter Tryz.func62,Tryz.ntmps62
   go_wp2_with (first | (go_at_call 108;refine (HBK.out _).mono ?_;rintro e' w2 ⟨rfl,hb⟩;have HB2:=aF (HB.out.trans (hb.mono HB.out.size));have HY2:=aF (cells_kept HY.out hb);have HZ2:=aF (cells_kept HZ.out hb);clear y0 y1 y2 y3 y4 y5 y6 z0 z1 z2 z3 z4 z5 z6 z7 z8 z9 z10;clear hb HY HZ;have HY:=HY2;have HZ:=HZ2;obtain ⟨y0,y1,y2,y3,y4,y5,y6⟩:=aQ HY.out;obtain ⟨z0,z1,z2,z3,z4,z5,z6,z7,z8,z9,z10⟩:=aU HZ.out) | (go_at_call 107;refine (HN.out _).mono ?_;rintro e' w1 ⟨rfl,hb⟩;have HB:=aF ((bel2 _ _ _).trans (hb.mono (bel2 _ _ _).size));obtain ⟨y,z⟩:=cR hb;have HY:=aF y;have HZ:=aF z;obtain ⟨y0,y1,y2,y3,y4,y5,y6⟩:=aQ HY.out;obtain ⟨z0,z1,z2,z3,z4,z5,z6,z7,z8,z9,z10⟩:=aU HZ.out;clear y z hb))
   go_ret
   exact ⟨by rw [HF.out];rfl,HB2.out⟩
 have HF:Hid (R=14):=aF (by rw [HR.out,aX h0,aX h1,aX h2])
 have e0:(k == 0)=false:=by simp [h0]
 have e1:(k == 1)=false:=by simp [h1]
 have e2:(k == 2)=false:=by simp [h2]
 clear HR HBK HN h0 h1 h2
 go_enter Tryz.func62,Tryz.ntmps62
 go_wp2_with fail
 go_ret
 exact ⟨by rw [HF.out];rfl,aG⟩
end
section
open Go Go.RowKit
theorem xCK {b:Bdy} {bh:BH} {w:World} (H:Rk w b bh) (rv:Rvl) (t:Nat) (ht:t<b.types.length) (A B:Option Addr) (c d:Nat) (hp:Slc 2 RPj w A c rv.place.proj) (hl:Slc 4 ROp w B d rv.args):
 Calls Tryz.prog 106 #[.agg (bdC b bh).toArray,.agg (rvC rv A c B d).toArray,.int .i64 t] w fun e' w'=>e' = .returned (.int .i64 (rvE b rv t))∧Below w.heap.size w w':=by
 by_cases h:shapeE rv=0
 case neg=>exact vQ rv t A B c d h
 obtain ⟨⟨h0,h1⟩,hu⟩:=kR h
 rcases (show rv.kind=0∨rv.kind=1∨rv.kind=2∨rv.kind=3∨rv.kind=4 by omega) with hk | hk | hk | hk | hk
 ·exact xCH H rv t ht A B c d hl h hk
 ·exact xCJ H rv t ht A B c d hp h hk
 ·by_cases hr:rv.op<0∨1<rv.op
  ·exact mL H rv t ht A B c d h (Or.inl ⟨hk,hr⟩)
  ·have hpos:0<rv.args.length:=by
    unfold unusedR at hu
    rw [aX (by omega),aX (by omega),aY hk] at hu
    simp only [bP,decide_eq_true_eq] at hu
    omega
   exact xFM H rv t ht A B c d hl h hk (by omega) hpos
 ·by_cases hr:rv.op<0∨5<rv.op
  ·exact mL H rv t ht A B c d h (Or.inr ⟨hk,hr⟩)
  ·have hpos:0<rv.args.length:=by
    unfold unusedR at hu
    rw [aX (by omega),aX (by omega),aX (by omega),aY hk] at hu
    simp only [bP,decide_eq_true_eq] at hu
    omega
   exact xFN H rv t ht A B c d hl h hk (by omega) hpos
 ·exact yE H rv t ht A B c d hl h hk
theorem xFK {b:Bdy} {bh:BH} {w:World} (H:Rk w b bh) (s:Stm) (A0 A B:Option Addr) (c0 c d:Nat) (hp0:Slc 2 RPj w A0 c0 s.place.proj) (hp:Slc 2 RPj w A c s.rv.place.proj) (hl:Slc 4 ROp w B d s.rv.args):
 Calls Tryz.prog 62 #[.agg (bdC b bh).toArray,.agg (stC s A0 c0 A c B d).toArray] w fun e' w'=>e' = .returned (.int .i64 (stE b s))∧Below w.heap.size w w':=
 xX H s A0 A B c0 c d hp0 hl (fun _W hb t ht=>xCK (H.keep hb) s.rv t ht A B c d (hp.keep RPj.keeps hb) (hl.keep ROp.keeps hb))
end
section
open Go Go.RowKit Go.Maps
theorem vG {b:Bdy} {bh:BH} {w:World} (_H:Rk w b bh) (t:Trm) (A B C:Option Addr) (c d f:Nat) (ht:Slc 1 RInt w A c t.targets) (hl:Slc 4 ROp w B d t.args) (_hp:Slc 2 RPj w C f t.place.proj) (hk:t.kind=0) (hfd:fieldsT t=false):
 Calls Tryz.prog 63 #[.agg (bdC b bh).toArray,.agg (tmC t A c B d C f).toArray] w fun e' w'=>e' = .returned (.int .i64 (tmE b t))∧Below w.heap.size w w':=by
 have HZ:=aF (fun W=>dS t.place C f W)
 have HF:Hid (tmE b t=2):=aF (by rw [tmE,aX (by omega),aY hfd])
 generalize tmE b t=R at HF ⊢
 have hfd2:=hfd
 unfold fieldsT at hfd2
 rw [hk] at hfd2
 simp only [reduceIte,Int.reduceEq] at hfd2
 obtain ⟨n,hn⟩:∃n,t.targets.length=n:=⟨_,rfl⟩
 obtain ⟨m,hm⟩:∃m,t.args.length=m:=⟨_,rfl⟩
 obtain ⟨z,hzz⟩:∃z,zeroP t.place=z:=⟨_,rfl⟩
 have hmb:m≤9223372036854775807:=by have h1:=hl.le;have h2:=hl.big;omega
 have hnb:n≤9223372036854775807:=by have h1:=ht.le;have h2:=ht.big;omega
 obtain ⟨u,hu⟩:∃u,decide (t.name.size=0)=u:=⟨_,rfl⟩
 have hne:=eN t.name
 rw [hu] at hne
 try rw [hu] at hfd2
 rw [hn] at hfd2
 try rw [hm] at hfd2
 try rw [hzz] at hfd2
 rw [hzz] at HZ
 clear _H ht hl _hp hfd hzz
 unfold bdC tmC
 rw [hk,hn,hm]
 clear hk hn hm
 by_cases hn:n=1
 case neg=>
  have e1:((n:Int) != 1)=true:=by simp;omega
  clear hfd2 hne HZ hu
  go_enter Tryz.func63,Tryz.ntmps63
  go_wp2_with fail
  go_quiet (fail)
  all_goals go_wp2_with fail
  all_goals first
   | (exfalso;omega)
   | (go_ret;exact ⟨by rw [HF.out];rfl,by first | exact bA aG _ | exact aG⟩)
 subst hn
 cases u
 case false=>
  clear hfd2 HZ hu
  go_enter Tryz.func63,Tryz.ntmps63
  go_wp2_with fail
  go_quiet (fail)
  all_goals go_wp2_with fail
  all_goals first
   | (exfalso;omega)
   | (go_ret;exact ⟨by rw [HF.out];rfl,by first | exact bA aG _ | exact aG⟩)
 have hnm:t.name={ data:= #[] }:=by
  have h:=of_decide_eq_true hu
  cases hh:t.name with
  | mk dd=>
    rw [hh] at h
    exact congrArg ByteArray.mk (Array.eq_empty_of_size_eq_zero (show dd.size=0 from h))
 rw [hnm]
 clear hu hne hnm
 cases z
 case false=>
  clear hfd2
  go_enter Tryz.func63,Tryz.ntmps63
  go_wp2_with fail
  have hS:=gL w (bdC b bh) (tmL 0 1 A c B m d t C f { data:= #[] }) arT 28 57 172
  refine cP (S:=fun X=>aD w (bdC b bh) (tmL 0 1 A c B m d t C f { data:= #[] }) arT X) [0,1,2,3,4,5,6,7,8,9,10,11,12,13,14,15,16,17,18,19,20,21,22,23,24,25,26,27,28,29,30,31,32,33,34,35,36,37,38,39,40,41,42,43,44,45,46,47,48,49,50,51,52,53,54,55,56,57] (by kernel_rfl) ?_
  (iterate 28 (refine cQ (v:=?_) ?_ hS ?_;rotate_left;(next=>(rintro X ⟨hX,hY,hA,hZ⟩;obtain ⟨s0,s1,s2,s3,s4,s5⟩:=aP hY;have a0:=hA 0 _ rfl;(try simp only [aH]);go_simp;rfl));simp only [aH,Act.put,aJ]))
  (refine cS (by kernel_rfl) (fun K1 hK1=>?_);simp only [aH,Act.put,aJ];rw [aY (by rfl)];go_simp)
  refine (HZ.out _).mono ?_
  rintro e' w1 ⟨rfl,hb⟩
  replace hS:=bI (cells_kept hS.1 hb) (bI (cells_kept hS.2.1 hb) (bI (cells_kept hS.2.2.1 hb) (hS.2.2.2.trans (hb.mono hS.2.2.2.size))))
  have HS2:=aF hS
  clear hb
  refine hK1.out _ _ (fun _=>hS) ?_
  clear hK1
  (iterate 4 (refine cQ (v:=?_) ?_ hS ?_;rotate_left;(next=>(rintro X ⟨hX,hY,hA,hZ⟩;obtain ⟨s0,s1,s2,s3,s4,s5⟩:=aP hY;have a0:=hA 0 _ rfl;(try simp only [aH]);go_simp;rfl));simp only [aH,Act.put,aJ]))
  (iterate 9 (refine dA (v:=undef) (by kernel_rfl) (fun _ _ _ h=>h) (Or.inr ⟨by rfl,rfl⟩) hS ?_;simp only [aH,Act.put,aJ]))
  (iterate 2 (refine cQ (v:=?_) ?_ hS ?_;rotate_left;(next=>(rintro X ⟨hX,hY,hA,hZ⟩;obtain ⟨s0,s1,s2,s3,s4,s5⟩:=aP hY;have a0:=hA 0 _ rfl;(try simp only [aH]);go_simp;rfl));simp only [aH,Act.put,aJ]))
  (iterate 13 (refine dA (v:=undef) (by kernel_rfl) (fun _ _ _ h=>h) (Or.inr ⟨by rfl,rfl⟩) hS ?_;simp only [aH,Act.put,aJ]))
  (iterate 1 (refine cQ (v:=?_) ?_ hS ?_;rotate_left;(next=>(rintro X ⟨hX,hY,hA,hZ⟩;obtain ⟨s0,s1,s2,s3,s4,s5⟩:=aP hY;have a0:=hA 0 _ rfl;(try simp only [aH]);go_simp;rfl));simp only [aH,Act.put,aJ]))
  refine cV (by kernel_rfl) ?_
  clear hS
  go_wp2_with fail
  all_goals first
   | (exfalso;omega)
   | (go_ret;exact ⟨by rw [HF.out];rfl,HS2.out.2.2.2⟩)
 have hm0:0<m:=by simp at hfd2;omega
 have e3:decide (0<(m:Int))=true:=by simp;omega
 clear hfd2
 go_enter Tryz.func63,Tryz.ntmps63
 go_wp2_with fail
 have hS:=gL w (bdC b bh) (tmL 0 1 A c B m d t C f { data:= #[] }) arT 28 57 172
 refine cP (S:=fun X=>aD w (bdC b bh) (tmL 0 1 A c B m d t C f { data:= #[] }) arT X) [0,1,2,3,4,5,6,7,8,9,10,11,12,13,14,15,16,17,18,19,20,21,22,23,24,25,26,27,28,29,30,31,32,33,34,35,36,37,38,39,40,41,42,43,44,45,46,47,48,49,50,51,52,53,54,55,56,57] (by kernel_rfl) ?_
 (iterate 28 (refine cQ (v:=?_) ?_ hS ?_;rotate_left;(next=>(rintro X ⟨hX,hY,hA,hZ⟩;obtain ⟨s0,s1,s2,s3,s4,s5⟩:=aP hY;have a0:=hA 0 _ rfl;(try simp only [aH]);go_simp;rfl));simp only [aH,Act.put,aJ]))
 (refine cS (by kernel_rfl) (fun K1 hK1=>?_);simp only [aH,Act.put,aJ];rw [aY (by rfl)];go_simp)
 refine (HZ.out _).mono ?_
 rintro e' w1 ⟨rfl,hb⟩
 replace hS:=bI (cells_kept hS.1 hb) (bI (cells_kept hS.2.1 hb) (bI (cells_kept hS.2.2.1 hb) (hS.2.2.2.trans (hb.mono hS.2.2.2.size))))
 have HS2:=aF hS
 clear hb
 refine hK1.out _ _ (fun _=>hS) ?_
 clear hK1
 (iterate 8 (refine cQ (v:=?_) ?_ hS ?_;rotate_left;(next=>(rintro X ⟨hX,hY,hA,hZ⟩;obtain ⟨s0,s1,s2,s3,s4,s5⟩:=aP hY;have a0:=hA 0 _ rfl;(try simp only [aH]);go_simp;rfl));simp only [aH,Act.put,aJ]))
 (iterate 4 (refine dA (v:=undef) (by kernel_rfl) (fun _ _ _ h=>h) (Or.inr ⟨by rfl,rfl⟩) hS ?_;simp only [aH,Act.put,aJ]))
 (iterate 17 (refine cQ (v:=?_) ?_ hS ?_;rotate_left;(next=>(rintro X ⟨hX,hY,hA,hZ⟩;obtain ⟨s0,s1,s2,s3,s4,s5⟩:=aP hY;have a0:=hA 0 _ rfl;(try simp only [aH]);go_simp;rfl));simp only [aH,Act.put,aJ]))
 refine cV (by kernel_rfl) ?_
 clear hS
 go_wp2_with fail
 all_goals first
  | (exfalso;omega)
  | (go_ret;exact ⟨by rw [HF.out];rfl,HS2.out.2.2.2⟩)
theorem rR {b:Bdy} {bh:BH} {w:World} (H:Rk w b bh) (t:Trm) (A B C:Option Addr) (c d f:Nat) (ht:Slc 1 RInt w A c t.targets) (hl:Slc 4 ROp w B d t.args) (_hp:Slc 2 RPj w C f t.place.proj) (hk:t.kind=0) (hfd:fieldsT t=true):
 Calls Tryz.prog 63 #[.agg (bdC b bh).toArray,.agg (tmC t A c B d C f).toArray] w fun e' w'=>e' = .returned (.int .i64 (tmE b t))∧Below w.heap.size w w':=by
 have HZ:=aF (fun W=>dS t.place C f W)
 have HOP:=aF (fun W (hb:Below w.heap.size w W) (o:Opd) (A:Option Addr) (c:Nat) (hp:Slc 2 RPj w A c o.place.proj)=>dJ (H.keep hb) o A c (hp.keep RPj.keeps hb))
 have hfd2:=hfd
 unfold fieldsT at hfd2
 rw [hk] at hfd2
 simp only [reduceIte,Int.reduceEq,bP,decide_eq_true_eq] at hfd2
 obtain ⟨⟨⟨hn,hm⟩,hzz⟩,hnm0⟩:=hfd2
 obtain ⟨Q,hQ⟩:∃Q,(if opsE b t.args []≠0 then opsE b t.args [] else 0)=Q:=⟨_,rfl⟩
 have HQ:=aF hQ
 have HF:Hid (tmE b t=if (t.targets.drop 0).all (fun k=>decide (0≤k∧k<(b.blocks.length:Int)))=true then Q else 3):=aF (by
  rw [bW,tmE,aX (by omega),aX (by rw [hfd];simp),← hQ]
  cases t.targets.all (fun k=>decide (0≤k∧k<(b.blocks.length:Int)))
  ·simp
  ·rw [bU hm,dH]
   simp [hk])
 generalize tmE b t=R at HF ⊢
 have hblkl:=H.at_.blk.le
 have hblkb:=H.at_.blk.big
 have hle2:=ht.le
 have hbig2:=ht.big
 have hle:=hl.le
 have hbig:=hl.big
 have HTG:=aF ht
 have HL:=aF hl
 have hnm:t.name={ data:= #[] }:=by
  have h:=hnm0
  cases hh:t.name with
  | mk dd=>
    rw [hh] at h
    exact congrArg ByteArray.mk (Array.eq_empty_of_size_eq_zero (show dd.size=0 from h))
 rw [hzz] at HZ
 obtain ⟨m,hmm⟩:∃m,t.args.length=m:=⟨_,rfl⟩
 have HN:=aF hmm
 clear hQ H ht hl _hp hfd hnm0
 unfold bdC at *
 unfold tmC
 rw [hk,hn,hmm,hnm]
 rw [hmm] at hle
 obtain rfl:m=0:=by omega
 have HTN:=aF hn
 clear hn hk hmm hnm hm
 clear hzz
 go_enter Tryz.func63,Tryz.ntmps63
 go_wp2_with fail
 have hS:=gL w (bdC b bh) (tmL 0 1 A c B 0 d t C f { data:= #[] }) arT 28 57 172
 refine cP (S:=fun X=>aD w (bdC b bh) (tmL 0 1 A c B 0 d t C f { data:= #[] }) arT X) [0,1,2,3,4,5,6,7,8,9,10,11,12,13,14,15,16,17,18,19,20,21,22,23,24,25,26,27,28,29,30,31,32,33,34,35,36,37,38,39,40,41,42,43,44,45,46,47,48,49,50,51,52,53,54,55,56,57] (by kernel_rfl) ?_
 (iterate 28 (refine cQ (v:=?_) ?_ hS ?_;rotate_left;(next=>(rintro X ⟨hX,hY,hA,hZ⟩;obtain ⟨s0,s1,s2,s3,s4,s5⟩:=aP hY;have a0:=hA 0 _ rfl;(try simp only [aH]);go_simp;rfl));simp only [aH,Act.put,aJ]))
 (refine cS (by kernel_rfl) (fun K1 hK1=>?_);simp only [aH,Act.put,aJ];rw [aY (by rfl)];go_simp)
 refine (HZ.out _).mono ?_
 rintro e' w1 ⟨rfl,hb⟩
 replace hS:=bI (cells_kept hS.1 hb) (bI (cells_kept hS.2.1 hb) (bI (cells_kept hS.2.2.1 hb) (hS.2.2.2.trans (hb.mono hS.2.2.2.size))))
 have HS2:=aF hS
 clear hb
 refine hK1.out _ _ (fun _=>hS) ?_
 clear hK1
 (iterate 8 (refine cQ (v:=?_) ?_ hS ?_;rotate_left;(next=>(rintro X ⟨hX,hY,hA,hZ⟩;obtain ⟨s0,s1,s2,s3,s4,s5⟩:=aP hY;have a0:=hA 0 _ rfl;(try simp only [aH]);go_simp;rfl));simp only [aH,Act.put,aJ]))
 (iterate 4 (refine dA (v:=undef) (by kernel_rfl) (fun _ _ _ h=>h) (Or.inr ⟨by rfl,rfl⟩) hS ?_;simp only [aH,Act.put,aJ]))
 (iterate 17 (refine cQ (v:=?_) ?_ hS ?_;rotate_left;(next=>(rintro X ⟨hX,hY,hA,hZ⟩;obtain ⟨s0,s1,s2,s3,s4,s5⟩:=aP hY;have a0:=hA 0 _ rfl;(try simp only [aH]);go_simp;rfl));simp only [aH,Act.put,aJ]))
 refine cV (by kernel_rfl) ?_
 clear hS
 go_wp2_with fail
 have HY:=aF HS2.out.1
 have HZZ:=aF HS2.out.2.1
 have HB:=aF HS2.out.2.2.2
 clear HS2
 go_loopw [7] (fun v wr=>∃k:Nat,k≤1∧v = .int .i64 k∧Hid (aA (bdC b bh) wr w.heap.size)∧Hid (aA (tmL 0 1 A c B 0 d t C f { data:= #[] }) wr (w.heap.size+1))∧Hid (Below w.heap.size w wr)∧Hid (R=if (t.targets.drop k).all (fun k=>decide (0≤k∧k<(b.blocks.length:Int)))=true then Q else 3)) (fun v _=>1 - (intOf v).toNat)
 case atStart=>exact ⟨0,by omega,rfl,HY,HZZ,HB,HF⟩
 case round=>
  clear HY HZZ HB HF
  obtain ⟨k,hk2,rfl,HY,HZ,HB,hr⟩:=hrel
  obtain ⟨y0,y1,y2,y3,y4,y5,y6⟩:=aQ HY.out
  obtain ⟨z0,z1,z2,z3,z4,z5⟩:=aP HZ.out
  by_cases hlt:k<1
  next=>
   have hlt2:k<t.targets.length:=by rw [HTN.out];exact hlt
   have hd:=cU hlt2
   obtain ⟨b5,o5,rfl,hb5,hx⟩:=HTG.out.sl.at_ hlt2
   obtain ⟨x,hxx⟩:∃x,t.targets[k]=x:=⟨_,rfl⟩
   rw [hxx] at hd hx
   have x0:wr.cell? ⟨b5,o5+k,none⟩=some (.int .i64 x):=cell_keep HB.out (by simpa [RInt] using hx)
   by_cases hin:0≤x∧x<(b.blocks.length:Int)
   ·have HF2:Hid (R=if (t.targets.drop (k+1)).all (fun k=>decide (0≤k∧k<(b.blocks.length:Int)))=true then Q else 3):=aF (by rw [hr.out,hd,cB];simp [hin])
    have e1:decide (x<0)=false:=by simp;omega
    have e2:decide ((b.blocks.length:Int)≤x)=false:=by simp;omega
    clear hd hx hxx hr hin
    go_wp2_with fail
    go_quiet (fail)
    all_goals go_wp2_with fail
    go_roundw
    case rel=>exact ⟨k+1,by omega,by go_num,aF HY.out,aF HZ.out,aF (bA HB.out _),HF2⟩
    case measure=>simp [intOf];omega
   ·have HF2:Hid (R=3):=aF (by rw [hr.out,hd,cB];simp;intro h1 h2;exact absurd ⟨h1,h2⟩ hin)
    clear hd hx hxx hr
    by_cases hx0:x<0
    ·have e1:decide (x<0)=true:=by simp;omega
     clear hin hx0
     go_wp2_with fail
     go_quiet (fail)
     all_goals go_wp2_with fail
     go_ret
     exact ⟨by rw [HF2.out];rfl,bA HB.out _⟩
    ·have e1:decide (x<0)=false:=by simp;omega
     have e2:decide ((b.blocks.length:Int)≤x)=true:=by simp;omega
     clear hin hx0
     go_wp2_with fail
     go_quiet (fail)
     all_goals go_wp2_with fail
     go_ret
     exact ⟨by rw [HF2.out];rfl,bA HB.out _⟩
  next=>
   have HR:Hid (R=Q):=aF (by rw [hr.out,bD (by rw [HTN.out];omega)];rfl)
   clear hr
   have HOPS:Hid (R=if opsE b t.args []≠0 then opsE b t.args [] else 0):=aF (by rw [HR.out,← HQ.out])
   clear HR HQ
   go_wp2_with fail
   clear hlt hk2
   go_loopw [8] (fun v wr=>∃j:Nat,j≤0∧v = .int .i64 j∧Hid (aA (bdC b bh) wr w.heap.size)∧Hid (aA (tmL 0 1 A c B 0 d t C f { data:= #[] }) wr (w.heap.size+1))∧Hid (Below w.heap.size w wr)∧Hid (opsE b t.args []=opsE b (t.args.drop j) [])) (fun v _=>0 - (intOf v).toNat)
   case atStart=>exact ⟨0,by omega,rfl,aF HY.out,aF HZ.out,HB,aF rfl⟩
   case round=>
    clear HY HZ HB y0 y1 y2 y3 y4 y5 y6 z0 z1 z2 z3 z4 z5
    obtain ⟨j,hj,rfl,HY,HZ,HB,hr⟩:=hrel
    obtain ⟨y0,y1,y2,y3,y4,y5,y6⟩:=aQ HY.out
    obtain ⟨z0,z1,z2,z3,z4,z5⟩:=aP HZ.out
    by_cases hlt:j<0
    next=>exact absurd hlt (by omega)
    next=>
     have hz0:opsE b t.args []=0:=by rw [hr.out,bD (by rw [HN.out];omega),dH]
     have HQ2:Hid (R=0):=aF (by rw [HOPS.out,aX (by simp [hz0])])
     clear hr hz0
     go_wp2_with fail
     go_quiet (fail)
     all_goals go_wp2_with fail
     go_ret
     exact ⟨by rw [HQ2.out];rfl,bA HB.out _⟩
theorem vF {b:Bdy} {bh:BH} {w:World} (_H:Rk w b bh) (t:Trm) (A B C:Option Addr) (c d f:Nat) (ht:Slc 1 RInt w A c t.targets) (hl:Slc 4 ROp w B d t.args) (_hp:Slc 2 RPj w C f t.place.proj) (hk:t.kind=1) (hfd:fieldsT t=false):
 Calls Tryz.prog 63 #[.agg (bdC b bh).toArray,.agg (tmC t A c B d C f).toArray] w fun e' w'=>e' = .returned (.int .i64 (tmE b t))∧Below w.heap.size w w':=by
 have HZ:=aF (fun W=>dS t.place C f W)
 have HF:Hid (tmE b t=2):=aF (by rw [tmE,aX (by omega),aY hfd])
 generalize tmE b t=R at HF ⊢
 have hfd2:=hfd
 unfold fieldsT at hfd2
 rw [hk] at hfd2
 simp only [reduceIte,Int.reduceEq] at hfd2
 obtain ⟨n,hn⟩:∃n,t.targets.length=n:=⟨_,rfl⟩
 obtain ⟨m,hm⟩:∃m,t.args.length=m:=⟨_,rfl⟩
 obtain ⟨z,hzz⟩:∃z,zeroP t.place=z:=⟨_,rfl⟩
 have hmb:m≤9223372036854775807:=by have h1:=hl.le;have h2:=hl.big;omega
 have hnb:n≤9223372036854775807:=by have h1:=ht.le;have h2:=ht.big;omega
 obtain ⟨u,hu⟩:∃u,decide (t.name.size=0)=u:=⟨_,rfl⟩
 have hne:=eN t.name
 rw [hu] at hne
 try rw [hu] at hfd2
 rw [hn] at hfd2
 try rw [hm] at hfd2
 try rw [hzz] at hfd2
 rw [hzz] at HZ
 clear _H ht hl _hp hfd hzz
 unfold bdC tmC
 rw [hk,hn,hm]
 clear hk hn hm
 by_cases hn:n=2
 case neg=>
  have e1:((n:Int) != 2)=true:=by simp;omega
  clear hfd2 hne HZ hu
  go_enter Tryz.func63,Tryz.ntmps63
  go_wp2_with fail
  go_quiet (fail)
  all_goals go_wp2_with fail
  all_goals first
   | (exfalso;omega)
   | (go_ret;exact ⟨by rw [HF.out];rfl,by first | exact bA aG _ | exact aG⟩)
 subst hn
 cases u
 case false=>
  clear hfd2 HZ hu
  go_enter Tryz.func63,Tryz.ntmps63
  go_wp2_with fail
  go_quiet (fail)
  all_goals go_wp2_with fail
  all_goals first
   | (exfalso;omega)
   | (go_ret;exact ⟨by rw [HF.out];rfl,by first | exact bA aG _ | exact aG⟩)
 have hnm:t.name={ data:= #[] }:=by
  have h:=of_decide_eq_true hu
  cases hh:t.name with
  | mk dd=>
    rw [hh] at h
    exact congrArg ByteArray.mk (Array.eq_empty_of_size_eq_zero (show dd.size=0 from h))
 rw [hnm]
 clear hu hne hnm
 cases z
 case false=>
  clear hfd2
  go_enter Tryz.func63,Tryz.ntmps63
  go_wp2_with fail
  have hS:=gL w (bdC b bh) (tmL 1 2 A c B m d t C f { data:= #[] }) arT 28 57 172
  refine cP (S:=fun X=>aD w (bdC b bh) (tmL 1 2 A c B m d t C f { data:= #[] }) arT X) [0,1,2,3,4,5,6,7,8,9,10,11,12,13,14,15,16,17,18,19,20,21,22,23,24,25,26,27,28,29,30,31,32,33,34,35,36,37,38,39,40,41,42,43,44,45,46,47,48,49,50,51,52,53,54,55,56,57] (by kernel_rfl) ?_
  (iterate 28 (refine cQ (v:=?_) ?_ hS ?_;rotate_left;(next=>(rintro X ⟨hX,hY,hA,hZ⟩;obtain ⟨s0,s1,s2,s3,s4,s5⟩:=aP hY;have a0:=hA 1 _ rfl;(try simp only [aH]);go_simp;rfl));simp only [aH,Act.put,aJ]))
  (refine cS (by kernel_rfl) (fun K1 hK1=>?_);simp only [aH,Act.put,aJ];rw [aY (by rfl)];go_simp)
  refine (HZ.out _).mono ?_
  rintro e' w1 ⟨rfl,hb⟩
  replace hS:=bI (cells_kept hS.1 hb) (bI (cells_kept hS.2.1 hb) (bI (cells_kept hS.2.2.1 hb) (hS.2.2.2.trans (hb.mono hS.2.2.2.size))))
  have HS2:=aF hS
  clear hb
  refine hK1.out _ _ (fun _=>hS) ?_
  clear hK1
  (iterate 4 (refine cQ (v:=?_) ?_ hS ?_;rotate_left;(next=>(rintro X ⟨hX,hY,hA,hZ⟩;obtain ⟨s0,s1,s2,s3,s4,s5⟩:=aP hY;have a0:=hA 1 _ rfl;(try simp only [aH]);go_simp;rfl));simp only [aH,Act.put,aJ]))
  (iterate 9 (refine dA (v:=undef) (by kernel_rfl) (fun _ _ _ h=>h) (Or.inr ⟨by rfl,rfl⟩) hS ?_;simp only [aH,Act.put,aJ]))
  (iterate 2 (refine cQ (v:=?_) ?_ hS ?_;rotate_left;(next=>(rintro X ⟨hX,hY,hA,hZ⟩;obtain ⟨s0,s1,s2,s3,s4,s5⟩:=aP hY;have a0:=hA 1 _ rfl;(try simp only [aH]);go_simp;rfl));simp only [aH,Act.put,aJ]))
  (iterate 13 (refine dA (v:=undef) (by kernel_rfl) (fun _ _ _ h=>h) (Or.inr ⟨by rfl,rfl⟩) hS ?_;simp only [aH,Act.put,aJ]))
  (iterate 1 (refine cQ (v:=?_) ?_ hS ?_;rotate_left;(next=>(rintro X ⟨hX,hY,hA,hZ⟩;obtain ⟨s0,s1,s2,s3,s4,s5⟩:=aP hY;have a0:=hA 1 _ rfl;(try simp only [aH]);go_simp;rfl));simp only [aH,Act.put,aJ]))
  refine cV (by kernel_rfl) ?_
  clear hS
  go_wp2_with fail
  all_goals first
   | (exfalso;omega)
   | (go_ret;exact ⟨by rw [HF.out];rfl,HS2.out.2.2.2⟩)
 have hm0:m≠1:=by simp at hfd2;omega
 have e3:((m:Int) != 1)=true:=by simp;omega
 clear hfd2
 go_enter Tryz.func63,Tryz.ntmps63
 go_wp2_with fail
 have hS:=gL w (bdC b bh) (tmL 1 2 A c B m d t C f { data:= #[] }) arT 28 57 172
 refine cP (S:=fun X=>aD w (bdC b bh) (tmL 1 2 A c B m d t C f { data:= #[] }) arT X) [0,1,2,3,4,5,6,7,8,9,10,11,12,13,14,15,16,17,18,19,20,21,22,23,24,25,26,27,28,29,30,31,32,33,34,35,36,37,38,39,40,41,42,43,44,45,46,47,48,49,50,51,52,53,54,55,56,57] (by kernel_rfl) ?_
 (iterate 28 (refine cQ (v:=?_) ?_ hS ?_;rotate_left;(next=>(rintro X ⟨hX,hY,hA,hZ⟩;obtain ⟨s0,s1,s2,s3,s4,s5⟩:=aP hY;have a0:=hA 1 _ rfl;(try simp only [aH]);go_simp;rfl));simp only [aH,Act.put,aJ]))
 (refine cS (by kernel_rfl) (fun K1 hK1=>?_);simp only [aH,Act.put,aJ];rw [aY (by rfl)];go_simp)
 refine (HZ.out _).mono ?_
 rintro e' w1 ⟨rfl,hb⟩
 replace hS:=bI (cells_kept hS.1 hb) (bI (cells_kept hS.2.1 hb) (bI (cells_kept hS.2.2.1 hb) (hS.2.2.2.trans (hb.mono hS.2.2.2.size))))
 have HS2:=aF hS
 clear hb
 refine hK1.out _ _ (fun _=>hS) ?_
 clear hK1
 (iterate 8 (refine cQ (v:=?_) ?_ hS ?_;rotate_left;(next=>(rintro X ⟨hX,hY,hA,hZ⟩;obtain ⟨s0,s1,s2,s3,s4,s5⟩:=aP hY;have a0:=hA 1 _ rfl;(try simp only [aH]);go_simp;rfl));simp only [aH,Act.put,aJ]))
 (iterate 4 (refine cQ (v:=?_) ?_ hS ?_;rotate_left;(next=>(rintro X ⟨hX,hY,hA,hZ⟩;obtain ⟨s0,s1,s2,s3,s4,s5⟩:=aP hY;have a0:=hA 1 _ rfl;(try simp only [aH]);go_simp;rfl));simp only [aH,Act.put,aJ]))
 (iterate 3 (refine cQ (v:=?_) ?_ hS ?_;rotate_left;(next=>(rintro X ⟨hX,hY,hA,hZ⟩;obtain ⟨s0,s1,s2,s3,s4,s5⟩:=aP hY;have a0:=hA 1 _ rfl;(try simp only [aH]);go_simp;rfl));simp only [aH,Act.put,aJ]))
 (iterate 13 (refine dA (v:=undef) (by kernel_rfl) (fun _ _ _ h=>h) (Or.inr ⟨by rfl,rfl⟩) hS ?_;simp only [aH,Act.put,aJ]))
 (iterate 1 (refine cQ (v:=?_) ?_ hS ?_;rotate_left;(next=>(rintro X ⟨hX,hY,hA,hZ⟩;obtain ⟨s0,s1,s2,s3,s4,s5⟩:=aP hY;have a0:=hA 1 _ rfl;(try simp only [aH]);go_simp;rfl));simp only [aH,Act.put,aJ]))
 refine cV (by kernel_rfl) ?_
 clear hS
 go_wp2_with fail
 all_goals first
  | (exfalso;omega)
  | (go_ret;exact ⟨by rw [HF.out];rfl,HS2.out.2.2.2⟩)
end
end Go.Proofs.YtbnljlpefpllcaaGreatDoor
