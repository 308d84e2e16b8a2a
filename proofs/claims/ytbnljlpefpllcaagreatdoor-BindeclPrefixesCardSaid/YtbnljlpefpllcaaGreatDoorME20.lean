/-
  Parts of the proof: V41 V68 V69 EN K1 Z0 Z1.
-/
import Derived.Test.YtbnljlpefpllcaaGreatDoorME0
import Derived.Test.YtbnljlpefpllcaaGreatDoorME18
import Derived.Test.YtbnljlpefpllcaaGreatDoorME6
import Derived.Test.YtbnljlpefpllcaaGreatDoorME17
import Derived.Test.YtbnljlpefpllcaaGreatDoorME16
import Derived.Test.YtbnljlpefpllcaaGreatDoorME4
import Derived.Test.YtbnljlpefpllcaaGreatDoorME19
import Derived.Test.YtbnljlpefpllcaaGreatDoorME11
import Derived.Test.YtbnljlpefpllcaaGreatDoorME15
import Derived.Test.YtbnljlpefpllcaaGreatDoorME7
import Derived.Deep.LoopGhost
namespace Go.Proofs.YtbnljlpefpllcaaGreatDoor
set_option maxRecDepth 100000
set_option maxHeartbeats 16000000
section
open Go Go.RowKit Go.Maps
theorem sX {w:World} {b o:Nat} {x:Blk} (h:RBk w w.heap.size b o x):∃A1 c1 A2 c2 A3 c3 A4 c4,w.cell? ⟨b,o,none⟩=some (.slice A1 x.stmts.length c1)∧w.cell? ⟨b,o+1,none⟩=some (.int .i64 x.term.kind)∧w.cell? ⟨b,o+2,none⟩=some (.slice A2 x.term.targets.length c2)∧w.cell? ⟨b,o+3,none⟩=some (.slice A3 x.term.args.length c3)∧w.cell? ⟨b,o+4,none⟩=some (.int .i64 x.term.place.loc)∧w.cell? ⟨b,o+5,none⟩=some (.slice A4 x.term.place.proj.length c4)∧w.cell? ⟨b,o+6,none⟩=some (.string x.term.name)∧
 Slc 11 RSt w A1 c1 x.stmts∧Slc 1 RInt w A2 c2 x.term.targets∧Slc 4 ROp w A3 c3 x.term.args∧Slc 2 RPj w A4 c4 x.term.place.proj:=by
 obtain ⟨⟨A1,c1,h1,h2,h3,h4⟩,t0,⟨A2,c2,t1,t2,t3,t4⟩,⟨A3,c3,s1,s2,s3,s4⟩,⟨p0,A4,c4,p1,p2,p3,p4⟩,t5⟩:=h
 exact ⟨A1,c1,A2,c2,A3,c3,A4,c4,h1,t0,t1,s1,p0,p1,t5,⟨h4,h2,h3⟩,⟨t4,t2,t3⟩,⟨s4,s2,s3⟩,⟨p4,p2,p3⟩⟩
theorem rJ {w:World} {b o:Nat} {s:Stm} (h:RSt w w.heap.size b o s):∃A0 c0 A c B d,w.cell? ⟨b,o,none⟩=some (.int .i64 s.kind)∧w.cell? ⟨b,o+1,none⟩=some (.int .i64 s.place.loc)∧w.cell? ⟨b,o+2,none⟩=some (.slice A0 s.place.proj.length c0)∧w.cell? ⟨b,o+3,none⟩=some (.int .i64 s.rv.kind)∧w.cell? ⟨b,o+4,none⟩=some (.int .i64 s.rv.op)∧w.cell? ⟨b,o+5,none⟩=some (.int .i64 s.rv.reg)∧w.cell? ⟨b,o+6,none⟩=some (.bool s.rv.mu)∧w.cell? ⟨b,o+7,none⟩=some (.int .i64 s.rv.place.loc)∧w.cell? ⟨b,o+8,none⟩=some (.slice A s.rv.place.proj.length c)∧w.cell? ⟨b,o+9,none⟩=some (.slice B s.rv.args.length d)∧w.cell? ⟨b,o+10,none⟩=some (.int .i64 s.loc)∧
 Slc 2 RPj w A0 c0 s.place.proj∧Slc 2 RPj w A c s.rv.place.proj∧Slc 4 ROp w B d s.rv.args:=by
 obtain ⟨k0,⟨p0,A0,c0,p1,p2,p3,p4⟩,⟨v0,v1,v2,v3,⟨q0,A,c,q1,q2,q3,q4⟩,⟨B,d,a1,a2,a3,a4⟩⟩,l0⟩:=h
 exact ⟨A0,c0,A,c,B,d,k0,p0,p1,v0,v1,v2,v3,q0,q1,a1,l0,⟨p4,p2,p3⟩,⟨q4,q2,q3⟩,⟨a4,a2,a3⟩⟩
def bkL (x:Blk) (A1:Option Addr) (c1:Nat) (A2:Option Addr) (c2:Nat) (A3:Option Addr) (c3:Nat) (A4:Option Addr) (c4:Nat):List Value:=[.slice A1 x.stmts.length c1,.int .i64 x.term.kind,.slice A2 x.term.targets.length c2,.slice A3 x.term.args.length c3,.int .i64 x.term.place.loc,.slice A4 x.term.place.proj.length c4,.string x.term.name]
theorem uS (b:Bdy) (bh:BH) (w:World) (H:BdAt w b bh) (hT:TabsOk w):
 Calls Tryz.prog 28 #[.agg (bdC b bh).toArray] w fun e' w'=>e' = .returned (.int .i64 (chkB b))∧Below w.heap.size w w':=by
 have HD:=aF (fun (W:World) (hb:Below w.heap.size w W)=>xDM b bh W (H.keep hb))
 have HN:=aF (fun (W:World) (hb:Below w.heap.size w W) (h:declC b=0)=>xCY b bh W (H.keep hb) (dY h))
 have HH:=aF H
 have HT:=aF hT
 have hbl:=H.blk.le
 have hbg:=H.blk.big
 obtain ⟨R,hR⟩:∃R,chkB b=R:=⟨_,rfl⟩
 rw [hR]
 have HR:Hid (R=if declC b=0 then bksE b b.blocks else declC b):=aF hR.symm
 have HOK:=aF (fun h=>dY (b:=b) h)
 clear hR H hT
 unfold bdC at *
 by_cases hd:declC b=0
 case neg=>
  have HF:Hid (R=declC b):=aF (by rw [HR.out,aX hd])
  generalize declC b=de at HD HF hd
  have e1:(de != 0)=true:=by simp [hd]
  clear HR HN HOK hd
  go_enter Tryz.func28,Tryz.ntmps28
  go_wp2_with fail
  go_step3
  go_wp2_with (go_at_call 77;refine (HD.out _ ((aV _ _).alloc (aW _) _)).mono ?_;rintro e' w1 ⟨rfl,hb1⟩;have HB:=aF (((aV _ _).alloc (aW _) _).trans (hb1.mono ((aV _ _).alloc (aW _) _).size));have HY1:=aF (cells_kept (cW w [Value.string b.name,.slice bh.A1 b.regions.length bh.c1,.slice bh.A2 b.outl.length bh.c2,.slice bh.A3 b.types.length bh.c3,.slice bh.A4 b.locals.length bh.c4,.int .i64 b.args,.slice bh.A5 b.blocks.length bh.c5] 28) hb1);obtain ⟨y0,y1,y2,y3,y4,y5,y6⟩:=aQ HY1.out;clear hb1)
  rw [Exit.noGoto_ret]
  go_ret
  exact ⟨by rw [HF.out];rfl,HB.out⟩
 case pos=>
 have HF:Hid (R=bksE b b.blocks):=aF (by rw [HR.out,aY hd])
 rw [hd] at HD
 have HDOK:=aF (HOK.out hd)
 clear HR HOK
 unfold ckC at HN
 go_enter Tryz.func28,Tryz.ntmps28
 go_wp2_with fail
 go_step3
 go_wp2_with (first | (go_at_call 77;refine (HD.out _ ((aV _ _).alloc (aW _) _)).mono ?_;rintro e' w1 ⟨rfl,hb1⟩;have HB:=aF (((aV _ _).alloc (aW _) _).trans (hb1.mono ((aV _ _).alloc (aW _) _).size));have HY1:=aF (cells_kept (cW w [Value.string b.name,.slice bh.A1 b.regions.length bh.c1,.slice bh.A2 b.outl.length bh.c2,.slice bh.A3 b.types.length bh.c3,.slice bh.A4 b.locals.length bh.c4,.int .i64 b.args,.slice bh.A5 b.blocks.length bh.c5] 28) hb1);obtain ⟨y0,y1,y2,y3,y4,y5,y6⟩:=aQ HY1.out;clear hb1) | (go_at_call 78;refine (HN.out _ HB.out hd).mono ?_;rintro e' w2 ⟨r,rfl,hck,hb2⟩;have HCK2:=aF hck;have HB2:=aF (HB.out.trans (hb2.mono HB.out.size));have HY2:=aF (cells_kept HY1.out hb2);clear y0 y1 y2 y3 y4 y5 y6;obtain ⟨y0,y1,y2,y3,y4,y5,y6⟩:=aQ HY2.out;have hsz2:w.heap.size<w2.heap.size:=bN (by have:=HB.out.size;have h9:=cD _ _ (HY1.out 0 _ rfl);exact h9) hb2.size;clear hck hb2))
 go_step3
 go_wp2_with fail
 have HSM:=aF (fun (W:World) (hb:Below w2.heap.size w2 W) (s:Stm) (A0 A B:Option Addr) (c0 c d:Nat) (hp0:Slc 2 RPj w2 A0 c0 s.place.proj) (hp:Slc 2 RPj w2 A c s.rv.place.proj) (hl:Slc 4 ROp w2 B d s.rv.args)=>xBT (HCK2.out.keep hb) ((HT.out.keep HB2.out).keep hb) s A0 A B c0 c d (hp0.keep RPj.keeps hb) (hp.keep RPj.keeps hb) (hl.keep ROp.keeps hb))
 have HTM:=aF (fun (W:World) (hb:Below w2.heap.size w2 W) (t:Trm) (A B C:Option Addr) (c d f:Nat) (ht:Slc 1 RInt w2 A c t.targets) (hl:Slc 4 ROp w2 B d t.args) (hp:Slc 2 RPj w2 C f t.place.proj)=>xBJ (HCK2.out.keep hb) t A B C c d f (ht.keep RInt.keeps hb) (hl.keep ROp.keeps hb) (hp.keep RPj.keeps hb))
 have HBLK:=aF HCK2.out.at_.blk
 have HCC:=aF (cW w2 (ckC b bh r) 137)
 unfold ckC at HSM HTM HCC
 obtain ⟨bb,oo,hA5,hbb,hel⟩:=HBLK.out.sl HDOK.out.nblk.1
 have HEL:=aF hel
 clear hel
 rw [hA5] at HSM HTM HCC ⊢
 rw [hA5] at y6
 clear y0 y1 y2 y3 y4 y5 y6 HD HN hd
 go_loopg [3,19] b.blocks.length (fun gk e i wr=>∃k:Nat,gk=b.blocks.length - k∧k≤b.blocks.length∧e = .int .i64 0∧i = .int .i64 k∧Hid (aA (bdM b bh.A1 bh.c1 bh.A2 bh.c2 bh.A3 bh.c3 bh.A4 bh.c4 (some ⟨bb,oo,none⟩) bh.c5 [.pointer (some ⟨r,0,none⟩)]) wr w2.heap.size)∧Hid (Below w2.heap.size w2 wr)∧w2.heap.size+1≤wr.heap.size∧Hid (R=bksE b (b.blocks.drop k)))
 case atStart=>exact ⟨0,by omega,by omega,rfl,rfl,HCC,aF ((aV _ _).alloc (aW _) _),by simp,HF⟩
 case round=>
  clear HCC HF
  obtain ⟨k,hgk,hk,rfl,rfl,HCC,HB3,hsz3,hr⟩:=hrel
  have hlw3:w2.heap.size<wr.heap.size:=hsz3
  by_cases hlt:k<b.blocks.length
  ·have hd:=cU hlt
   have hx:=HEL.out k _ (bB hlt)
   obtain ⟨x,hxx⟩:∃x,b.blocks[k]=x:=⟨_,rfl⟩
   rw [hxx] at hd hx
   obtain ⟨A1,c1,A2,c2,A3,c3,A4,c4,p0,p1,p2,p3,p4,p5,p6,hs1,hs2,hs3,hs4⟩:=sX hx
   have HQ:Hid (R=if bkE b x=0 then bksE b (b.blocks.drop (k+1)) else bkE b x):=aF (by rw [hr.out,hd,bksE])
   have HS1:=aF hs1
   have hl1:=hs1.le
   have hg1:=hs1.big
   have HTT:=aF (fun W hb=>HTM.out W hb x.term A2 A3 A4 c2 c3 c4 hs2 hs3 hs4)
   unfold tmC at HTT
   replace p0:=cell_keep HB3.out p0
   replace p1:=cell_keep HB3.out p1
   replace p2:=cell_keep HB3.out p2
   replace p3:=cell_keep HB3.out p3
   replace p4:=cell_keep HB3.out p4
   replace p5:=cell_keep HB3.out p5
   replace p6:=cell_keep HB3.out p6
   clear hd hx hxx hr hs1 hs2 hs3 hs4
   by_cases hln:65535<x.stmts.length
   ·have HF:Hid (R=15):=aF (by rw [HQ.out];unfold bkE;rw [aY hln];rfl)
    clear HQ
    go_wp2_with fail
    rw [Exit.noGoto_ret]
    go_ret
    exact ⟨by rw [HF.out];rfl,(HB2.out.trans (HB3.out.mono HB2.out.size)).alloc (bX HB2.out.size HB3.out.size) _⟩
   have HQ2:Hid (R=if stsE b (x.stmts.drop 0)=0 then (if tmE b x.term=0 then bksE b (b.blocks.drop (k+1)) else tmE b x.term) else stsE b (x.stmts.drop 0)):=aF (by
    rw [HQ.out,bW]
    unfold bkE
    rw [aX hln]
    by_cases h:stsE b x.stmts=0 <;> simp [h])
   have HBK:=aF (cW wr (bkL x A1 c1 A2 c2 A3 c3 A4 c4) 60)
   have HCC2:Hid (∀i v,[Value.string b.name,.slice bh.A1 b.regions.length bh.c1,.slice bh.A2 b.outl.length bh.c2,.slice bh.A3 b.types.length bh.c3,.slice bh.A4 b.locals.length bh.c4,.int .i64 b.args,.slice (some ⟨bb,oo,none⟩) b.blocks.length bh.c5,.pointer (some ⟨r,0,none⟩)][i]?=some v→(wr.alloc (.cells (bkL x A1 c1 A2 c2 A3 c3 A4 c4).toArray 60)).cell? ⟨w2.heap.size,i,none⟩=some v):=aF (fun i v hi=>cell_keep ((aV _ _).alloc (aW _) _) (HCC.out i v hi))
   have HB4:=aF (HB3.out.alloc (Nat.le_of_lt hlw3) (.cells (bkL x A1 c1 A2 c2 A3 c3 A4 c4).toArray 60))
   clear HQ
   go_wp2_with fail
   go_loopg [3,30] x.stmts.length (fun gj e i wr2=>∃j:Nat,gj=x.stmts.length - j∧j≤x.stmts.length∧e = .int .i64 0∧i = .int .i64 j∧Hid (aA (bdM b bh.A1 bh.c1 bh.A2 bh.c2 bh.A3 bh.c3 bh.A4 bh.c4 (some ⟨bb,oo,none⟩) bh.c5 [.pointer (some ⟨r,0,none⟩)]) wr2 w2.heap.size)∧Hid (aA (bkL x A1 c1 A2 c2 A3 c3 A4 c4) wr2 wr.heap.size)∧Hid (Below w2.heap.size w2 wr2)∧wr.heap.size+1≤wr2.heap.size∧Hid (R=if stsE b (x.stmts.drop j)=0 then (if tmE b x.term=0 then bksE b (b.blocks.drop (k+1)) else tmE b x.term) else stsE b (x.stmts.drop j)))
   case atStart=>exact ⟨0,by omega,by omega,rfl,rfl,HCC2,HBK,HB4,by simp,HQ2⟩
   case round=>
    clear HCC2 HBK HB4 HQ2 p0 p1 p2 p3 p4 p5 p6 HCC HB3
    obtain ⟨j,hgj,hj,rfl,rfl,HCC,HBK,HB5,hsz5,hr⟩:=hrel
    have hlw5:=Nat.lt_of_succ_le hsz5
    have hlw6:=Nat.lt_trans hlw3 hlw5
    obtain ⟨v0,v1,v2,v3,v4,v5,v6,v7⟩:=aR HCC.out
    by_cases hjl:j<x.stmts.length
    ·have hd:=cU hjl
     obtain ⟨b3,o3,rfl,hb3,hy⟩:=HS1.out.sl.at_ hjl
     obtain ⟨s,hss⟩:∃s,x.stmts[j]=s:=⟨_,rfl⟩
     rw [hss] at hd hy
     obtain ⟨B0,d0,B1,d1,B2,d2,m0,m1,m2,m3,m4,m5,m6,m7,m8,m9,m10,hp0,hp,hl⟩:=rJ hy
     have HSS:=aF (fun W hb=>HSM.out W hb s B0 B1 B2 d0 d1 d2 hp0 hp hl)
     unfold stC at HSS
     replace m0:=cell_keep HB5.out m0
     replace m1:=cell_keep HB5.out m1
     replace m2:=cell_keep HB5.out m2
     replace m3:=cell_keep HB5.out m3
     replace m4:=cell_keep HB5.out m4
     replace m5:=cell_keep HB5.out m5
     replace m6:=cell_keep HB5.out m6
     replace m7:=cell_keep HB5.out m7
     replace m8:=cell_keep HB5.out m8
     replace m9:=cell_keep HB5.out m9
     replace m10:=cell_keep HB5.out m10
     have HQ3:Hid ((stE b s=0→R=if stsE b (x.stmts.drop (j+1))=0 then (if tmE b x.term=0 then bksE b (b.blocks.drop (k+1)) else tmE b x.term) else stsE b (x.stmts.drop (j+1)))∧(stE b s≠0→R=stE b s)):=aF (by
      rw [hr.out,hd]
      constructor
      ·intro h;rw [show stsE b (s :: x.stmts.drop (j+1))=stsE b (x.stmts.drop (j+1)) from by rw [stsE,aY h]]
      ·intro h;rw [show stsE b (s :: x.stmts.drop (j+1))=stE b s from by rw [stsE,aX h],aX h])
     have HB6:=aF (HB5.out.alloc (Nat.le_of_lt hlw6) (.cells (stC s B0 d0 B1 d1 B2 d2).toArray 122))
     generalize stE b s=es at HSS HQ3
     clear hd hy hss hp0 hp hl hr
     by_cases he:es=0
     ·subst he
      have HF:=aF (HQ3.out.1 rfl)
      clear HQ3
      go_wp2_with (go_at_call 79;refine (HSS.out _ HB6.out).mono ?_;rintro e' w5 ⟨rfl,hb5⟩;have HB7:=aF (HB6.out.trans (hb5.mono HB6.out.size));have HC7:=aF (dM HCC.out hb5);have HK7:=aF (dM HBK.out hb5);have hsz7:=hb5.size;simp only [bH] at hsz7;clear hb5)
      go_roundg (x.stmts.length - (j+1))
      case measure=>omega
      case rel=>exact ⟨j+1,rfl,by omega,rfl,by go_num,HC7,HK7,HB7,by omega,HF⟩
     ·have HF:=aF (HQ3.out.2 he)
      have e1:(es != 0)=true:=by simp [he]
      clear HQ3 he
      go_wp2_with (go_at_call 79;refine (HSS.out _ HB6.out).mono ?_;rintro e' w5 ⟨rfl,hb5⟩;have HB7:=aF (HB6.out.trans (hb5.mono HB6.out.size));clear hb5)
      rw [Exit.noGoto_ret]
      go_ret
      exact ⟨by rw [HF.out];rfl,HB2.out.trans (HB7.out.mono HB2.out.size)⟩
    ·have HQ3:Hid (R=if tmE b x.term=0 then bksE b (b.blocks.drop (k+1)) else tmE b x.term):=aF (by rw [hr.out,bD (by omega:x.stmts.length≤j)];rfl)
     obtain ⟨k0,k1,k2,k3,k4,k5,k6⟩:=aQ HBK.out
     generalize tmE b x.term=et at HTT HQ3
     clear hr
     by_cases he:et=0
     ·subst he
      have HF:Hid (R=bksE b (b.blocks.drop (k+1))):=aF (by rw [HQ3.out];rfl)
      clear HQ3
      go_wp2_with (go_at_call 80;refine (HTT.out _ HB5.out).mono ?_;rintro e' w5 ⟨rfl,hb5⟩;have HB7:=aF (HB5.out.trans (hb5.mono HB5.out.size));have HC7:=aF (cells_kept HCC.out hb5);have hsz7:=hb5.size;clear hb5)
      go_roundg (b.blocks.length - (k+1))
      case measure=>omega
      case rel=>exact ⟨k+1,rfl,by omega,rfl,by go_num,HC7,HB7,by omega,HF⟩
     ·have HF:Hid (R=et):=aF (by rw [HQ3.out,aX he])
      have e1:(et == 0)=false:=by simp [he]
      clear HQ3 he
      go_wp2_with (go_at_call 80;refine (HTT.out _ HB5.out).mono ?_;rintro e' w5 ⟨rfl,hb5⟩;have HB7:=aF (HB5.out.trans (hb5.mono HB5.out.size));clear hb5)
      rw [Exit.noGoto_ret]
      go_ret
      exact ⟨by rw [HF.out];rfl,HB2.out.trans (HB7.out.mono HB2.out.size)⟩
  ·have HF:Hid (R=0):=aF (by rw [hr.out,bD (by omega:b.blocks.length≤k)];rfl)
   clear hr
   go_wp2_with fail
   rw [Exit.noGoto_ret]
   go_ret
   exact ⟨by rw [HF.out];rfl,HB2.out.trans (HB3.out.mono HB2.out.size)⟩
end
section
open Go Go.RowKit
theorem mV (l:List Opd) (B:Option Addr) (d:Nat) (w:World) (hs:Slc 4 ROp w B d l):
 Calls Tryz.prog 72 #[.slice B l.length d] w fun e' w'=>(∃q:Int,e' = .returned (.int .i64 q)∧0≤q∧q≤20000)∧Below w.heap.size w w':=by
 have hle:=hs.le
 have hbg:=hs.big
 obtain ⟨n0,hn0⟩:∃n:Nat,min l.length 9000=n:=⟨_,rfl⟩
 have hn1:n0≤l.length:=by omega
 have hn2:n0≤9000:=by omega
 have HS:=aF (hs.takeN n0)
 have hlen:(l.take n0).length=n0:=by simp;omega
 have hmin:min (l.length:Int) 9000=(n0:Int):=by omega
 have hcut:∀W,(Instr.slice 52 (.slice B l.length d) none (some (.int .i64 (n0:Int))) none).run Tryz.prog W = .ok (.slice B n0 d) W:=fun W=>by
  have:=nI (P:=Tryz.prog) 52 175 B l.length d n0 4 Tryz.underlying52 Tryz.sizeOf175 hn1 hle W
  rwa [show cutA B d 0 4=B by cases B <;> simp [cutA,Addr.add]] at this
 generalize l.take n0=l' at HS hlen
 generalize l.length=L at hcut hmin ⊢
 clear hs
 go_enter Tryz.func72,Tryz.ntmps72
 go_wp2_with fail
 clear hmin hcut
 go_loopw [3,13] (fun v i wr=>∃(k:Nat) (m:Int),k≤n0∧i = .int .i64 k∧v = .int .i64 m∧0≤m∧m≤9000∧Hid (Below w.heap.size w wr)) (fun _ i _=>n0 - (intOf i).toNat)
 case atStart=>exact ⟨0,_,by omega,rfl,rfl,by omega,by omega,aF (aV _ _)⟩
 case round=>
  obtain ⟨k,m,hk,rfl,rfl,hm0,hm1,HB⟩:=hrel
  by_cases hlt:k<n0
  ·have hlt2:k<l'.length:=by omega
   obtain ⟨b5,o5,rfl,hb5,hx⟩:=HS.out.sl.at_ hlt2
   generalize l'[k]=o at hx
   obtain ⟨p0,⟨p1,A2,c2,p2,hc1,hc2,hsl⟩,p3⟩:=ROp.keeps _ _ _ w.heap.size _ _ _ (aW _) hb5 HB.out hx
   have p2':wr.cell? ⟨b5,o5+k * 4+2,none⟩=some (.slice A2 o.place.proj.length c2):=p2
   have hsz:=HB.out.size
   clear hx hsl p2
   go_wp2_with fail
   all_goals first
    | (go_ret;exact ⟨⟨_,rfl,by omega,by omega⟩,HB.out.alloc hsz _⟩)
    | (go_roundw
       case rel=>exact ⟨k+1,_,by omega,by go_num,rfl,by omega,by omega,aF (HB.out.alloc hsz _)⟩
       case measure=>simp [intOf];omega)
  ·go_wp2_with fail
   go_ret
   exact ⟨⟨_,rfl,by omega,by omega⟩,HB.out⟩
structure ShortB (b:Bdy):Prop where
 outl:b.outl.length≤65535
 regs:b.regions.length≤65535
 typs:b.types.length≤65535
 locs:b.locals.length≤65535
 blks:∀x∈b.blocks,x.stmts.length≤65535∧x.term.targets.length≤2∧x.term.place.proj.length≤32∧∀s∈x.stmts,s.place.proj.length≤32∧s.rv.place.proj.length≤32
theorem gN {n:Int} (h1 : -9223372036854775808≤n) (h2:n≤9223372036854775807):wrap64 n=n:=by unfold wrap64;omega
def tyZ (l:List Ty):Nat:=(l.map (fun t=>1+min t.flds.length 9000)).sum
theorem xBB (l:List Ty) (t:Ty):tyZ (l ++ [t])=tyZ l+(1+min t.flds.length 9000):=by simp [tyZ]
def namesZ (b:Bdy):Nat:=szN b.name+b.outl.length+sumN b.regions+tyZ b.types+sumN (b.locals.map (·.name))+sumN (b.blocks.map (·.term.name))
def z1 (b:Bdy) (k:Nat):Nat:=szN b.name+b.outl.length+sumN (b.regions.take k)
def z2 (b:Bdy) (k:Nat):Nat:=z1 b b.regions.length+tyZ (b.types.take k)
def z3 (b:Bdy) (k:Nat):Nat:=z2 b b.types.length+sumN ((b.locals.take k).map (·.name))
def z4 (b:Bdy) (k:Nat):Nat:=z3 b b.locals.length+sumN ((b.blocks.take k).map (·.term.name))
theorem xGN (b:Bdy):z4 b b.blocks.length=namesZ b:=by
 unfold z4 z3 z2 z1 namesZ
 simp only [bZ]
theorem gF {α : Type} {l:List α} {k:Nat} (h:k<l.length):l.take (k+1)=l.take k ++ [l[k]]:=bE h
theorem xES (b:Bdy) (k:Nat) (h:k<b.regions.length):z1 b (k+1)=z1 b k+(1+min b.regions[k].size 9000):=by
 unfold z1;rw [gF h,iV];unfold szN;omega
theorem xER (b:Bdy) (k:Nat) (h:k<b.types.length):z2 b (k+1)=z2 b k+(1+min b.types[k].flds.length 9000):=by
 unfold z2;rw [gF h,xBB];omega
theorem xEP (b:Bdy) (k:Nat) (h:k<b.locals.length):z3 b (k+1)=z3 b k+(1+min b.locals[k].name.size 9000):=by
 unfold z3;rw [gF h,bS,cK,cM,iV];unfold szN;omega
theorem xEN (b:Bdy) (k:Nat) (h:k<b.blocks.length):z4 b (k+1)=z4 b k+(1+min b.blocks[k].term.name.size 9000):=by
 unfold z4;rw [gF h,bS,cK,cM,iV];unfold szN;omega
theorem xGS {m a b c d:Int} (hm:0≤m∧m≤23000) (ha:0≤a∧a≤65535) (hb:0≤b∧b≤2) (hc:0≤c∧c≤32) (hd:0≤d∧d≤9000):wrap64 (m+wrap64 (wrap64 (wrap64 (wrap64 (1+a)+b)+c)+d))=m+(1+a+b+c+d):=by
 rw [gN (n:=1+a) (by omega) (by omega),gN (n:=1+a+b) (by omega) (by omega),gN (n:=1+a+b+c) (by omega) (by omega),gN (n:=1+a+b+c+d) (by omega) (by omega),gN (by omega) (by omega)]
theorem xGR {m a b q:Int} (hm:0≤m∧m≤3000) (ha:0≤a∧a≤32) (hb:0≤b∧b≤32) (hq:0≤q∧q≤20000):wrap64 (m+wrap64 (wrap64 (a+b)+q))=m+(a+b+q):=by
 rw [gN (n:=a+b) (by omega) (by omega),gN (n:=a+b+q) (by omega) (by omega),gN (by omega) (by omega)]
theorem xEQ (b:Bdy):z2 b 0=z1 b b.regions.length:=by unfold z2;simp [tyZ]
theorem xEO (b:Bdy):z3 b 0=z2 b b.types.length:=by unfold z3;simp [sumN]
theorem xEM (b:Bdy):z4 b 0=z3 b b.locals.length:=by unfold z4;simp [sumN]
theorem qS (b:Bdy) (bh:BH) (w:World) (H:BdAt w b bh) (hz:NmOk b):
 Calls Tryz.prog 23 #[.agg (bdC b bh).toArray] w fun e' w'=>(∃q:Int,e' = .returned (.int .i64 q)∧(q≤0→ShortB b→namesZ b≤3000))∧Below w.heap.size w w':=by
 obtain ⟨A1,c1,A2,c2,A3,c3,A4,c4,A5,c5⟩:=bh
 have HH:=aF H
 have HZ:=aF hz
 have r1:=H.reg.le
 have r2:=H.reg.big
 have o1:=H.out.le
 have o2:=H.out.big
 have l1:=H.loc.le
 have l2:=H.loc.big
 have t1:=H.typ.le
 have t2:=H.typ.big
 have b1:=H.blk.le
 have b2:=H.blk.big
 have n1:=hz.name
 simp only at r1 r2 o1 o2 l1 l2 t1 t2 b1 b2
 clear H hz
 unfold bdC
 simp only
 have HCW:=aF (cW w [Value.string b.name,.slice A1 b.regions.length c1,.slice A2 b.outl.length c2,.slice A3 b.types.length c3,.slice A4 b.locals.length c4,.int .i64 b.args,.slice A5 b.blocks.length c5] 28)
 have HBW:=aF ((aV w.heap.size w).alloc (aW _) (.cells ([Value.string b.name,.slice A1 b.regions.length c1,.slice A2 b.outl.length c2,.slice A3 b.types.length c3,.slice A4 b.locals.length c4,.int .i64 b.args,.slice A5 b.blocks.length c5]).toArray 28))
 have HSZ:w.heap.size<(w.alloc (.cells ([Value.string b.name,.slice A1 b.regions.length c1,.slice A2 b.outl.length c2,.slice A3 b.types.length c3,.slice A4 b.locals.length c4,.int .i64 b.args,.slice A5 b.blocks.length c5]).toArray 28)).heap.size:=by simp
 go_enter Tryz.func23,Tryz.ntmps23
 go_wp2_with fail
 go_loopw [3,25] (fun v i wr=>∃(k:Nat) (m:Int),k≤b.regions.length∧i = .int .i64 k∧v = .int .i64 m∧Hid (aA (bdM b A1 c1 A2 c2 A3 c3 A4 c4 A5 c5 []) wr w.heap.size)∧Hid (Below w.heap.size w wr)∧w.heap.size<wr.heap.size∧Hid (ShortB b→((z1 b k:Nat):Int)≤m∧m≤80000+9001 * k)) (fun _ i _=>b.regions.length - (intOf i).toNat)
 case atStart=>
  refine ⟨0,_,by omega,rfl,rfl,HCW,HBW,HSZ,aF (fun hS=>?_)⟩
  have h1:=hS.outl
  have h2:z1 b 0=min b.name.size 9000+b.outl.length:=by unfold z1 szN;simp [sumN]
  rw [h2]
  try unfold wrap64
  omega
 case round=>
  obtain ⟨k,m,hk,rfl,rfl,HCC,HB,hlw,HR⟩:=hrel
  clear HCW HBW HSZ
  by_cases hlt:k<b.regions.length
  ·have HST:=aF (xES b k hlt)
   obtain ⟨b5,o5,rfl,hb5,y⟩:=HH.out.reg.sl.at_ hlt
   have hzs:=HZ.out.regs _ (bM hlt)
   generalize b.regions[k]=x at *
   have p0:wr.cell? ⟨b5,o5+k,none⟩=some (.string x):=cell_keep HB.out (by simpa [RN] using y)
   clear y
   go_wp2_with fail
   go_roundw
   case rel=>
    refine ⟨k+1,_,by omega,by go_num,rfl,HCC,HB,hlw,aF (fun hS=>?_)⟩
    have h1:=HR.out hS
    have h2:=HST.out
    have h3:=hS.regs
    try unfold wrap64
    omega
   case measure=>simp [intOf];omega
  ·have HR2:Hid (ShortB b→((z2 b 0:Nat):Int)≤m∧m≤600000000):=aF (fun hS=>by
    have h1:=HR.out hS
    have h3:=hS.regs
    have h4:k=b.regions.length:=by omega
    rw [xEQ,← h4]
    omega)
   obtain ⟨y0,y1,y2,y3,y4,y5,y6⟩:=aQ HCC.out
   clear HR
   go_wp2_with fail
   clear hlt hk
   clear y0 y1 y2 y3 y4 y5 y6
   go_loopw [3,39] (fun v i wr=>∃(k:Nat) (m:Int),k≤b.types.length∧i = .int .i64 k∧v = .int .i64 m∧Hid (aA (bdM b A1 c1 A2 c2 A3 c3 A4 c4 A5 c5 []) wr w.heap.size)∧Hid (Below w.heap.size w wr)∧w.heap.size<wr.heap.size∧Hid (ShortB b→((z2 b k:Nat):Int)≤m∧m≤600000000+9001 * k)) (fun _ i _=>b.types.length - (intOf i).toNat)
   case atStart=>exact ⟨0,m,by omega,rfl,rfl,HCC,HB,hlw,aF (fun hS=>by have:=HR2.out hS;omega)⟩
   case round=>
    clear HCC HB hlw HR2
    obtain ⟨k,m,hk,rfl,rfl,HCC,HB,hlw,HR⟩:=hrel
    by_cases hlt:k<b.types.length
    ·have HST:=aF (xER b k hlt)
     obtain ⟨b5,o5,rfl,hb5,y⟩:=HH.out.typ.sl.at_ hlt
     obtain ⟨p0,p1,p2,p3,A6,c6,p4,p5,p6,_⟩:=RTy.keeps _ _ _ w.heap.size _ _ _ (aW _) hb5 HB.out y
     generalize b.types[k]=x at *
     have HCC2:=aF (fun o i v hi=>cell_keep (alF wr o) (HCC.out i v hi))
     have HB2:=aF (fun o=>HB.out.alloc (Nat.le_of_lt hlw) o)
     clear y
     go_wp2_with fail
     go_roundw
     case rel=>
      refine ⟨k+1,_,by omega,by go_num,rfl,aF (HCC2.out _),aF (HB2.out _),by simp;omega,aF (fun hS=>?_)⟩
      have h1:=HR.out hS
      have h2:=HST.out
      have h3:=hS.typs
      try unfold wrap64
      omega
     case measure=>simp [intOf];omega
    ·have HR2:Hid (ShortB b→((z3 b 0:Nat):Int)≤m∧m≤1200000000):=aF (fun hS=>by
      have h1:=HR.out hS
      have h3:=hS.typs
      have h4:k=b.types.length:=by omega
      rw [xEO,← h4]
      omega)
     obtain ⟨y0,y1,y2,y3,y4,y5,y6⟩:=aQ HCC.out
     clear HR
     go_wp2_with fail
     clear hlt hk
     clear y0 y1 y2 y3 y4 y5 y6
     go_loopw [3,54] (fun v i wr=>∃(k:Nat) (m:Int),k≤b.locals.length∧i = .int .i64 k∧v = .int .i64 m∧Hid (aA (bdM b A1 c1 A2 c2 A3 c3 A4 c4 A5 c5 []) wr w.heap.size)∧Hid (Below w.heap.size w wr)∧w.heap.size<wr.heap.size∧Hid (ShortB b→((z3 b k:Nat):Int)≤m∧m≤1200000000+9001 * k)) (fun _ i _=>b.locals.length - (intOf i).toNat)
     case atStart=>exact ⟨0,m,by omega,rfl,rfl,HCC,HB,hlw,aF (fun hS=>by have:=HR2.out hS;omega)⟩
     case round=>
      clear HCC HB hlw HR2
      obtain ⟨k,m,hk,rfl,rfl,HCC,HB,hlw,HR⟩:=hrel
      by_cases hlt:k<b.locals.length
      ·have HST:=aF (xEP b k hlt)
       have hzs:=HZ.out.locs _ (bM hlt)
       obtain ⟨b5,o5,rfl,hb5,y⟩:=HH.out.loc.sl.at_ hlt
       obtain ⟨p0,p1⟩:=RLc.keeps _ _ _ w.heap.size _ _ _ (aW _) hb5 HB.out y
       generalize b.locals[k]=x at *
       have HCC2:=aF (fun o i v hi=>cell_keep (alF wr o) (HCC.out i v hi))
       have HB2:=aF (fun o=>HB.out.alloc (Nat.le_of_lt hlw) o)
       clear y
       go_wp2_with fail
       go_roundw
       case rel=>
        refine ⟨k+1,_,by omega,by go_num,rfl,aF (HCC2.out _),aF (HB2.out _),by simp;omega,aF (fun hS=>?_)⟩
        have h1:=HR.out hS
        have h2:=HST.out
        have h3:=hS.locs
        try unfold wrap64
        omega
       case measure=>simp [intOf];omega
      ·have HR2:Hid (ShortB b→((z4 b 0:Nat):Int)≤m):=aF (fun hS=>by
        have h1:=HR.out hS
        have h4:k=b.locals.length:=by omega
        rw [xEM,← h4]
        omega)
       obtain ⟨y0,y1,y2,y3,y4,y5,y6⟩:=aQ HCC.out
       clear HR
       by_cases hm:3000<m
       ·go_wp2_with fail
        go_ret
        exact ⟨⟨1,rfl,fun h=>absurd h (by omega)⟩,HB.out⟩
       go_wp2_with fail
       clear hlt hk
       clear y0 y1 y2 y3 y4 y5 y6
       go_loopw [3,71] (fun v i wr=>∃(k:Nat) (m:Int),k≤b.blocks.length∧i = .int .i64 k∧v = .int .i64 m∧Hid (aA (bdM b A1 c1 A2 c2 A3 c3 A4 c4 A5 c5 []) wr w.heap.size)∧Hid (Below w.heap.size w wr)∧w.heap.size<wr.heap.size∧Hid (ShortB b→((z4 b k:Nat):Int)≤m∧m≤23000)) (fun _ i _=>b.blocks.length - (intOf i).toNat)
       case atStart=>exact ⟨0,m,by omega,rfl,rfl,HCC,HB,hlw,aF (fun hS=>by have:=HR2.out hS;omega)⟩
       case round=>
        clear HCC HB hlw HR2 hm
        obtain ⟨k,m,hk,rfl,rfl,HCC,HB,hlw,HR⟩:=hrel
        by_cases hlt:k<b.blocks.length
        ·have HST:=aF (xEN b k hlt)
         have hzs:=HZ.out.blks _ (bM hlt)
         have HSB:=aF (fun (hS:ShortB b)=>hS.blks _ (bM hlt))
         obtain ⟨b5,o5,rfl,hb5,y⟩:=HH.out.blk.sl.at_ hlt
         generalize b.blocks[k]=x at *
         obtain ⟨B1,d1,B2,d2,B3,d3,B4,d4,p0,p1,p2,p3,p4,p5,p6,hs1,hs2,hs3,hs4⟩:=sX y
         have HS1:=aF hs1
         have HS3:=aF (fun W hb=>mV x.term.args B3 d3 W (hs3.keep ROp.keeps hb))
         have q1:=hs1.le
         have q2:=hs1.big
         have q3:=hs2.le
         have q4:=hs2.big
         have q5:=hs4.le
         have q6:=hs4.big
         replace p0:=cell_keep HB.out p0
         replace p1:=cell_keep HB.out p1
         replace p2:=cell_keep HB.out p2
         replace p3:=cell_keep HB.out p3
         replace p4:=cell_keep HB.out p4
         replace p5:=cell_keep HB.out p5
         replace p6:=cell_keep HB.out p6
         clear y hs1 hs2 hs3 hs4
         have HBK:=aF (cW wr (bkL x B1 d1 B2 d2 B3 d3 B4 d4) 60)
         have HCC2:=aF (fun i v hi=>cell_keep (alF wr (.cells (bkL x B1 d1 B2 d2 B3 d3 B4 d4).toArray 60)) (HCC.out i v hi))
         have HB2:=aF (HB.out.alloc (Nat.le_of_lt hlw) (.cells (bkL x B1 d1 B2 d2 B3 d3 B4 d4).toArray 60))
         obtain ⟨gx,hgx⟩:∃g,wr.heap.size=g:=⟨_,rfl⟩
         have HGX:=aF hgx
         have hgl:w.heap.size<gx:=by omega
         obtain ⟨m2,hm2⟩:∃m2,wrap64 (m+wrap64 (wrap64 (wrap64 (wrap64 (1+(x.stmts.length:Int))+(x.term.targets.length:Int))+(x.term.place.proj.length:Int))+min (x.term.name.size:Int) 9000))=m2:=⟨_,rfl⟩
         have HR2:Hid (ShortB b→((z4 b (k+1):Nat):Int)≤m2):=aF (fun hS=>by
          have h1:=HR.out hS
          have h2:=HST.out
          obtain ⟨g1,g2,g3,_⟩:=HSB.out hS
          rw [← hm2,xGS (by omega) (by omega) (by omega) (by omega) (by omega)]
          omega)
         by_cases h3:3000<m2
         ·go_wp2_with fail
          go_ret
          exact ⟨⟨1,rfl,fun h=>absurd h (by omega)⟩,HB2.out⟩
         go_wp2_with fail
         clear p0 p1 p2 p3 p4 p5 p6 hm2
         go_loopw [3,103] (fun v i wr2=>∃(j:Nat) (m:Int),j≤x.stmts.length∧i = .int .i64 j∧v = .int .i64 m∧m≤3000∧Hid (aA (bdM b A1 c1 A2 c2 A3 c3 A4 c4 (some ⟨b5,o5,none⟩) c5 []) wr2 w.heap.size)∧Hid (aA (bkL x B1 d1 B2 d2 B3 d3 B4 d4) wr2 gx)∧Hid (Below w.heap.size w wr2)∧gx<wr2.heap.size∧Hid (ShortB b→((z4 b (k+1):Nat):Int)≤m)) (fun _ i _=>x.stmts.length - (intOf i).toNat)
         case atStart=>exact ⟨0,m2,by omega,rfl,rfl,by omega,HCC2,aF (by rw [← HGX.out];exact HBK.out),HB2,by rw [← HGX.out];simp,HR2⟩
         case round=>
          clear HCC2 HBK HB2 HR2 h3 HCC HB HR
          obtain ⟨j,m,hj,rfl,rfl,hm,HCC,HBK,HB,hgw,HR⟩:=hrel
          have hlw:w.heap.size<wr.heap.size:=by omega
          by_cases hjl:j<x.stmts.length
          ·have HSM:=aF (fun (hS:ShortB b)=>(HSB.out hS).2.2.2 _ (bM hjl))
           obtain ⟨b3,o3,rfl,hb3,hy⟩:=HS1.out.sl.at_ hjl
           generalize x.stmts[j]=s at *
           obtain ⟨C0,e0,C1,e1,C2,e2,n0,n1,n2,n3,n4,n5,n6,n7,n8,n9,n10,hp0,hp,hl⟩:=rJ hy
           have f1:=hp0.le
           have f2:=hp0.big
           have f3:=hp.le
           have f4:=hp.big
           have HOP:=aF (fun W hb=>mV s.rv.args C2 e2 W (hl.keep ROp.keeps hb))
           replace n0:=cell_keep HB.out n0
           replace n1:=cell_keep HB.out n1
           replace n2:=cell_keep HB.out n2
           replace n3:=cell_keep HB.out n3
           replace n4:=cell_keep HB.out n4
           replace n5:=cell_keep HB.out n5
           replace n6:=cell_keep HB.out n6
           replace n7:=cell_keep HB.out n7
           replace n8:=cell_keep HB.out n8
           replace n9:=cell_keep HB.out n9
           replace n10:=cell_keep HB.out n10
           clear hy hp0 hp hl
           obtain ⟨W1,hW1⟩:∃W1,wr.alloc (.cells #[Value.int .i64 s.kind,.int .i64 s.place.loc,.slice C0 s.place.proj.length e0,.int .i64 s.rv.kind,.int .i64 s.rv.op,.int .i64 s.rv.reg,.bool s.rv.mu,.int .i64 s.rv.place.loc,.slice C1 s.rv.place.proj.length e1,.slice C2 s.rv.args.length e2,.int .i64 s.loc] 122)=W1:=⟨_,rfl⟩
           have hST:∀i v,(stC s C0 e0 C1 e1 C2 e2)[i]?=some v→W1.cell? ⟨wr.heap.size,i,none⟩=some v:=by rw [← hW1];exact cW wr (stC s C0 e0 C1 e1 C2 e2) 122
           have hb1:Below wr.heap.size wr W1:=by rw [← hW1];exact alF _ _
           have hb1d:Below wr.heap.size wr W1.drew:=hb1.drew
           have HS0:Hid ((aA (stC s C0 e0 C1 e1 C2 e2) W1.drew wr.heap.size)∧(aA (bdM b A1 c1 A2 c2 A3 c3 A4 c4 (some ⟨b5,o5,none⟩) c5 []) W1.drew w.heap.size)∧(aA (bkL x (some ⟨b3,o3,none⟩) d1 B2 d2 B3 d3 B4 d4) W1.drew gx)∧Below w.heap.size w W1.drew):=aF ⟨hST,cells_kept HCC.out hb1d,cells_kept HBK.out hb1d,keep0 hb1d HB.out⟩
           have hsz1:gx<W1.heap.size:=bN hgw hb1.size
           clear hST hb1 hb1d
           go_wp2_with fail
           clear n0 n1 n2 n3 n4 n5 n6 n7 n8 n9 n10
           have hS:=HS0.out
           refine cP (S:=fun X=>(aA (stC s C0 e0 C1 e1 C2 e2) X wr.heap.size)∧(aA (bdM b A1 c1 A2 c2 A3 c3 A4 c4 (some ⟨b5,o5,none⟩) c5 []) X w.heap.size)∧(aA (bkL x (some ⟨b3,o3,none⟩) d1 B2 d2 B3 d3 B4 d4) X gx)∧Below w.heap.size w X) [0,1,2,3,4,5,6,7,8,9,10,11,12,13,14,15,16,17] (by kernel_rfl) ?_
           (iterate 14 (refine cQ (v:=?_) ?_ hS ?_;rotate_left;(next=>(rintro X ⟨hX,_,_,_⟩;obtain ⟨-,-,s2,-,-,-,-,-,s8,s9⟩:=aT hX;(try simp only [aH]);go_simp;rfl));simp only [aH,Act.put,aJ]))
           (refine cS (by kernel_rfl) (fun K1 hK1=>?_);simp only [aH,Act.put,aJ];rw [aY (by rfl)];go_simp)
           refine (HOP.out _ hS.2.2.2).mono ?_
           rintro e' w5 ⟨⟨q,rfl,hq0,hq1⟩,hb5⟩
           replace hS:=bI (cells_kept hS.1 hb5) (bI (cells_kept hS.2.1 hb5) (bI (cells_kept hS.2.2.1 hb5) (hS.2.2.2.trans (hb5.mono hS.2.2.2.size))))
           have HS5:=aF hS
           have hsz7:gx<w5.heap.size:=bN hsz1 hb5.size
           clear hb5
           refine hK1.out _ _ (fun _=>hS) ?_
           clear hK1
           (iterate 3 (refine cQ (v:=?_) ?_ hS ?_;rotate_left;(next=>(rintro X -;(try simp only [aH]);go_simp;rfl));simp only [aH,Act.put,aJ]))
           refine cV (by kernel_rfl) ?_
           clear hS
           obtain ⟨m3,hm3⟩:∃m3,IntKind.i64.wrap (m+IntKind.i64.wrap (IntKind.i64.wrap ((s.place.proj.length:Int)+(s.rv.place.proj.length:Int))+q))=m3:=⟨_,rfl⟩
           have hm4:wrap64 (m+wrap64 (wrap64 ((s.place.proj.length:Int)+(s.rv.place.proj.length:Int))+q))=m3:=by
            rw [← IntWalk.i64_left,← IntWalk.i64_left,← IntWalk.i64_left];exact hm3
           have HR3:Hid (ShortB b→((z4 b (k+1):Nat):Int)≤m3):=aF (fun hS=>by
            have h1:=HR.out hS
            obtain ⟨g1,g2⟩:=HSM.out hS
            rw [← hm4,xGR (by omega) (by omega) (by omega) (by omega)]
            omega)
           clear hm4
           by_cases h3:3000<m3
           ·go_wp2_with fail
            go_ret
            exact ⟨⟨1,rfl,fun h=>absurd h (by omega)⟩,HS5.out.2.2.2⟩
           go_wp2_with fail
           go_roundw
           case rel=>exact ⟨j+1,m3,by omega,by go_num,congrArg (Value.int .i64) hm3,by omega,aF HS5.out.2.1,aF HS5.out.2.2.1,aF HS5.out.2.2.2,hsz7,HR3⟩
           case measure=>simp [intOf];omega
          ·obtain ⟨y0,y1,y2,y3,y4,y5,y6⟩:=aQ HCC.out
           have k3:=HBK.out 3 _ rfl
           go_wp2_with (go_at_call 72;refine (HS3.out _ HB.out).mono ?_;rintro e' w5 ⟨⟨q,rfl,hq0,hq1⟩,hb5⟩;have HB7:=aF (HB.out.trans (hb5.mono HB.out.size));have HC7:=aF (cells_kept HCC.out hb5);have hsz7:=hb5.size;clear hb5)
           go_roundw
           case rel=>
            refine ⟨k+1,_,by omega,by go_num,rfl,HC7,HB7,by omega,aF (fun hS=>?_)⟩
            have h1:=HR.out hS
            try unfold wrap64
            omega
           case measure=>simp [intOf];omega
        ·have HZF:Hid (ShortB b→((namesZ b:Nat):Int)≤m):=aF (fun hS=>by
          have h1:=HR.out hS
          have h4:k=b.blocks.length:=by omega
          rw [← xGN,← h4]
          omega)
         clear HR
         by_cases h3:3000<m
         ·go_wp2_with fail
          go_ret
          exact ⟨⟨1,rfl,fun h=>absurd h (by omega)⟩,HB.out⟩
         ·go_wp2_with fail
          go_ret
          exact ⟨⟨0,rfl,fun _ hS=>by have:=HZF.out hS;omega⟩,HB.out⟩
def declX (tbl:List ByteArray) (b:Bdy):List UInt8:=nameX tbl b.name ++ (listW (nameX tbl) b.regions ++ (listW pairW b.outl ++ (listW typeW b.types ++ (listW (eD tbl) b.locals ++ putI b.args))))
def declErr (tbl:List ByteArray) (b:Bdy):Int:=b.locals.foldl (fun e (s:Lc)=>errX tbl s.name e) (b.regions.foldl (fun e s=>errX tbl s e) (errX tbl b.name 0))
theorem iB {b:Bdy} (h:chkB b=0):declC b=0:=by
 unfold chkB at h
 by_cases h0:declC b=0
 ·exact h0
 ·rw [aX h0] at h
  exact absurd h h0
def EncPost (tbl:List ByteArray) (b:Bdy) (w:World) (e':Ending) (w':World):Prop:=
 Below w.heap.size w w'∧(chkB b≠0→e' = .returned (.tuple #[.slice none 0 0,.int .i64 16]))∧
 (chkB b=0→declErr tbl b≠0→e' = .returned (.tuple #[.slice none 0 0,.int .i64 (declErr tbl b)]))∧
 (chkB b=0→declErr tbl b=0→∃A c,e' = .returned (.tuple #[.slice A (declX tbl b).length c,.int .i64 0])∧Slc 1 RB w' A c (declX tbl b))
theorem lB (b:Bdy) (bh:BH) (t:Nat) (T:Option Addr) (c:Nat) (tbl:List ByteArray) (w:World) (H:BdAt w b bh) (hT:TabsOk w) (ht:TabAt w t T c tbl) (hsort:tbl.Pairwise (fun a b=>bl a<bl b)) (htl:tbl.length≤1000000) (hlen:chkB b=0→(declX tbl b).length≤1000000):
 Calls Tryz.prog 11 #[.agg (bdC b bh).toArray,.pointer (some ⟨t,0,none⟩)] w (EncPost tbl b w):=by
 obtain ⟨A1,a1,A2,a2,A3,a3,A4,a4,A5,a5⟩:=bh
 obtain ⟨W,hW⟩:∃W,w.alloc (.cells #[.string b.name,.slice A1 b.regions.length a1,.slice A2 b.outl.length a2,.slice A3 b.types.length a3,.slice A4 b.locals.length a4,.int .i64 b.args,.slice A5 b.blocks.length a5] 28)=W:=⟨_,rfl⟩
 have hb:Below w.heap.size w W:=by rw [← hW];exact (aV _ _).alloc (aW _) _
 have hk:W.heap[w.heap.size]?=some (.cells #[.string b.name,.slice A1 b.regions.length a1,.slice A2 b.outl.length a2,.slice A3 b.types.length a3,.slice A4 b.locals.length a4,.int .i64 b.args,.slice A5 b.blocks.length a5] 28 (0,0)):=by rw [← hW];exact heap_alloc_new w _
 have HCHK:Hid (Calls Tryz.prog 28 #[.agg #[.string b.name,.slice A1 b.regions.length a1,.slice A2 b.outl.length a2,.slice A3 b.types.length a3,.slice A4 b.locals.length a4,.int .i64 b.args,.slice A5 b.blocks.length a5]] W fun e' w'=>e' = .returned (.int .i64 (chkB b))∧Below W.heap.size W w'):=aF (uS b ⟨A1,a1,A2,a2,A3,a3,A4,a4,A5,a5⟩ W (H.keep hb) (hT.keep hb))
 have HH:=aF (H.keep hb)
 have HT:=aF (ht.keep hb)
 have HSO:=aF hsort
 have HLN:=aF hlen
 have HB:=aF hb
 have HK:=aF hk
 obtain ⟨x0,x1,x2,x3,x4,x5,x6,_⟩:=blk7 hk
 have HDF:=aF (fun h=>iB (b:=b) h)
 obtain ⟨ch,hch⟩:∃ch,chkB b=ch:=⟨_,rfl⟩
 have HCH:=aF hch
 rw [hch] at HCHK HLN HDF
 clear H hT ht hsort hlen hb hk hch
 change Calls _ _ #[.agg #[.string b.name,.slice A1 b.regions.length a1,.slice A2 b.outl.length a2,.slice A3 b.types.length a3,.slice A4 b.locals.length a4,.int .i64 b.args,.slice A5 b.blocks.length a5],.pointer (some ⟨t,0,none⟩)] _ _
 go_enter Tryz.func11,Tryz.ntmps11
 by_cases h0:ch=0
 case neg=>
  have e1:(ch == 0)=false:=by simp [h0]
  have e2:(ch != 0)=true:=by simp [h0]
  have H0:=aF h0
  clear h0
  go_wp2_with fail
  go_at_call 28
  refine HCHK.out.mono ?_
  rintro e' w1 ⟨rfl,hb1⟩
  have HB1:=aF (HB.out.trans (hb1.mono HB.out.size))
  clear hb1
  go_wp2_with fail
  refine bodyPost_ret (v:= .tuple #[.slice none 0 0,.int .i64 16]) (by simp [results,Tryz.results11,go_sem] <;> rfl) rfl ?_
  unfold EncPost
  rw [HCH.out]
  exact ⟨HB1.out,fun _=>rfl,fun h=>absurd h H0.out,fun h=>absurd h H0.out⟩
 case pos=>
 subst h0
 have hdc:=HDF.out rfl
 have hok:=dY hdc
 have hty:=hok.typC
 unfold typesC at hty
 rw [aX (by have:=hok.ntyp;omega)] at hty
 have HTG:=aF (iE (by have:=hok.nreg;omega) _ _ _ (by simpa using hok.ntyp) hty)
 have HPA:=aF hok.pairs
 have HLO:=aF hok.locs
 have hnreg:=hok.nreg
 have hntyp:=hok.ntyp
 have hnloc:=hok.nloc
 have hargs:=hok.args
 have HLEN:=aF (HLN.out rfl)
 clear hdc hok hty HDF HLN
 go_wp2_with fail
 go_at_call 28
 refine HCHK.out.mono ?_
 rintro e' w1 ⟨rfl,hb1⟩
 have hbd:=HH.out.keep hb1
 have htb:=HT.out.keep hb1
 have hk1:=(hb1.block _ (Array.getElem?_eq_some_iff.1 HK.out).1).trans HK.out
 have hkl:=(Array.getElem?_eq_some_iff.1 hk1).1
 have HBD:=aF hbd
 have HTB:=aF htb
 have HK1:=aF hk1
 have HB1:=aF (HB.out.trans (hb1.mono HB.out.size))
 clear hbd htb hk1 hb1 HCHK
 go_wp2_with fail
 go_at_call 29
 refine (vT w1).mono ?_
 rintro e' w2 ⟨rfl,hw2,hb2⟩
 have hs2:=hw2.lt
 obtain ⟨W3,hW3⟩:∃W3,w2.alloc (.cells #[.pointer (some ⟨w1.heap.size,0,none⟩),.pointer (some ⟨t,0,none⟩),.int .i64 0] 75)=W3:=⟨_,rfl⟩
 have hb3:Below w2.heap.size w2 W3:=by rw [← hW3];exact (aV _ _).alloc (aW _) _
 have hes:ES w1 w2.heap.size w1.heap.size t W3 0 []:=⟨hb2.trans (hb3.mono hb2.size),by rw [← hW3];exact heap_alloc_new w2 _,hw2.keep hb3,aW _,hs2⟩
 have HES:=aF hes
 have HB3:=aF (hb2.trans (hb3.mono hb2.size))
 have kcell:∀Z,Below w1.heap.size w1 Z→Z.heap[w.heap.size]?=some (.cells #[.string b.name,.slice A1 b.regions.length a1,.slice A2 b.outl.length a2,.slice A3 b.types.length a3,.slice A4 b.locals.length a4,.int .i64 b.args,.slice A5 b.blocks.length a5] 28 (0,0)):=fun Z hZ=>(hZ.block _ hkl).trans HK1.out
 have KC:=aF kcell
 clear x0 x1 x2 x3 x4 x5 x6
 obtain ⟨x0,_,_,_,_,_,_,_⟩:=blk7 (kcell W3 hes.bel)
 clear hw2 hb2 hb3 hes kcell
 have HLX:Hid ((nameX tbl b.name).length+(listW (nameX tbl) b.regions).length+(listW pairW b.outl).length+(listW typeW b.types).length+(listW (eD tbl) b.locals).length+(putI b.args).length≤1000000):=aF (by
  have h:=HLEN.out
  unfold declX at h
  simp only [aZ] at h
  omega)
 have HDX:Hid (declX tbl b=[] ++ nameX tbl b.name ++ listW (nameX tbl) b.regions ++ listW pairW b.outl ++ listW typeW b.types ++ listW (eD tbl) b.locals ++ putI b.args):=aF (by unfold declX;simp only [List.nil_append,bK])
 have HDE:Hid (declErr tbl b=b.locals.foldl (fun e (s:Lc)=>errX tbl s.name e) (b.types.foldl (fun e _=>e) (b.outl.foldl (fun e _=>e) (b.regions.foldl (fun e s=>errX tbl s e) (errX tbl b.name 0))))):=aF (by rw [jJ,jJ];rfl)
 obtain ⟨er,hre⟩:∃er,declErr tbl b=er:=⟨_,rfl⟩
 obtain ⟨dx,hxe⟩:∃dx,declX tbl b=dx:=⟨_,rfl⟩
 have HRE:=aF hre
 have HXE:=aF hxe
 rw [hre] at HDE
 rw [hxe] at HDX HLEN
 clear hre hxe
 go_wp2_with fail
 go_at_call 30
 refine (lP w1 w2.heap.size w1.heap.size t T c tbl 0 [] b.name W3 HTB.out HSO.out htl HES.out (by have h:=HLX.out;simp only [aZ,bO];omega)).mono ?_
 rintro e' w4 ⟨rfl,hs4,_⟩
 obtain ⟨_,x1,_,_,_,_,_,_⟩:=blk7 (KC.out w4 hs4.bel)
 have HS4:=aF hs4
 clear hs4
 go_wp2_with fail
 go_at_call 31
 refine (zY w1 w2.heap.size w1.heap.size t T c tbl _ _ b.regions A1 a1 w4 HTB.out HSO.out htl HBD.out.reg HS4.out (fun _ _=>trivial) (by have h:=HLX.out;simp only [aZ,bO];omega)).mono ?_
 rintro e' w5 ⟨rfl,hs5,_⟩
 obtain ⟨_,_,x2,_,_,_,_,_⟩:=blk7 (KC.out w5 hs5.bel)
 have HS5:=aF hs5
 clear hs5
 go_wp2_with fail
 go_at_call 32
 refine (wP w1 w2.heap.size w1.heap.size t _ _ b.outl A2 a2 w5 HBD.out.out HS5.out (fun p hp=>by have:=HPA.out p hp;omega) (by have h:=HLX.out;simp only [aZ,bO];omega)).mono ?_
 rintro e' w6 ⟨rfl,hs6,_⟩
 obtain ⟨_,_,_,x3,_,_,_,_⟩:=blk7 (KC.out w6 hs6.bel)
 have HS6:=aF hs6
 clear hs6
 go_wp2_with fail
 go_at_call 34
 refine (zX w1 w2.heap.size w1.heap.size t _ _ b.types A3 a3 w6 HBD.out.typ HS6.out HTG.out (by have h:=HLX.out;simp only [aZ,bO];omega)).mono ?_
 rintro e' w7 ⟨rfl,hs7,_⟩
 obtain ⟨_,_,_,_,x4,_,_,_⟩:=blk7 (KC.out w7 hs7.bel)
 have HS7:=aF hs7
 clear hs7
 go_wp2_with fail
 go_at_call 36
 refine (zZ w1 w2.heap.size w1.heap.size t T c tbl _ _ b.locals A4 a4 w7 HTB.out HSO.out htl HBD.out.loc HS7.out (fun p hp=>by have:=(HLO.out p hp).2;omega) (by have h:=HLX.out;simp only [aZ,bO];omega)).mono ?_
 rintro e' w8 ⟨rfl,hs8,_⟩
 obtain ⟨_,_,_,_,_,x5,_,_⟩:=blk7 (KC.out w8 hs8.bel)
 have HS8:=aF hs8
 clear hs8
 go_wp2_with fail
 go_at_call 38
 refine (dT w1 w2.heap.size w1.heap.size t _ _ b.args w8 HS8.out (by omega) (by have h:=HLX.out;simp only [aZ,bO];omega)).mono ?_
 rintro e' w9 ⟨rfl,hs9,_⟩
 rw [← HDE.out,← HDX.out] at hs9
 obtain ⟨y0,y1,y2,_⟩:=trip hs9.at_
 have HS9:=aF hs9
 have HB9:Hid (Below w.heap.size w w9):=aF (HB1.out.trans (hs9.bel.mono HB1.out.size))
 have HLL:=aF HLEN.out
 clear hs9
 by_cases her:er=0
 ·subst her
  have HYB:=aF (xFO w1.heap.size dx w9 HS9.out.wr HLL.out)
  go_wp2_with fail
  go_at_call 39
  refine HYB.out.mono ?_
  rintro e' w10 ⟨A',c',rfl,hs10,hb10⟩
  have HS10:=aF hs10
  have HB10:=aF hb10
  clear hs10 hb10
  go_wp2_with fail
  refine bodyPost_ret (v:= .tuple #[.slice A' dx.length c',.int .i64 0]) (by simp [results,Tryz.results11,go_sem] <;> rfl) rfl ?_
  unfold EncPost
  rw [HCH.out,HRE.out,HXE.out]
  exact ⟨HB9.out.trans (HB10.out.mono HB9.out.size),fun h=>absurd rfl h,fun _ h=>absurd rfl h,fun _ _=>⟨A',c',rfl,HS10.out⟩⟩
 ·have e1:(er == 0)=false:=by simp [her]
  have e2:(er != 0)=true:=by simp [her]
  have HER:=aF her
  clear her
  go_wp2_with fail
  go_quiet (fail)
  go_wp2_with fail
  refine bodyPost_ret (v:= .tuple #[.slice none 0 0,.int .i64 er]) (by simp [results,Tryz.results11,go_sem] <;> rfl) rfl ?_
  unfold EncPost
  rw [HCH.out,HRE.out,HXE.out]
  exact ⟨bA HB9.out _,fun h=>absurd rfl h,fun _ _=>rfl,fun _ h=>absurd h HER.out⟩
theorem xAN {b:Bdy}:∀{l:List Blk},bksE b l=0→∀x∈l,bkE b x=0
 | [],_=>by simp
 | y :: r,h=>by
   rw [bksE] at h
   by_cases he:bkE b y=0
   ·rw [aY he] at h
    intro x hx
    rcases List.mem_cons.1 hx with rfl | hx
    ·exact he
    ·exact xAN h x hx
   ·rw [aX he] at h;exact absurd h he
theorem xP {b:Bdy}:∀{l:List Stm},stsE b l=0→∀x∈l,stE b x=0
 | [],_=>by simp
 | y :: r,h=>by
   rw [stsE] at h
   by_cases he:stE b y=0
   ·rw [aY he] at h
    intro x hx
    rcases List.mem_cons.1 hx with rfl | hx
    ·exact he
    ·exact xP h x hx
   ·rw [aX he] at h;exact absurd h he
theorem xDU {b:Bdy} {x:Blk} (h:bkE b x=0):x.stmts.length≤65535∧stsE b x.stmts=0∧tmE b x.term=0:=by
 unfold bkE at h
 by_cases h1:65535<x.stmts.length
 ·rw [aY h1] at h;cases h
 rw [aX h1] at h
 by_cases h2:stsE b x.stmts=0
 ·rw [aX (by simp [h2])] at h
  exact ⟨by omega,h2,h⟩
 ·rw [aY h2] at h;exact absurd h h2
theorem rG {b:Bdy} {p:Plc} (h:(tyB b p).2=0):p.proj.length≤32:=by
 have hc:=(fD h).1
 unfold chk at hc
 by_cases h1:p.loc<0
 ·rw [aY h1] at hc;cases hc
 rw [aX h1] at hc
 by_cases h2:32<p.proj.length
 ·rw [aY h2] at hc;cases hc
 ·omega
theorem fO {p:Plc} (h:zeroP p=true):p.proj.length≤32:=by
 unfold zeroP at h
 simp only [bP,decide_eq_true_eq] at h
 omega
theorem pA {b:Bdy} {p:Plc} (h:writE b p=0):p.proj.length≤32:=by
 unfold writE at h
 by_cases h1:(tyB b p).2≠0
 ·rw [aY h1] at h;exact absurd h h1
 ·exact rG (by simpa using h1)
theorem xFG {b:Bdy} {r:Rvl} {t:Int} (h:rvE b r t=0):r.place.proj.length≤32:=by
 unfold rvE at h
 by_cases h0:r.kind<0∨4<r.kind
 ·rw [aY h0] at h;cases h
 rw [aX h0] at h
 by_cases h1:unusedR r=false
 ·rw [aY h1] at h;cases h
 rw [aX h1] at h
 by_cases hk:r.kind=1
 ·rw [aX (by omega),aY hk] at h
  unfold borE at h
  by_cases h2:(tyB b r.place).2≠0
  ·rw [aY h2] at h;exact absurd h h2
  ·exact rG (by simpa using h2)
 ·have h2:unusedR r=true:=by simpa using h1
  unfold unusedR at h2
  refine fO ?_
  by_cases k0:r.kind=0
  ·rw [aY k0] at h2
   simp only [bP] at h2
   exact h2.1.1.2
  rw [aX k0,aX hk] at h2
  by_cases k2:r.kind=2
  ·rw [aY k2] at h2
   simp only [bP] at h2
   exact h2.1.2
  rw [aX k2] at h2
  by_cases k3:r.kind=3
  ·rw [aY k3] at h2
   simp only [bP] at h2
   exact h2.1.2
  rw [aX k3] at h2
  simp only [bP] at h2
  exact h2.1.2
theorem nB {r:Rvl} (h:blankR r=true):r.place.proj.length≤32:=by
 unfold blankR at h
 simp only [bP] at h
 exact fO h.2
theorem xFC {b:Bdy} {s:Stm} (h:stE b s=0):s.place.proj.length≤32∧s.rv.place.proj.length≤32:=by
 unfold stE at h
 by_cases k0:s.kind=0
 ·rw [aY k0] at h
  by_cases h1:s.loc≠0
  ·rw [aY h1] at h;cases h
  rw [aX h1] at h
  by_cases h2:writE b s.place≠0
  ·rw [aY h2] at h;exact absurd h h2
  rw [aX h2] at h
  exact ⟨pA (by simpa using h2),xFG h⟩
 rw [aX k0] at h
 by_cases k1:s.kind=1
 ·rw [aY k1] at h
  by_cases h1:zeroP s.place=false∨blankR s.rv=false
  ·rw [aY h1] at h;cases h
  ·exact ⟨fO (by cases e:zeroP s.place <;> simp_all),nB (by cases e:blankR s.rv <;> simp_all)⟩
 rw [aX k1] at h
 by_cases k2:s.kind=2
 ·rw [aY k2] at h
  by_cases h1:zeroP s.place=false∨blankR s.rv=false∨s.loc≠0
  ·rw [aY h1] at h;cases h
  ·exact ⟨fO (by cases e:zeroP s.place <;> simp_all),nB (by cases e:blankR s.rv <;> simp_all)⟩
 rw [aX k2] at h
 cases h
theorem xBH {b:Bdy} {t:Trm} (h:tmE b t=0):t.targets.length≤2∧t.place.proj.length≤32∧(t.kind=3→isIdent t.name=true):=by
 unfold tmE at h
 by_cases h0:t.kind<0∨5<t.kind
 ·rw [aY h0] at h;cases h
 rw [aX h0] at h
 by_cases h1:fieldsT t=false
 ·rw [aY h1] at h;cases h
 rw [aX h1] at h
 have h2:fieldsT t=true:=by simpa using h1
 by_cases h3:t.targets.all (fun k=>decide (0≤k∧k<(b.blocks.length:Int)))=false
 ·rw [aY h3] at h;cases h
 rw [aX h3] at h
 unfold fieldsT at h2
 by_cases k3:t.kind=3
 ·rw [aX (by omega),aX (by omega),aY k3] at h2
  rw [aX (by omega),aY k3] at h
  simp only [decide_eq_true_eq] at h2
  by_cases g1:isIdent t.name=false
  ·rw [aY g1] at h;cases h
  rw [aX g1] at h
  by_cases g2:65535<t.args.length
  ·rw [aY g2] at h;cases h
  rw [aX g2] at h
  by_cases g3:opsE b t.args []≠0
  ·rw [aY g3] at h;exact absurd h g3
  rw [aX g3] at h
  exact ⟨by omega,pA h,fun _=>by simpa using g1⟩
 by_cases k4:t.kind=4
 ·rw [aX (by omega),aX (by omega),aX k3,aY k4] at h2
  rw [aX (by omega),aX k3,aY k4] at h
  simp only [bP,decide_eq_true_eq] at h2
  by_cases g1:(tyB b t.place).2≠0
  ·rw [aY g1] at h;exact absurd h g1
  ·exact ⟨by omega,rG (by simpa using g1),fun h=>absurd h k3⟩
 refine ⟨?_,?_,fun h=>absurd h k3⟩
 all_goals
  by_cases k0:t.kind=0
  ·rw [aY k0] at h2
   simp only [bP,decide_eq_true_eq] at h2
   first | omega | exact fO h2.1.2
  ·rw [aX k0] at h2
   by_cases k1:t.kind=1
   ·rw [aY k1] at h2
    simp only [bP,decide_eq_true_eq] at h2
    first | omega | exact fO h2.1.2
   ·rw [aX k1,aX k3,aX k4] at h2
    simp only [bP,decide_eq_true_eq] at h2
    first | omega | exact fO h2.1.2
theorem xGJ {b:Bdy} (h:chkB b=0):bksE b b.blocks=0:=by
 have hd:=iB h
 unfold chkB at h
 rwa [aY hd] at h
theorem rA {b:Bdy} (h:chkB b=0):ShortB b:=by
 have D:=dY (iB h)
 refine ⟨D.nout,D.nreg,D.ntyp,D.nloc,fun x hx=>?_⟩
 obtain ⟨h1,h2,h3⟩:=xDU (xAN (xGJ h) x hx)
 obtain ⟨t1,t2,-⟩:=xBH h3
 exact ⟨h1,t1,t2,fun s hs=>xFC (xP h2 s hs)⟩
theorem oN {t:List ByteArray} {s:ByteArray} (h:memN s t=true):nameX t s=nameW t s:=by unfold nameX nameW;rw [aY h]
theorem jX {α : Type} {f g : α → List UInt8}:∀{l:List α},(∀x∈l,f x=g x)→l.flatMap f=l.flatMap g
 | [],_=>rfl
 | x :: r,h=>by rw [List.flatMap_cons,List.flatMap_cons,h x (by simp),jX (fun y hy=>h y (by simp [hy]))]
theorem xDN {t:List ByteArray} {b:Bdy} (h:DGood t b):declX t b=declW t b:=by
 unfold declX declW
 rw [oN h.name]
 have h1:listW (nameX t) b.regions=listW (nameW t) b.regions:=by unfold listW;rw [jX (fun s hs=>oN (h.reg s hs))]
 have h2:listW (eD t) b.locals=listW (localW t) b.locals:=by
  unfold listW
  rw [jX (fun x hx=>show eD t x=localW t x by unfold eD localW;rw [oN (h.loc x hx).1])]
 rw [h1,h2]
theorem oR {α : Type} (t:List ByteArray) (f : α → ByteArray):∀{l:List α} (e:Int),(∀x∈l,memN (f x) t=true)→l.foldl (fun e x=>errX t (f x) e) e=e
 | [],_,_=>rfl
 | x :: r,e,h=>by
   rw [List.foldl_cons,show errX t (f x) e=e by unfold errX;rw [aY (h x (by simp))]]
   exact oR t f e (fun y hy=>h y (by simp [hy]))
theorem wR {t:List ByteArray} {b:Bdy} (h:DGood t b):declErr t b=0:=by
 unfold declErr
 rw [show errX t b.name 0=0 by unfold errX;rw [aY h.name],oR t (fun s=>s) 0 h.reg,oR t (fun (x:Lc)=>x.name) 0 (fun x hx=>(h.loc x hx).1)]
theorem kX:∀(f n:Nat),(putF f n).length≤f+1
 | 0,n=>by rw [putF];simp
 | f+1,n=>by
   rw [putF]
   split
   ·simp
   ·have:=kX f (n / 128)
    simp only [bJ];omega
theorem oH (n:Nat):(putL n).length≤11:=kX 10 n
theorem dW (i:Int):(putI i).length≤11:=kX 10 _
theorem qV {α : Type} {f : α → List UInt8} {k:Nat}:∀{l:List α},(∀x∈l,(f x).length≤k)→(l.flatMap f).length≤k * l.length
 | [],_=>by simp
 | x :: r,h=>by
   have h1:=h x (by simp)
   have h2:=qV (l:=r) (fun y hy=>h y (by simp [hy]))
   rw [List.flatMap_cons,aZ,bJ,Nat.mul_add]
   omega
theorem fS {α : Type} {f : α → List UInt8} {k:Nat} {l:List α} (h:∀x∈l,(f x).length≤k):(listW f l).length≤11+k * l.length:=by
 unfold listW
 have h1:=oH l.length
 have h2:=qV h
 rw [aZ]
 omega
theorem xC (x:Ty):(typeW x).length≤23+11 * x.flds.length:=by
 unfold typeW
 split
 ·have h1:=dW x.reg
  have h2:=dW x.elem
  simp only [bJ,aZ];omega
 ·split
  ·have:=fS (f:=putI) (k:=11) (l:=x.flds) (fun i _=>dW i)
   simp only [bJ];omega
  ·simp only [bJ,bO];omega
theorem kK:∀{l:List Ty},tyZ l≤3000→(l.flatMap typeW).length≤34 * tyZ l
 | [],_=>by simp
 | x :: r,h=>by
   have hz:tyZ (x :: r)=1+min x.flds.length 9000+tyZ r:=by simp [tyZ]
   have h1:=xC x
   have h2:=kK (l:=r) (by omega)
   rw [List.flatMap_cons,aZ]
   omega
theorem gX (l:List ByteArray):l.length≤sumN l:=by
 induction l with
 | nil=>simp
 | cons s r ih=>rw [xN,bJ];omega
theorem xDL {t:List ByteArray} {b:Bdy} (h:namesZ b≤3000):(declW t b).length≤1000000:=by
 unfold namesZ at h
 have c1:=gX b.regions
 have c2:=gX (b.locals.map (·.name))
 rw [cF] at c2
 have g1:=dW (idxN b.name 0 t)
 have g2:=fS (f:=nameW t) (k:=11) (l:=b.regions) (fun s _=>dW _)
 have g3:=fS (f:=pairW) (k:=22) (l:=b.outl) (fun p _=>by have h1:=dW p.1;have h2:=dW p.2;unfold pairW;rw [aZ];omega)
 have g4:(listW typeW b.types).length≤11+34 * 3000:=by
  unfold listW
  have h1:=oH b.types.length
  have h2:=kK (l:=b.types) (by omega)
  rw [aZ]
  omega
 have g5:=fS (f:=localW t) (k:=22) (l:=b.locals) (fun x _=>by have h1:=dW (idxN x.name 0 t);have h2:=dW x.type;unfold localW nameW;rw [aZ];omega)
 have g6:=dW b.args
 have e:declW t b=putI (idxN b.name 0 t) ++ (listW (nameW t) b.regions ++ (listW pairW b.outl ++ (listW typeW b.types ++ (listW (localW t) b.locals ++ putI b.args)))):=rfl
 rw [e]
 simp only [aZ]
 omega
def exB:Bdy:=⟨⟨#[102]⟩,[⟨#[97]⟩],[],[⟨2,false,0,0,[]⟩],[⟨⟨#[120]⟩,0⟩],0,[⟨[],⟨2,[],[],⟨0,[]⟩,⟨#[]⟩⟩⟩]⟩
def exT:List ByteArray:=[⟨#[97]⟩,⟨#[102]⟩,⟨#[120]⟩]
def exL:List UInt8:=[1,1,0,0,1,2,1,2,0,0]
theorem xHK:chkB exB=0:=by decide
theorem zQ:declX exT exB=exL:=by decide
theorem xHI:declErr exT exB=0:=by decide
theorem xEF:tabB [] exT=exT:=by decide
theorem xHJ:(decS exT exL)=({ exB with blocks:=[] },0):=by decide
theorem nD {α : Type} {k:Nat} {R:Rd α} {W:World} {n:Nat} {x : α} (hn:n<W.heap.size) (h:R W W.heap.size n 0 x):Slc k R W (some ⟨n,0,none⟩) 1 [x]:=by
 refine ⟨fun _=>⟨n,0,rfl,hn,fun i y hi=>?_⟩,by simp,by omega⟩
 cases i with
 | zero=>
   simp only [List.getElem?_cons_zero,cJ] at hi
   subst hi
   rw [Nat.zero_mul]
   exact h
 | succ i=>simp at hi
theorem eF {W:World} {n:Nat} {vs:Array Value} {t:TypeId} (h:W.heap[n]?=some (.cells vs t (0,0))) (j:Nat):W.cell? ⟨n,j,none⟩=vs[j]?:=by
 simp [World.cell?,h]
theorem sD (A:Option Addr) (n c:Nat) (w:World):
 Calls Tryz.prog 14 #[.slice A n c,.pointer none] w (fun e' w'=>e' = .returned (.tuple #[.agg #[.string ⟨#[]⟩,.slice none 0 0,.slice none 0 0,.slice none 0 0,.slice none 0 0,.int .i64 0,.slice none 0 0],.int .i64 1])∧Below w.heap.size w w'):=by
 obtain ⟨W,hW⟩:∃W,w.alloc (.cells #[.string ⟨#[]⟩,.slice none 0 0,.slice none 0 0,.slice none 0 0,.slice none 0 0,.int .i64 0,.slice none 0 0] 28)=W:=⟨_,rfl⟩
 have hb:Below w.heap.size w W:=by rw [← hW];exact (aV _ _).alloc (aW _) _
 have hk:W.heap[w.heap.size]?=some (.cells #[.string ⟨#[]⟩,.slice none 0 0,.slice none 0 0,.slice none 0 0,.slice none 0 0,.int .i64 0,.slice none 0 0] 28 (0,0)):=by rw [← hW];exact heap_alloc_new w _
 obtain ⟨d0,d1,d2,d3,d4,d5,d6,d7⟩:=blk7 hk
 have d70:=d7 0
 have d71:=d7 1
 have d72:=d7 2
 have d73:=d7 3
 have d74:=d7 4
 have d75:=d7 5
 have d76:=d7 6
 have HB:=aF hb
 have HK:=aF hk
 clear hb hk d7
 go_enter Tryz.func14,Tryz.ntmps14
 go_wp2_with fail
 generalize hW7:((((((W.setCell ⟨w.heap.size,0,none⟩ (.string ⟨#[]⟩)).setCell ⟨w.heap.size,1,none⟩ (.slice none 0 0)).setCell ⟨w.heap.size,2,none⟩ (.slice none 0 0)).setCell ⟨w.heap.size,3,none⟩ (.slice none 0 0)).setCell ⟨w.heap.size,4,none⟩ (.slice none 0 0)).setCell ⟨w.heap.size,5,none⟩ (.int .i64 0)).setCell ⟨w.heap.size,6,none⟩ (.slice none 0 0)=W7
 have hW7':set7 W w.heap.size (.string ⟨#[]⟩) (.slice none 0 0) (.slice none 0 0) (.slice none 0 0) (.slice none 0 0) (.int .i64 0) (.slice none 0 0)=W7:=hW7
 have n:=kI (.string ⟨#[]⟩) (.slice none 0 0) (.slice none 0 0) (.slice none 0 0) (.slice none 0 0) (.int .i64 0) (.slice none 0 0) HK.out
 have hB7:Below w.heap.size w W7:=by
  rw [← hW7']
  exact jR _ _ _ _ _ _ _ HB.out (aW _)
 rw [hW7'] at n
 clear hW7 hW7'
 obtain ⟨u0,u1,u2,u3,u4,u5,u6,_⟩:=blk7 n
 refine bodyPost_ret (v:= .tuple #[.agg #[.string ⟨#[]⟩,.slice none 0 0,.slice none 0 0,.slice none 0 0,.slice none 0 0,.int .i64 0,.slice none 0 0],.int .i64 1]) (by simp [results,Tryz.results14,go_sem,u0,u1,u2,u3,u4,u5,u6] <;> rfl) rfl ?_
 exact ⟨rfl,hB7⟩
def exW1 (w:World):World:=w.alloc (.cells #[.string ⟨#[102]⟩,.slice (some ⟨w.heap.size+1,0,none⟩) 1 1,.slice none 0 0,.slice (some ⟨w.heap.size+1+1,0,none⟩) 1 1,.slice (some ⟨w.heap.size+1+1+1,0,none⟩) 1 1,.int .i64 0,.slice (some ⟨w.heap.size+1+1+1+1,0,none⟩) 1 1] 28)
def exW2 (w:World):World:=(exW1 w).alloc (.cells #[.string ⟨#[97]⟩] 9)
def exW3 (w:World):World:=(exW2 w).alloc (.cells #[.int .i64 2,.bool false,.int .i64 0,.int .i64 0,.slice none 0 0] 83)
def exW4 (w:World):World:=(exW3 w).alloc (.cells #[.string ⟨#[120]⟩,.int .i64 0] 87)
def exW5 (w:World):World:=(exW4 w).alloc (.cells #[.slice none 0 0,.int .i64 2,.slice none 0 0,.slice none 0 0,.int .i64 0,.slice none 0 0,.string ⟨#[]⟩] 60)
def exH (w:World):BH:=⟨some ⟨w.heap.size+1,0,none⟩,1,none,0,some ⟨w.heap.size+1+1,0,none⟩,1,some ⟨w.heap.size+1+1+1,0,none⟩,1,some ⟨w.heap.size+1+1+1+1,0,none⟩,1⟩
theorem mF (w:World) (o:Obj):(w.alloc o).heap.size=w.heap.size+1:=by simp
theorem eG (w:World) (o:Obj):Below w.heap.size w (w.alloc o):=(aV _ _).alloc (aW _) _
theorem zR (w:World):Below w.heap.size w (exW5 w):=by
 have h1:Below w.heap.size w (exW1 w):=eG _ _
 have h2:Below (exW1 w).heap.size (exW1 w) (exW2 w):=eG _ _
 have h3:Below (exW2 w).heap.size (exW2 w) (exW3 w):=eG _ _
 have h4:Below (exW3 w).heap.size (exW3 w) (exW4 w):=eG _ _
 have h5:Below (exW4 w).heap.size (exW4 w) (exW5 w):=eG _ _
 exact keep0 h5 (keep0 h4 (keep0 h3 (keep0 h2 h1)))
theorem xHL (w:World):BdAt (exW5 w) exB (exH w):=by
 have s1:(exW1 w).heap.size=w.heap.size+1:=mF _ _
 have s2:(exW2 w).heap.size=w.heap.size+1+1:=by rw [← s1];exact mF _ _
 have s3:(exW3 w).heap.size=w.heap.size+1+1+1:=by rw [← s2];exact mF _ _
 have s4:(exW4 w).heap.size=w.heap.size+1+1+1+1:=by rw [← s3];exact mF _ _
 have s5:(exW5 w).heap.size=w.heap.size+1+1+1+1+1:=by rw [← s4];exact mF _ _
 have h3:Below (exW2 w).heap.size (exW2 w) (exW3 w):=eG _ _
 have h4:Below (exW3 w).heap.size (exW3 w) (exW4 w):=eG _ _
 have h5:Below (exW4 w).heap.size (exW4 w) (exW5 w):=eG _ _
 have k2:(exW2 w).heap[w.heap.size+1]?=some (.cells #[.string ⟨#[97]⟩] 9 (0,0)):=by rw [← s1];exact heap_alloc_new _ _
 have k3:(exW3 w).heap[w.heap.size+1+1]?=some (.cells #[.int .i64 2,.bool false,.int .i64 0,.int .i64 0,.slice none 0 0] 83 (0,0)):=by rw [← s2];exact heap_alloc_new _ _
 have k4:(exW4 w).heap[w.heap.size+1+1+1]?=some (.cells #[.string ⟨#[120]⟩,.int .i64 0] 87 (0,0)):=by rw [← s3];exact heap_alloc_new _ _
 have k5:(exW5 w).heap[w.heap.size+1+1+1+1]?=some (.cells #[.slice none 0 0,.int .i64 2,.slice none 0 0,.slice none 0 0,.int .i64 0,.slice none 0 0,.string ⟨#[]⟩] 60 (0,0)):=by rw [← s4];exact heap_alloc_new _ _
 have k4':=(h5.block _ (by omega)).trans k4
 have k3':=(h5.block _ (by omega)).trans ((h4.block _ (by omega)).trans k3)
 have k2':=(h5.block _ (by omega)).trans ((h4.block _ (by omega)).trans ((h3.block _ (by omega)).trans k2))
 have nilS:∀{α : Type} {k:Nat} {R:Rd α} {B:Nat} {o:Nat},(exW5 w).cell? ⟨w.heap.size+1+1+1+1,o,none⟩=some (.slice none 0 0)→RSl k R (exW5 w) B (w.heap.size+1+1+1+1) o ([]:List α):=fun h=>⟨none,0,h,by simp,by omega,Sl.nil⟩
 exact ⟨nD (by omega) (eF k2' 0),⟨Sl.nil,by simp [exB,exH],by simp [exH]⟩,
  nD (by omega) ⟨eF k3' 0,eF k3' 1,eF k3' 2,eF k3' 3,none,0,eF k3' 4,by simp,by omega,Sl.nil⟩,
  nD (by omega) ⟨eF k4' 0,eF k4' 1⟩,
  nD (by omega) ⟨nilS (eF k5 0),eF k5 1,nilS (eF k5 2),nilS (eF k5 3),⟨eF k5 4,nilS (eF k5 5)⟩,eF k5 6⟩⟩
theorem sM (w:World):Calls Tryz.prog 27 #[] w (fun e' w'=>∃bh,e' = .returned (.agg (bdC exB bh).toArray)∧BdAt w' exB bh∧Below w.heap.size w w'):=by
 go_enter Tryz.func27,Tryz.ntmps27
 go_wp2_with fail
 change bodyPost _ _ _ _ _ (exW5 w)
 have hB:=zR w
 have hat:=xHL w
 have h2:Below (exW1 w).heap.size (exW1 w) (exW5 w):=keep0 (eG _ _) (keep0 (eG _ _) (keep0 (eG _ _) (eG _ _)))
 have k1:(exW5 w).heap[w.heap.size]?=some (.cells #[.string ⟨#[102]⟩,.slice (some ⟨w.heap.size+1,0,none⟩) 1 1,.slice none 0 0,.slice (some ⟨w.heap.size+1+1,0,none⟩) 1 1,.slice (some ⟨w.heap.size+1+1+1,0,none⟩) 1 1,.int .i64 0,.slice (some ⟨w.heap.size+1+1+1+1,0,none⟩) 1 1] 28 (0,0)):=(h2.block _ (by rw [show (exW1 w).heap.size=w.heap.size+1 from mF _ _];omega)).trans (heap_alloc_new _ _)
 obtain ⟨u0,u1,u2,u3,u4,u5,u6,_⟩:=blk7 k1
 generalize exW5 w=W at *
 refine bodyPost_ret (v:= .agg (bdC exB (exH w)).toArray) (by simp [results,Tryz.results27,go_sem,u0,u1,u2,u3,u4,u5,u6] <;> rfl) rfl ?_
 exact ⟨exH w,rfl,hat,hB⟩
end
end Go.Proofs.YtbnljlpefpllcaaGreatDoor
