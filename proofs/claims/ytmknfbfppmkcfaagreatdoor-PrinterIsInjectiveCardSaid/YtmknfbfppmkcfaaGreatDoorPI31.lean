/-
  Parts of the proof: Y71 Y72.
-/
import Derived.Test.YtmknfbfppmkcfaaGreatDoorPI0
import Derived.Test.YtmknfbfppmkcfaaGreatDoorPI26
import Derived.Test.YtmknfbfppmkcfaaGreatDoorPI10
namespace Go.Proofs.YtmknfbfppmkcfaaGreatDoor
set_option maxRecDepth 100000
set_option maxHeartbeats 16000000
section
open Go Go.RowKit
theorem sQ (xs ys:List Opd) (A B:Option Addr) (c d:Nat) (w:World) (hs:Slc 4 ROp w A c xs) (ht:Slc 4 ROp w B d ys):
 Calls Tryz.prog 105 #[.slice A xs.length c,.slice B ys.length d] w fun e' w'=>e' = .returned (.bool (decide (xs=ys)))/\Below w.heap.size w w':=by
 have hle:=hs.le;have hbg:=hs.big;have hle2:=ht.le;have hbg2:=ht.big;have HS:=aF hs;have HT:=aF ht;clear hs ht;obtain ⟨R,hR⟩:∃R,decide (xs=ys)=R:=⟨_,rfl⟩;rw [hR];have HR:=aF hR;clear hR;by_cases hl:xs.length=ys.length
 case neg=>
  have HF:Hid (R=false):=aF (by rw [<- HR.out];simp only [decide_eq_false_iff_not];intro h;exact hl (by rw [h]));have e1:((xs.length:Int) == (ys.length:Int))=false:=by simp;omega
  clear HR;go_enter Tryz.func105,Tryz.ntmps105
  go_wp2_with fail
  go_ret;exact ⟨by rw [HF.out];rfl,aX _ _⟩
 have e1:((xs.length:Int) != (ys.length:Int))=false:=by simp;omega
 have HL:=aF hl;clear hl;go_enter Tryz.func105,Tryz.ntmps105
 go_wp2_with fail
 go_loopw [5] (fun v wr=>∃i:Nat,i<=xs.length/\v = .int .i64 i/\Hid (xs.take i=ys.take i)/\Hid (Below w.heap.size w wr)) (fun v _=>xs.length - (intOf v).toNat)
 case atStart=>exact ⟨0,by omega,rfl,aF rfl,aF (aX _ _)⟩
 case round=>
  obtain ⟨i,hi,rfl,HE,HB⟩:=hrel;by_cases hlt:i<xs.length
  ·have hlt2:i<ys.length:=by have:=HL.out;omega
   obtain ⟨b,o,rfl,hb,x0,⟨x1,A0,c0,x2,h3,h4,h5⟩,x6⟩:=(HS.out.keep ROp.keeps HB.out).sl.at_ hlt;obtain ⟨b2,o2,rfl,hb2,y0,⟨y1,B0,d0,y2,k3,k4,k5⟩,y6⟩:=(HT.out.keep ROp.keeps HB.out).sl.at_ hlt2;have HN:=aF (gD HE.out hlt hlt2);have HD:Hid (xs[i]≠ys[i]->R=false):=aF (fun h=>by rw [<- HR.out];simp only [decide_eq_false_iff_not];intro hh;subst hh;exact h rfl);clear HE;generalize xs[i]=x at *;generalize ys[i]=y at *;have HC:=aF (fun (W:World) (hw:Below wr.heap.size wr W)=>gN x.place y.place A0 B0 c0 d0 W ((show Slc 2 RPj wr A0 c0 x.place.proj from ⟨h5,h3,h4⟩).keep RPj.keeps hw) ((show Slc 2 RPj wr B0 d0 y.place.proj from ⟨k5,k3,k4⟩).keep RPj.keeps hw));obtain ⟨kk,⟨l0,ps⟩,nn⟩:=x;obtain ⟨kk2,⟨l2,ps2⟩,nn2⟩:=y;simp only at x0 x1 x2 x6 y0 y1 y2 y6 HC;clear h3 h4 h5 k3 k4 k5;by_cases h1:kk=kk2
   case neg=>
    have HF:Hid (R=false):=aF (HD.out (fun h=>h1 (by injection h)));have e2:(kk != kk2)=true:=by simp [h1]
    clear HD HC HN HR h1;go_wp2_with fail
    go_quiet (fail)
    go_wp2_with fail
    go_ret;exact ⟨by rw [HF.out];rfl,by first | exact HB.out | exact aG HB.out _⟩
   subst h1;by_cases h2:nn=nn2
   case neg=>
    have HF:Hid (R=false):=aF (HD.out (fun h=>h2 (by injection h)));have e2:(nn != nn2)=true:=by simp [h2]
    clear HD HC HN HR h2;go_wp2_with fail
    go_quiet (fail)
    go_wp2_with fail
    go_ret;exact ⟨by rw [HF.out];rfl,by first | exact HB.out | exact aG HB.out _⟩
   subst h2;by_cases h3:(⟨l0,ps⟩:Plc)=⟨l2,ps2⟩
   case neg=>
    have HF:Hid (R=false):=aF (HD.out (fun h=>h3 (by injection h)))
    have HC2:Hid (∀(W:World) (hw:Below wr.heap.size wr W),Calls Tryz.prog 63 #[.agg #[.int .i64 l0,.slice A0 ps.length c0],.agg #[.int .i64 l2,.slice B0 ps2.length d0]] W fun e w'=>e = .returned (.bool false)/\Below W.heap.size W w'):=aF (fun W hw=>by
     have:=HC.out W hw;rw [decide_eq_false h3] at this;exact this)
    clear HD HC HN HR h3;go_wp2_with fail
    go_still_tail 35,(by kernel_rfl)
    change wpList _ _ _ _ _ wr.drew;go_wp2_with (go_at_call 63;refine (HC2.out _ (aX _ _).drew).mono ?_;rintro e' w3 ⟨rfl,hb3⟩;have HB3:=aF hb3;clear hb3)
    go_ret;exact ⟨by rw [HF.out];rfl,HB.out.drew.trans (HB3.out.mono HB.out.size)⟩
   have HN2:=aF (HN.out (by rw [h3]))
   have HC2:Hid (∀(W:World) (hw:Below wr.heap.size wr W),Calls Tryz.prog 63 #[.agg #[.int .i64 l0,.slice A0 ps.length c0],.agg #[.int .i64 l2,.slice B0 ps2.length d0]] W fun e w'=>e = .returned (.bool true)/\Below W.heap.size W w'):=aF (fun W hw=>by
    have:=HC.out W hw;rw [decide_eq_true h3] at this;exact this)
   clear HD HC HN h3;go_wp2_with fail
   go_still_tail 35,(by kernel_rfl)
   change wpList _ _ _ _ _ wr.drew;go_wp2_with (go_at_call 63;refine (HC2.out _ (aX _ _).drew).mono ?_;rintro e' w3 ⟨rfl,hb3⟩;have HB3:=aF hb3;clear hb3)
   go_roundw
   case rel=>exact ⟨i+1,by omega,by go_num,HN2,aF (HB.out.drew.trans (HB3.out.mono HB.out.size))⟩
   case measure=>simp [intOf];omega
  ·have HF:Hid (R=true):=aF (by rw [<- HR.out];simp only [decide_eq_true_eq];exact fJ HE.out (by omega) (by have:=HL.out;omega));go_wp2_with fail
   go_ret;exact ⟨by rw [HF.out];rfl,HB.out⟩
theorem xBK (k k2 l l2 q q2 op op2 rg rg2:Int) (mu mu2:Bool) (p p2 r r2:Plc) (xs ys:List Opd) (A0 B0 A1 B1 A2 B2:Option Addr) (c0 d0 c1 d1 c2 d2:Nat) (w:World)
 (hp:Slc 2 RPj w A0 c0 p.proj) (hp2:Slc 2 RPj w B0 d0 p2.proj) (hr:Slc 2 RPj w A1 c1 r.proj) (hr2:Slc 2 RPj w B1 d1 r2.proj) (hx:Slc 4 ROp w A2 c2 xs) (hy:Slc 4 ROp w B2 d2 ys):
 Calls Tryz.prog 103 #[.agg #[.int .i64 k,.int .i64 p.loc,.slice A0 p.proj.length c0,.int .i64 q,.int .i64 op,.int .i64 rg,.bool mu,.int .i64 r.loc,.slice A1 r.proj.length c1,.slice A2 xs.length c2,.int .i64 l],
  .agg #[.int .i64 k2,.int .i64 p2.loc,.slice B0 p2.proj.length d0,.int .i64 q2,.int .i64 op2,.int .i64 rg2,.bool mu2,.int .i64 r2.loc,.slice B1 r2.proj.length d1,.slice B2 ys.length d2,.int .i64 l2]] w fun e' w'=>
  e' = .returned (.bool (decide (k=k2) && decide (l=l2) && decide (p=p2) && decide (q=q2) && decide (op=op2) && decide (rg=rg2) && decide (mu=mu2) && decide (r=r2) && decide (xs=ys)))/\Below w.heap.size w w':=by
 have HP:=aF (fun (W:World) (hw:Below w.heap.size w W)=>gN p p2 A0 B0 c0 d0 W (hp.keep RPj.keeps hw) (hp2.keep RPj.keeps hw));have HQ:=aF (fun (W:World) (hw:Below w.heap.size w W)=>gN r r2 A1 B1 c1 d1 W (hr.keep RPj.keeps hw) (hr2.keep RPj.keeps hw));have HO:=aF (fun (W:World) (hw:Below w.heap.size w W)=>sQ xs ys A2 B2 c2 d2 W (hx.keep ROp.keeps hw) (hy.keep ROp.keeps hw));obtain ⟨b1,e1⟩:∃b,decide (p=p2)=b:=⟨_,rfl⟩;obtain ⟨b2,e2⟩:∃b,decide (r=r2)=b:=⟨_,rfl⟩;obtain ⟨b3,e3⟩:∃b,decide (xs=ys)=b:=⟨_,rfl⟩;rw [e1] at HP;rw [e2] at HQ;rw [e3] at HO;rw [e1,e2,e3];clear e1 e2 e3 hp hp2 hr hr2 hx hy;obtain ⟨W,hW⟩:∃W,(((w.alloc (.cells #[.int .i64 k,.int .i64 p.loc,.slice A0 p.proj.length c0,.int .i64 q,.int .i64 op,.int .i64 rg,.bool mu,.int .i64 r.loc,.slice A1 r.proj.length c1,.slice A2 xs.length c2,.int .i64 l] 87)).alloc (.cells #[.int .i64 k2,.int .i64 p2.loc,.slice B0 p2.proj.length d0,.int .i64 q2,.int .i64 op2,.int .i64 rg2,.bool mu2,.int .i64 r2.loc,.slice B1 r2.proj.length d1,.slice B2 ys.length d2,.int .i64 l2] 87)).alloc (.cells #[.int .i64 q,.int .i64 op,.int .i64 rg,.bool mu,.int .i64 r.loc,.slice A1 r.proj.length c1,.slice A2 xs.length c2] 85)).alloc (.cells #[.int .i64 q2,.int .i64 op2,.int .i64 rg2,.bool mu2,.int .i64 r2.loc,.slice B1 r2.proj.length d1,.slice B2 ys.length d2] 85)=W:=⟨_,rfl⟩;have HB:=aF (show Below w.heap.size w W from by rw [<- hW];exact aH);have a0:W.cell? ⟨w.heap.size,0,none⟩=some (.int .i64 k):=by rw [<- hW];clear hW;go_simp
 have a1:W.cell? ⟨w.heap.size,1,none⟩=some (.int .i64 p.loc):=by rw [<- hW];clear hW;go_simp
 have a2:W.cell? ⟨w.heap.size,2,none⟩=some (.slice A0 p.proj.length c0):=by rw [<- hW];clear hW;go_simp
 have a10:W.cell? ⟨w.heap.size,10,none⟩=some (.int .i64 l):=by rw [<- hW];clear hW;go_simp
 have z0:W.cell? ⟨w.heap.size+1,0,none⟩=some (.int .i64 k2):=by rw [<- hW];clear hW;go_simp
 have z1:W.cell? ⟨w.heap.size+1,1,none⟩=some (.int .i64 p2.loc):=by rw [<- hW];clear hW;go_simp
 have z2:W.cell? ⟨w.heap.size+1,2,none⟩=some (.slice B0 p2.proj.length d0):=by rw [<- hW];clear hW;go_simp
 have z10:W.cell? ⟨w.heap.size+1,10,none⟩=some (.int .i64 l2):=by rw [<- hW];clear hW;go_simp
 have x0:W.cell? ⟨w.heap.size+1+1,0,none⟩=some (.int .i64 q):=by rw [<- hW];clear hW;go_simp
 have x1:W.cell? ⟨w.heap.size+1+1,1,none⟩=some (.int .i64 op):=by rw [<- hW];clear hW;go_simp
 have x2:W.cell? ⟨w.heap.size+1+1,2,none⟩=some (.int .i64 rg):=by rw [<- hW];clear hW;go_simp
 have x3:W.cell? ⟨w.heap.size+1+1,3,none⟩=some (.bool mu):=by rw [<- hW];clear hW;go_simp
 have x4:W.cell? ⟨w.heap.size+1+1,4,none⟩=some (.int .i64 r.loc):=by rw [<- hW];clear hW;go_simp
 have x5:W.cell? ⟨w.heap.size+1+1,5,none⟩=some (.slice A1 r.proj.length c1):=by rw [<- hW];clear hW;go_simp
 have x6:W.cell? ⟨w.heap.size+1+1,6,none⟩=some (.slice A2 xs.length c2):=by rw [<- hW];clear hW;go_simp
 have y0:W.cell? ⟨w.heap.size+1+1+1,0,none⟩=some (.int .i64 q2):=by rw [<- hW];clear hW;go_simp
 have y1:W.cell? ⟨w.heap.size+1+1+1,1,none⟩=some (.int .i64 op2):=by rw [<- hW];clear hW;go_simp
 have y2:W.cell? ⟨w.heap.size+1+1+1,2,none⟩=some (.int .i64 rg2):=by rw [<- hW];clear hW;go_simp
 have y3:W.cell? ⟨w.heap.size+1+1+1,3,none⟩=some (.bool mu2):=by rw [<- hW];clear hW;go_simp
 have y4:W.cell? ⟨w.heap.size+1+1+1,4,none⟩=some (.int .i64 r2.loc):=by rw [<- hW];clear hW;go_simp
 have y5:W.cell? ⟨w.heap.size+1+1+1,5,none⟩=some (.slice B1 r2.proj.length d1):=by rw [<- hW];clear hW;go_simp
 have y6:W.cell? ⟨w.heap.size+1+1+1,6,none⟩=some (.slice B2 ys.length d2):=by rw [<- hW];clear hW;go_simp
 have HP0:=aF (HP.out W HB.out);clear HP;obtain ⟨R,hR⟩:∃R,(decide (k=k2) && decide (l=l2) && b1 && decide (q=q2) && decide (op=op2) && decide (rg=rg2) && decide (mu=mu2) && b2 && b3)=R:=⟨_,rfl⟩;rw [hR];by_cases h1:k=k2
 case neg=>
  have e0:(k == k2)=false:=by simp [h1]
  have HF:Hid (R=false):=aF (by rw [<- hR];simp [h1]);clear hR;go_enter Tryz.func103,Tryz.ntmps103
  go_wp2_with fail
  go_ret;exact ⟨by rw [HF.out];rfl,HB.out⟩
 subst h1;by_cases h2:l=l2
 case neg=>
  have e0:(l == l2)=false:=by simp [h2]
  have HF:Hid (R=false):=aF (by rw [<- hR];simp [h2]);clear hR;go_enter Tryz.func103,Tryz.ntmps103
  go_wp2_with fail
  go_ret;exact ⟨by rw [HF.out];rfl,HB.out⟩
 subst h2;cases b1
 case false=>
  have HF:Hid (R=false):=aF (by rw [<- hR];simp);clear hR;go_enter Tryz.func103,Tryz.ntmps103
  go_wp2_with fail
  refine HP0.out.mono ?_;rintro e' w1 ⟨rfl,hb1⟩;replace x0:=cM hb1 x0;replace x1:=cM hb1 x1;replace x2:=cM hb1 x2;replace x3:=cM hb1 x3;replace x4:=cM hb1 x4;replace x5:=cM hb1 x5;replace x6:=cM hb1 x6;replace y0:=cM hb1 y0;replace y1:=cM hb1 y1;replace y2:=cM hb1 y2;replace y3:=cM hb1 y3;replace y4:=cM hb1 y4;replace y5:=cM hb1 y5;replace y6:=cM hb1 y6;have HB1:=aF (HB.out.trans (hb1.mono HB.out.size));clear hb1;go_wp2_with fail
  go_ret;exact ⟨by rw [HF.out];rfl,HB1.out⟩
 by_cases h3:q=q2
 case neg=>
  have e0:(q == q2)=false:=by simp [h3]
  have HF:Hid (R=false):=aF (by rw [<- hR];simp [h3]);clear hR;go_enter Tryz.func103,Tryz.ntmps103
  go_wp2_with fail
  refine HP0.out.mono ?_;rintro e' w1 ⟨rfl,hb1⟩;replace x0:=cM hb1 x0;replace x1:=cM hb1 x1;replace x2:=cM hb1 x2;replace x3:=cM hb1 x3;replace x4:=cM hb1 x4;replace x5:=cM hb1 x5;replace x6:=cM hb1 x6;replace y0:=cM hb1 y0;replace y1:=cM hb1 y1;replace y2:=cM hb1 y2;replace y3:=cM hb1 y3;replace y4:=cM hb1 y4;replace y5:=cM hb1 y5;replace y6:=cM hb1 y6;have HB1:=aF (HB.out.trans (hb1.mono HB.out.size));clear hb1;go_wp2_with fail
  go_ret;exact ⟨by rw [HF.out];rfl,HB1.out⟩
 subst h3;by_cases h4:op=op2
 case neg=>
  have e0:(op == op2)=false:=by simp [h4]
  have HF:Hid (R=false):=aF (by rw [<- hR];simp [h4]);clear hR;go_enter Tryz.func103,Tryz.ntmps103
  go_wp2_with fail
  refine HP0.out.mono ?_;rintro e' w1 ⟨rfl,hb1⟩;replace x0:=cM hb1 x0;replace x1:=cM hb1 x1;replace x2:=cM hb1 x2;replace x3:=cM hb1 x3;replace x4:=cM hb1 x4;replace x5:=cM hb1 x5;replace x6:=cM hb1 x6;replace y0:=cM hb1 y0;replace y1:=cM hb1 y1;replace y2:=cM hb1 y2;replace y3:=cM hb1 y3;replace y4:=cM hb1 y4;replace y5:=cM hb1 y5;replace y6:=cM hb1 y6;have HB1:=aF (HB.out.trans (hb1.mono HB.out.size));clear hb1;go_wp2_with fail
  go_ret;exact ⟨by rw [HF.out];rfl,HB1.out⟩
 subst h4;by_cases h5:rg=rg2
 case neg=>
  have e0:(rg == rg2)=false:=by simp [h5]
  have HF:Hid (R=false):=aF (by rw [<- hR];simp [h5]);clear hR;go_enter Tryz.func103,Tryz.ntmps103
  go_wp2_with fail
  refine HP0.out.mono ?_;rintro e' w1 ⟨rfl,hb1⟩;replace x0:=cM hb1 x0;replace x1:=cM hb1 x1;replace x2:=cM hb1 x2;replace x3:=cM hb1 x3;replace x4:=cM hb1 x4;replace x5:=cM hb1 x5;replace x6:=cM hb1 x6;replace y0:=cM hb1 y0;replace y1:=cM hb1 y1;replace y2:=cM hb1 y2;replace y3:=cM hb1 y3;replace y4:=cM hb1 y4;replace y5:=cM hb1 y5;replace y6:=cM hb1 y6;have HB1:=aF (HB.out.trans (hb1.mono HB.out.size));clear hb1;go_wp2_with fail
  go_ret;exact ⟨by rw [HF.out];rfl,HB1.out⟩
 subst h5;by_cases h6:mu=mu2
 case neg=>
  have hmm:(mu=true/\mu2=false)\/(mu=false/\mu2=true):=by revert h6;cases mu <;> cases mu2 <;> simp
  rcases hmm with ⟨rfl,rfl⟩ | ⟨rfl,rfl⟩
  all_goals
   have HF:Hid (R=false):=aF (by rw [<- hR];simp);clear hR;go_enter Tryz.func103,Tryz.ntmps103
   go_wp2_with fail
   refine HP0.out.mono ?_;rintro e' w1 ⟨rfl,hb1⟩;replace x0:=cM hb1 x0;replace x1:=cM hb1 x1;replace x2:=cM hb1 x2;replace x3:=cM hb1 x3;replace x4:=cM hb1 x4;replace x5:=cM hb1 x5;replace x6:=cM hb1 x6;replace y0:=cM hb1 y0;replace y1:=cM hb1 y1;replace y2:=cM hb1 y2;replace y3:=cM hb1 y3;replace y4:=cM hb1 y4;replace y5:=cM hb1 y5;replace y6:=cM hb1 y6;have HB1:=aF (HB.out.trans (hb1.mono HB.out.size));clear hb1;go_wp2_with fail
   go_ret;exact ⟨by rw [HF.out];rfl,HB1.out⟩
 subst h6;cases b2
 case false=>
  have HF:Hid (R=false):=aF (by rw [<- hR];simp);clear hR;go_enter Tryz.func103,Tryz.ntmps103
  go_wp2_with fail
  refine HP0.out.mono ?_;rintro e' w1 ⟨rfl,hb1⟩;replace x0:=cM hb1 x0;replace x1:=cM hb1 x1;replace x2:=cM hb1 x2;replace x3:=cM hb1 x3;replace x4:=cM hb1 x4;replace x5:=cM hb1 x5;replace x6:=cM hb1 x6;replace y0:=cM hb1 y0;replace y1:=cM hb1 y1;replace y2:=cM hb1 y2;replace y3:=cM hb1 y3;replace y4:=cM hb1 y4;replace y5:=cM hb1 y5;replace y6:=cM hb1 y6;have HB1:=aF (HB.out.trans (hb1.mono HB.out.size));clear hb1;go_wp2_with fail
  refine (HQ.out _ HB1.out).mono ?_;rintro e' w2 ⟨rfl,hb2⟩;replace x6:=cM hb2 x6;replace y6:=cM hb2 y6;have HB2:=aF (HB1.out.trans (hb2.mono HB1.out.size));clear hb2;go_wp2_with fail
  go_ret;exact ⟨by rw [HF.out];rfl,HB2.out⟩
 have HF:Hid (R=b3):=aF (by rw [<- hR];simp);clear hR;go_enter Tryz.func103,Tryz.ntmps103
 go_wp2_with fail
 refine HP0.out.mono ?_;rintro e' w1 ⟨rfl,hb1⟩;replace x0:=cM hb1 x0;replace x1:=cM hb1 x1;replace x2:=cM hb1 x2;replace x3:=cM hb1 x3;replace x4:=cM hb1 x4;replace x5:=cM hb1 x5;replace x6:=cM hb1 x6;replace y0:=cM hb1 y0;replace y1:=cM hb1 y1;replace y2:=cM hb1 y2;replace y3:=cM hb1 y3;replace y4:=cM hb1 y4;replace y5:=cM hb1 y5;replace y6:=cM hb1 y6;have HB1:=aF (HB.out.trans (hb1.mono HB.out.size));clear hb1;go_wp2_with fail
 refine (HQ.out _ HB1.out).mono ?_;rintro e' w2 ⟨rfl,hb2⟩;replace x6:=cM hb2 x6;replace y6:=cM hb2 y6;have HB2:=aF (HB1.out.trans (hb2.mono HB1.out.size));clear hb2;go_wp2_with fail
 refine (HO.out _ HB2.out).mono ?_;rintro e' w3 ⟨rfl,hb3⟩;have HB3:=aF (HB2.out.trans (hb3.mono HB2.out.size));clear hb3;go_wp2_with fail
 go_ret;exact ⟨by rw [HF.out];rfl,HB3.out⟩
end
end Go.Proofs.YtmknfbfppmkcfaaGreatDoor
