/-
  Parts of the proof: V38C V38D V38N V38O V38E V39I V39C V39D V39O V39E V40 O1.
-/
import Derived.Test.YtbnljlpefpllcaaGreatDoorME0
import Derived.Test.YtbnljlpefpllcaaGreatDoorME17
import Derived.Test.YtbnljlpefpllcaaGreatDoorME5
import Derived.Test.YtbnljlpefpllcaaGreatDoorME15
import Derived.Test.YtbnljlpefpllcaaGreatDoorME14
import Derived.Test.YtbnljlpefpllcaaGreatDoorRows
import Derived.Test.YtbnljlpefpllcaaGreatDoorME1
import Derived.ProofKit
import Derived.Below
import Derived.Deep.Slices
import Derived.Deep.Fields
import Derived.Lib.SmallJoins
import Derived.OpenShut
import Derived.LaidMore
import Derived.Stop.Joined
import Derived.Stop.LaidErr
import Derived.Lay
import Derived.SevenTiedAt
namespace Go.Proofs.YtbnljlpefpllcaaGreatDoor
set_option maxRecDepth 100000
set_option maxHeartbeats 16000000
section
open Go Go.RowKit Go.Maps
theorem xBS {b:Bdy} {bh:BH} {r:Nat} {w:World} (H:Ck w b bh r) (hT:TabsOk w) (s:Stm) (A0 A B:Option Addr) (c0 c d:Nat) (hp0:Slc 2 RPj w A0 c0 s.place.proj) (hp:Slc 2 RPj w A c s.rv.place.proj) (hl:Slc 4 ROp w B d s.rv.args) (hk:s.kind=0) (hloc:s.loc=0) (hw:writE b s.place=0):
 Calls Tryz.prog 79 #[.agg (ckC b bh r).toArray,.agg (stC s A0 c0 A c B d).toArray] w fun e' w'=>e' = .returned (.int .i64 (stE b s))∧Below w.heap.size w w':=by
 have HZZ:=aF fI
 have HH:=aF H
 have HT:=aF hT
 have HP0:=aF hp0
 have HP:=aF hp
 have HL:=aF hl
 have hle:=hl.le
 have hbig:=hl.big
 have hlocl:=H.at_.loc.le
 have hlocb:=H.at_.loc.big
 obtain ⟨R,hR⟩:∃R,stE b s=R:=⟨_,rfl⟩
 rw [hR]
 have HR:=aF hR
 obtain ⟨q1,hq1⟩:∃q,zeroP s.place=q:=⟨_,rfl⟩
 obtain ⟨q2,hq2⟩:∃q,(s.rv.kind == 0)=q:=⟨_,rfl⟩
 obtain ⟨q3,hq3⟩:∃q,(s.rv.op == 0)=q:=⟨_,rfl⟩
 obtain ⟨q4,hq4⟩:∃q,((s.rv.args.length:Int) == 0)=q:=⟨_,rfl⟩
 obtain ⟨q5,hq5⟩:∃q,(s.rv.reg == 0)=q:=⟨_,rfl⟩
 obtain ⟨q6,hq6⟩:∃q,s.rv.mu=q:=⟨_,rfl⟩
 obtain ⟨q7,hq7⟩:∃q,zeroP s.rv.place=q:=⟨_,rfl⟩
 have HBL:Hid (blankR s.rv=(q2 && q3 && q4 && q5 && !q6 && q7)):=aF (by
  unfold blankR
  rw [← hq2,← hq3,← hq4,← hq5,← hq6,← hq7,fA]
  rfl)
 have HQ1:=aF hq1
 have HQ7:=aF hq7
 have HQ2:=aF hq2
 have HQ3:=aF hq3
 have HQ4:=aF hq4
 have HQ5:=aF hq5
 have HQ6:=aF hq6
 clear hq1 hq2 hq3 hq4 hq5 hq7
 have HF:Hid (R=rvE b s.rv (tyB b s.place).1):=aF (by rw [← HR.out,stE,aY hk,aX (by simp [hloc]),aX (by simp [hw])])
 have e1:(s.loc != 0)=false:=by simp [hloc]
 have HW:=aF (fun (W:World) (hb:Below w.heap.size w W)=>gM b bh r s.place A0 c0 W (HH.out.keep hb).at_ (HP0.out.keep RPj.keeps hb) HH.out.ok.okay)
 have hte:(tyB b s.place).2=0:=by
  unfold writE at hw
  by_cases h:(tyB b s.place).2≠0
  ·rw [aY h] at hw;exact hw
  ·simpa using h
 have hin:=gO H.ok.okay (l:=s.place.loc) (ps:=s.place.proj) hte
 change 0≤(tyB b s.place).1∧(tyB b s.place).1<b.types.length at hin
 rw [hw] at HW
 obtain ⟨t,htt⟩:=bF hin.1
 have hin2:=hin.2
 rw [htt] at HF HW hin2
 have HRV0:=aF (fun (W:World) (hb:Below w.heap.size w W)=>uZ (HH.out.keep hb) (HT.out.keep hb) s.rv t (by omega) A B c d (HP.out.keep RPj.keeps hb) (HL.out.keep ROp.keeps hb))
 unfold rvC at HRV0
 rw [hq6] at HRV0
 have HRV:=HRV0
 clear HBL hloc hw hte hin hin2 htt HRV0
 clear HR hR H hT hp0 hp hl
 rcases (show q1=false∨(q1=true∧q2=false)∨(q1=true∧q2=true∧q3=false)∨(q1=true∧q2=true∧q3=true∧q4=false)∨(q1=true∧q2=true∧q3=true∧q4=true∧q5=false)∨(q1=true∧q2=true∧q3=true∧q4=true∧q5=true∧q6=true)∨(q1=true∧q2=true∧q3=true∧q4=true∧q5=true∧q6=false) by cases q1 <;> cases q2 <;> cases q3 <;> cases q4 <;> cases q5 <;> cases q6 <;> simp) with rfl | ⟨rfl,rfl⟩ | ⟨rfl,rfl,rfl⟩ | ⟨rfl,rfl,rfl,rfl⟩ | ⟨rfl,rfl,rfl,rfl,rfl⟩ | ⟨rfl,rfl,rfl,rfl,rfl,rfl⟩ | ⟨rfl,rfl,rfl,rfl,rfl,rfl⟩
 all_goals
  have g2:=HQ2.out
  have g3:=HQ3.out
  have g4:=HQ4.out
  have g5:=HQ5.out
  have g6:=HQ6.out
  unfold ckC at *
  unfold stC
  rw [hk]
  go_enter Tryz.func79,Tryz.ntmps79
  go_wp2_with (first | (go_at_call 124;refine (HZZ.out _ _ _ _).mono ?_;rintro e' w2 ⟨rfl,hb2⟩;rw [HQ7.out];have HB2:=aF (HB.out.trans (hb2.mono HB.out.size));have HY2:=aF (cells_kept HY.out hb2);have HZ3:=aF (cells_kept HZ.out hb2);have HU2:=aF (cells_kept HU.out hb2);clear y0 y1 y2 y3 y4 y5 y6 y7 z0 z1 z2 z10 u0 u1 u2 u3 u4 u5 u6 HY HZ HU HB;have HB:=HB2;have HY:=HY2;have HZ:=HZ3;have HU:=HU2;obtain ⟨y0,y1,y2,y3,y4,y5,y6,y7⟩:=aR HY.out;obtain ⟨z0,z1,z2,-,-,-,-,-,-,-,z10⟩:=aU HZ.out;obtain ⟨u0,u1,u2,u3,u4,u5,u6⟩:=aQ HU.out;clear hb2 HB2 HY2 HZ3 HU2) | (go_at_call 124;refine (HZZ.out _ _ _ _).mono ?_;rintro e' w1 ⟨rfl,hb1⟩;rw [HQ1.out];have HB:=aF ((bel3 _ _ _ _).trans (hb1.mono (bel3 _ _ _ _).size));obtain ⟨y,z,u⟩:=dK hb1;have HY:=aF y;have HZ:=aF z;have HU:=aF u;obtain ⟨y0,y1,y2,y3,y4,y5,y6,y7⟩:=aR HY.out;obtain ⟨z0,z1,z2,-,-,-,-,-,-,-,z10⟩:=aU HZ.out;obtain ⟨u0,u1,u2,u3,u4,u5,u6⟩:=aQ HU.out;clear y z u hb1) | (go_at_call 125;refine (HW.out _ HB.out).mono ?_;rintro e' w3 ⟨rfl,hb3⟩;have HBW:=aF (HB.out.trans (hb3.mono HB.out.size));have HY3:=aF (cells_kept HY.out hb3);have HU3:=aF (cells_kept HU.out hb3);clear y0 y1 y2 y3 y4 y5 y6 y7 u0 u1 u2 u3 u4 u5 u6;obtain ⟨y0,y1,y2,y3,y4,y5,y6,y7⟩:=aR HY3.out;obtain ⟨u0,u1,u2,u3,u4,u5,u6⟩:=aQ HU3.out;clear hb3) | (go_at_call 126;refine (HRV.out _ HBW.out).mono ?_;rintro e' w4 ⟨rfl,hb4⟩;have HBW2:=aF (HBW.out.trans (hb4.mono HBW.out.size));clear hb4))
  all_goals first
   | (exfalso;omega)
   | (go_ret;exact ⟨by rw [HF.out];rfl,by first | exact HBW2.out | exact HBW.out | exact HB.out⟩)
theorem xQ {b:Bdy} {bh:BH} {r:Nat} {w:World} (H:Ck w b bh r) (hT:TabsOk w) (s:Stm) (A0 A B:Option Addr) (c0 c d:Nat) (hp0:Slc 2 RPj w A0 c0 s.place.proj) (hp:Slc 2 RPj w A c s.rv.place.proj) (hl:Slc 4 ROp w B d s.rv.args) (hk:s.kind=1):
 Calls Tryz.prog 79 #[.agg (ckC b bh r).toArray,.agg (stC s A0 c0 A c B d).toArray] w fun e' w'=>e' = .returned (.int .i64 (stE b s))∧Below w.heap.size w w':=by
 have HZZ:=aF fI
 have HH:=aF H
 have HT:=aF hT
 have HP0:=aF hp0
 have HP:=aF hp
 have HL:=aF hl
 have hle:=hl.le
 have hbig:=hl.big
 have hlocl:=H.at_.loc.le
 have hlocb:=H.at_.loc.big
 obtain ⟨R,hR⟩:∃R,stE b s=R:=⟨_,rfl⟩
 rw [hR]
 have HR:=aF hR
 obtain ⟨q1,hq1⟩:∃q,zeroP s.place=q:=⟨_,rfl⟩
 obtain ⟨q2,hq2⟩:∃q,(s.rv.kind == 0)=q:=⟨_,rfl⟩
 obtain ⟨q3,hq3⟩:∃q,(s.rv.op == 0)=q:=⟨_,rfl⟩
 obtain ⟨q4,hq4⟩:∃q,((s.rv.args.length:Int) == 0)=q:=⟨_,rfl⟩
 obtain ⟨q5,hq5⟩:∃q,(s.rv.reg == 0)=q:=⟨_,rfl⟩
 obtain ⟨q6,hq6⟩:∃q,s.rv.mu=q:=⟨_,rfl⟩
 obtain ⟨q7,hq7⟩:∃q,zeroP s.rv.place=q:=⟨_,rfl⟩
 have HBL:Hid (blankR s.rv=(q2 && q3 && q4 && q5 && !q6 && q7)):=aF (by
  unfold blankR
  rw [← hq2,← hq3,← hq4,← hq5,← hq6,← hq7,fA]
  rfl)
 have HQ1:=aF hq1
 have HQ7:=aF hq7
 have HQ2:=aF hq2
 have HQ3:=aF hq3
 have HQ4:=aF hq4
 have HQ5:=aF hq5
 have HQ6:=aF hq6
 clear hq1 hq2 hq3 hq4 hq5 hq7
 have HF0:Hid (R=if q1=false∨(q2 && q3 && q4 && q5 && !q6 && q7)=false then 2 else if s.loc<0∨(b.locals.length:Int)≤s.loc then 3 else 0):=aF (by rw [← HR.out,stE,aX (by omega),aY hk,HBL.out,HQ1.out])
 clear HBL
 clear HR hR H hT hp0 hp hl
 by_cases hall:q1=true∧q2=true∧q3=true∧q4=true∧q5=true∧q6=false
 case' neg=>
  have HF:Hid (R=2):=aF (by rw [HF0.out,aY];revert hall;cases q1 <;> cases q2 <;> cases q3 <;> cases q4 <;> cases q5 <;> cases q6 <;> simp)
  clear HF0
  rcases (show q1=false∨(q1=true∧q2=false)∨(q1=true∧q2=true∧q3=false)∨(q1=true∧q2=true∧q3=true∧q4=false)∨(q1=true∧q2=true∧q3=true∧q4=true∧q5=false)∨(q1=true∧q2=true∧q3=true∧q4=true∧q5=true∧q6=true) by revert hall;cases q1 <;> cases q2 <;> cases q3 <;> cases q4 <;> cases q5 <;> cases q6 <;> simp) with rfl | ⟨rfl,rfl⟩ | ⟨rfl,rfl,rfl⟩ | ⟨rfl,rfl,rfl,rfl⟩ | ⟨rfl,rfl,rfl,rfl,rfl⟩ | ⟨rfl,rfl,rfl,rfl,rfl,rfl⟩
  all_goals
   clear hall
 case' pos=>
  obtain ⟨rfl,rfl,rfl,rfl,rfl,rfl⟩:=hall
  cases q7
  case' false=>
   have HF:Hid (R=2):=aF (by rw [HF0.out];simp)
   clear HF0
  case' true=>
   by_cases hlo:s.loc<0∨(b.locals.length:Int)≤s.loc
   case' pos=>
    have HF:Hid (R=3):=aF (by rw [HF0.out];simp [hlo];try omega)
    skip
    clear HF0
   case' neg=>
    have HF:Hid (R=0):=aF (by rw [HF0.out];simp [hlo];try omega)
    have e5:¬s.loc<0:=by omega
    have e6:¬(b.locals.length:Int)≤s.loc:=by omega
    clear hlo
    clear HF0
 all_goals
  have g2:=HQ2.out
  have g3:=HQ3.out
  have g4:=HQ4.out
  have g5:=HQ5.out
  have g6:=HQ6.out
  unfold ckC at *
  unfold stC
  rw [hk]
  go_enter Tryz.func79,Tryz.ntmps79
  go_wp2_with (first | (go_at_call 124;refine (HZZ.out _ _ _ _).mono ?_;rintro e' w2 ⟨rfl,hb2⟩;rw [HQ7.out];have HB2:=aF (HB.out.trans (hb2.mono HB.out.size));have HY2:=aF (cells_kept HY.out hb2);have HZ3:=aF (cells_kept HZ.out hb2);have HU2:=aF (cells_kept HU.out hb2);clear y0 y1 y2 y3 y4 y5 y6 y7 z0 z1 z2 z10 u0 u1 u2 u3 u4 u5 u6 HY HZ HU HB;have HB:=HB2;have HY:=HY2;have HZ:=HZ3;have HU:=HU2;obtain ⟨y0,y1,y2,y3,y4,y5,y6,y7⟩:=aR HY.out;obtain ⟨z0,z1,z2,-,-,-,-,-,-,-,z10⟩:=aU HZ.out;obtain ⟨u0,u1,u2,u3,u4,u5,u6⟩:=aQ HU.out;clear hb2 HB2 HY2 HZ3 HU2) | (go_at_call 124;refine (HZZ.out _ _ _ _).mono ?_;rintro e' w1 ⟨rfl,hb1⟩;rw [HQ1.out];have HB:=aF ((bel3 _ _ _ _).trans (hb1.mono (bel3 _ _ _ _).size));obtain ⟨y,z,u⟩:=dK hb1;have HY:=aF y;have HZ:=aF z;have HU:=aF u;obtain ⟨y0,y1,y2,y3,y4,y5,y6,y7⟩:=aR HY.out;obtain ⟨z0,z1,z2,-,-,-,-,-,-,-,z10⟩:=aU HZ.out;obtain ⟨u0,u1,u2,u3,u4,u5,u6⟩:=aQ HU.out;clear y z u hb1))
  all_goals first
   | (exfalso;omega)
   | (go_ret;exact ⟨by rw [HF.out];rfl,HB.out⟩)
theorem xBQ {b:Bdy} {bh:BH} {r:Nat} {w:World} (H:Ck w b bh r) (hT:TabsOk w) (s:Stm) (A0 A B:Option Addr) (c0 c d:Nat) (hp0:Slc 2 RPj w A0 c0 s.place.proj) (hp:Slc 2 RPj w A c s.rv.place.proj) (hl:Slc 4 ROp w B d s.rv.args) (hk:s.kind=2):
 Calls Tryz.prog 79 #[.agg (ckC b bh r).toArray,.agg (stC s A0 c0 A c B d).toArray] w fun e' w'=>e' = .returned (.int .i64 (stE b s))∧Below w.heap.size w w':=by
 have HZZ:=aF fI
 have HH:=aF H
 have HT:=aF hT
 have HP0:=aF hp0
 have HP:=aF hp
 have HL:=aF hl
 have hle:=hl.le
 have hbig:=hl.big
 have hlocl:=H.at_.loc.le
 have hlocb:=H.at_.loc.big
 obtain ⟨R,hR⟩:∃R,stE b s=R:=⟨_,rfl⟩
 rw [hR]
 have HR:=aF hR
 obtain ⟨q1,hq1⟩:∃q,zeroP s.place=q:=⟨_,rfl⟩
 obtain ⟨q2,hq2⟩:∃q,(s.rv.kind == 0)=q:=⟨_,rfl⟩
 obtain ⟨q3,hq3⟩:∃q,(s.rv.op == 0)=q:=⟨_,rfl⟩
 obtain ⟨q4,hq4⟩:∃q,((s.rv.args.length:Int) == 0)=q:=⟨_,rfl⟩
 obtain ⟨q5,hq5⟩:∃q,(s.rv.reg == 0)=q:=⟨_,rfl⟩
 obtain ⟨q6,hq6⟩:∃q,s.rv.mu=q:=⟨_,rfl⟩
 obtain ⟨q7,hq7⟩:∃q,zeroP s.rv.place=q:=⟨_,rfl⟩
 have HBL:Hid (blankR s.rv=(q2 && q3 && q4 && q5 && !q6 && q7)):=aF (by
  unfold blankR
  rw [← hq2,← hq3,← hq4,← hq5,← hq6,← hq7,fA]
  rfl)
 have HQ1:=aF hq1
 have HQ7:=aF hq7
 have HQ2:=aF hq2
 have HQ3:=aF hq3
 have HQ4:=aF hq4
 have HQ5:=aF hq5
 have HQ6:=aF hq6
 clear hq1 hq2 hq3 hq4 hq5 hq7
 have HF0:Hid (R=if q1=false∨(q2 && q3 && q4 && q5 && !q6 && q7)=false∨s.loc≠0 then 2 else 0):=aF (by rw [← HR.out,stE,aX (by omega),aX (by omega),aY hk,HBL.out,HQ1.out])
 clear HBL
 clear HR hR H hT hp0 hp hl
 by_cases hall:q1=true∧q2=true∧q3=true∧q4=true∧q5=true∧q6=false
 case' neg=>
  have HF:Hid (R=2):=aF (by rw [HF0.out,aY];revert hall;cases q1 <;> cases q2 <;> cases q3 <;> cases q4 <;> cases q5 <;> cases q6 <;> simp)
  clear HF0
  rcases (show q1=false∨(q1=true∧q2=false)∨(q1=true∧q2=true∧q3=false)∨(q1=true∧q2=true∧q3=true∧q4=false)∨(q1=true∧q2=true∧q3=true∧q4=true∧q5=false)∨(q1=true∧q2=true∧q3=true∧q4=true∧q5=true∧q6=true) by revert hall;cases q1 <;> cases q2 <;> cases q3 <;> cases q4 <;> cases q5 <;> cases q6 <;> simp) with rfl | ⟨rfl,rfl⟩ | ⟨rfl,rfl,rfl⟩ | ⟨rfl,rfl,rfl,rfl⟩ | ⟨rfl,rfl,rfl,rfl,rfl⟩ | ⟨rfl,rfl,rfl,rfl,rfl,rfl⟩
  all_goals
   clear hall
 case' pos=>
  obtain ⟨rfl,rfl,rfl,rfl,rfl,rfl⟩:=hall
  cases q7
  case' false=>
   have HF:Hid (R=2):=aF (by rw [HF0.out];simp)
   clear HF0
  case' true=>
   by_cases hlo:s.loc≠0
   case' pos=>
    have HF:Hid (R=2):=aF (by rw [HF0.out];simp [hlo];try omega)
    have e5:(s.loc != 0)=true:=by simp [hlo]
    clear HF0
   case' neg=>
    have HF:Hid (R=0):=aF (by rw [HF0.out];simp [hlo];try omega)
    have e5:(s.loc != 0)=false:=by simpa using hlo
    clear HF0
 all_goals
  have g2:=HQ2.out
  have g3:=HQ3.out
  have g4:=HQ4.out
  have g5:=HQ5.out
  have g6:=HQ6.out
  unfold ckC at *
  unfold stC
  rw [hk]
  go_enter Tryz.func79,Tryz.ntmps79
  go_wp2_with (first | (go_at_call 124;refine (HZZ.out _ _ _ _).mono ?_;rintro e' w2 ⟨rfl,hb2⟩;rw [HQ7.out];have HB2:=aF (HB.out.trans (hb2.mono HB.out.size));have HY2:=aF (cells_kept HY.out hb2);have HZ3:=aF (cells_kept HZ.out hb2);have HU2:=aF (cells_kept HU.out hb2);clear y0 y1 y2 y3 y4 y5 y6 y7 z0 z1 z2 z10 u0 u1 u2 u3 u4 u5 u6 HY HZ HU HB;have HB:=HB2;have HY:=HY2;have HZ:=HZ3;have HU:=HU2;obtain ⟨y0,y1,y2,y3,y4,y5,y6,y7⟩:=aR HY.out;obtain ⟨z0,z1,z2,-,-,-,-,-,-,-,z10⟩:=aU HZ.out;obtain ⟨u0,u1,u2,u3,u4,u5,u6⟩:=aQ HU.out;clear hb2 HB2 HY2 HZ3 HU2) | (go_at_call 124;refine (HZZ.out _ _ _ _).mono ?_;rintro e' w1 ⟨rfl,hb1⟩;rw [HQ1.out];have HB:=aF ((bel3 _ _ _ _).trans (hb1.mono (bel3 _ _ _ _).size));obtain ⟨y,z,u⟩:=dK hb1;have HY:=aF y;have HZ:=aF z;have HU:=aF u;obtain ⟨y0,y1,y2,y3,y4,y5,y6,y7⟩:=aR HY.out;obtain ⟨z0,z1,z2,-,-,-,-,-,-,-,z10⟩:=aU HZ.out;obtain ⟨u0,u1,u2,u3,u4,u5,u6⟩:=aQ HU.out;clear y z u hb1))
  all_goals first
   | (exfalso;omega)
   | (go_ret;exact ⟨by rw [HF.out];rfl,HB.out⟩)
theorem xBP {b:Bdy} {bh:BH} {r:Nat} {w:World} (H:Ck w b bh r) (hT:TabsOk w) (s:Stm) (A0 A B:Option Addr) (c0 c d:Nat) (hp0:Slc 2 RPj w A0 c0 s.place.proj) (hp:Slc 2 RPj w A c s.rv.place.proj) (hl:Slc 4 ROp w B d s.rv.args) (hk0:s.kind≠0) (hk1:s.kind≠1) (hk2:s.kind≠2):
 Calls Tryz.prog 79 #[.agg (ckC b bh r).toArray,.agg (stC s A0 c0 A c B d).toArray] w fun e' w'=>e' = .returned (.int .i64 (stE b s))∧Below w.heap.size w w':=by
 have HZZ:=aF fI
 have HH:=aF H
 have HT:=aF hT
 have HP0:=aF hp0
 have HP:=aF hp
 have HL:=aF hl
 have hle:=hl.le
 have hbig:=hl.big
 have hlocl:=H.at_.loc.le
 have hlocb:=H.at_.loc.big
 obtain ⟨R,hR⟩:∃R,stE b s=R:=⟨_,rfl⟩
 rw [hR]
 have HR:=aF hR
 obtain ⟨q1,hq1⟩:∃q,zeroP s.place=q:=⟨_,rfl⟩
 obtain ⟨q2,hq2⟩:∃q,(s.rv.kind == 0)=q:=⟨_,rfl⟩
 obtain ⟨q3,hq3⟩:∃q,(s.rv.op == 0)=q:=⟨_,rfl⟩
 obtain ⟨q4,hq4⟩:∃q,((s.rv.args.length:Int) == 0)=q:=⟨_,rfl⟩
 obtain ⟨q5,hq5⟩:∃q,(s.rv.reg == 0)=q:=⟨_,rfl⟩
 obtain ⟨q6,hq6⟩:∃q,s.rv.mu=q:=⟨_,rfl⟩
 obtain ⟨q7,hq7⟩:∃q,zeroP s.rv.place=q:=⟨_,rfl⟩
 have HBL:Hid (blankR s.rv=(q2 && q3 && q4 && q5 && !q6 && q7)):=aF (by
  unfold blankR
  rw [← hq2,← hq3,← hq4,← hq5,← hq6,← hq7,fA]
  rfl)
 have HQ1:=aF hq1
 have HQ7:=aF hq7
 have HQ2:=aF hq2
 have HQ3:=aF hq3
 have HQ4:=aF hq4
 have HQ5:=aF hq5
 have HQ6:=aF hq6
 clear hq1 hq2 hq3 hq4 hq5 hq7
 have HF:Hid (R=14):=aF (by rw [← HR.out,stE,aX hk0,aX hk1,aX hk2])
 have e0:(s.kind == 0)=false:=by simp [hk0]
 have e1:(s.kind == 1)=false:=by simp [hk1]
 have e2:(s.kind == 2)=false:=by simp [hk2]
 clear HBL hk0 hk1 hk2
 have hk:True:=trivial
 clear HR hR H hT hp0 hp hl
 rcases (show q1=false∨(q1=true∧q2=false)∨(q1=true∧q2=true∧q3=false)∨(q1=true∧q2=true∧q3=true∧q4=false)∨(q1=true∧q2=true∧q3=true∧q4=true∧q5=false)∨(q1=true∧q2=true∧q3=true∧q4=true∧q5=true∧q6=true)∨(q1=true∧q2=true∧q3=true∧q4=true∧q5=true∧q6=false) by cases q1 <;> cases q2 <;> cases q3 <;> cases q4 <;> cases q5 <;> cases q6 <;> simp) with rfl | ⟨rfl,rfl⟩ | ⟨rfl,rfl,rfl⟩ | ⟨rfl,rfl,rfl,rfl⟩ | ⟨rfl,rfl,rfl,rfl,rfl⟩ | ⟨rfl,rfl,rfl,rfl,rfl,rfl⟩ | ⟨rfl,rfl,rfl,rfl,rfl,rfl⟩
 all_goals
  have g2:=HQ2.out
  have g3:=HQ3.out
  have g4:=HQ4.out
  have g5:=HQ5.out
  have g6:=HQ6.out
  unfold ckC at *
  unfold stC
  go_enter Tryz.func79,Tryz.ntmps79
  go_wp2_with (first | (go_at_call 124;refine (HZZ.out _ _ _ _).mono ?_;rintro e' w2 ⟨rfl,hb2⟩;rw [HQ7.out];have HB2:=aF (HB.out.trans (hb2.mono HB.out.size));have HY2:=aF (cells_kept HY.out hb2);have HZ3:=aF (cells_kept HZ.out hb2);have HU2:=aF (cells_kept HU.out hb2);clear y0 y1 y2 y3 y4 y5 y6 y7 z0 z1 z2 z10 u0 u1 u2 u3 u4 u5 u6 HY HZ HU HB;have HB:=HB2;have HY:=HY2;have HZ:=HZ3;have HU:=HU2;obtain ⟨y0,y1,y2,y3,y4,y5,y6,y7⟩:=aR HY.out;obtain ⟨z0,z1,z2,-,-,-,-,-,-,-,z10⟩:=aU HZ.out;obtain ⟨u0,u1,u2,u3,u4,u5,u6⟩:=aQ HU.out;clear hb2 HB2 HY2 HZ3 HU2) | (go_at_call 124;refine (HZZ.out _ _ _ _).mono ?_;rintro e' w1 ⟨rfl,hb1⟩;rw [HQ1.out];have HB:=aF ((bel3 _ _ _ _).trans (hb1.mono (bel3 _ _ _ _).size));obtain ⟨y,z,u⟩:=dK hb1;have HY:=aF y;have HZ:=aF z;have HU:=aF u;obtain ⟨y0,y1,y2,y3,y4,y5,y6,y7⟩:=aR HY.out;obtain ⟨z0,z1,z2,-,-,-,-,-,-,-,z10⟩:=aU HZ.out;obtain ⟨u0,u1,u2,u3,u4,u5,u6⟩:=aQ HU.out;clear y z u hb1))
  all_goals first
   | (exfalso;omega)
   | (go_ret;exact ⟨by rw [HF.out];rfl,by first | exact HBW2.out | exact HBW.out | exact HB.out⟩)
theorem xBT {b:Bdy} {bh:BH} {r:Nat} {w:World} (H:Ck w b bh r) (hT:TabsOk w) (s:Stm) (A0 A B:Option Addr) (c0 c d:Nat) (hp0:Slc 2 RPj w A0 c0 s.place.proj) (hp:Slc 2 RPj w A c s.rv.place.proj) (hl:Slc 4 ROp w B d s.rv.args):
 Calls Tryz.prog 79 #[.agg (ckC b bh r).toArray,.agg (stC s A0 c0 A c B d).toArray] w fun e' w'=>e' = .returned (.int .i64 (stE b s))∧Below w.heap.size w w':=by
 by_cases h0:s.kind=0
 ·by_cases hl0:s.loc=0
  ·by_cases hw:writE b s.place=0
   ·exact xBS H hT s A0 A B c0 c d hp0 hp hl h0 hl0 hw
   ·exact xBO H hT s A0 A B c0 c d hp0 hp hl h0 hl0 hw
  ·exact xBR H hT s A0 A B c0 c d hp0 hp hl h0 hl0
 by_cases h1:s.kind=1
 ·exact xQ H hT s A0 A B c0 c d hp0 hp hl h1
 by_cases h2:s.kind=2
 ·exact xBQ H hT s A0 A B c0 c d hp0 hp hl h2
 exact xBP H hT s A0 A B c0 c d hp0 hp hl h0 h1 h2
theorem xEW {b:Bdy} {bh:BH} {r:Nat} {w:World} (H:Ck w b bh r) (t:Trm) (A B C:Option Addr) (c d f:Nat) (ht:Slc 1 RInt w A c t.targets) (hl:Slc 4 ROp w B d t.args) (hp:Slc 2 RPj w C f t.place.proj) (hk:t.kind=1) (hfd:fieldsT t=true):
 Calls Tryz.prog 80 #[.agg (ckC b bh r).toArray,.agg (tmC t A c B d C f).toArray] w fun e' w'=>e' = .returned (.int .i64 (tmE b t))∧Below w.heap.size w w':=by
 have HFD:=aF (fun W=>gC t A B C c d f W)
 have HH:=aF H
 have HTG:=aF ht
 have HL:=aF hl
 have HP:=aF hp
 have hle:=hl.le
 have hbig:=hl.big
 have hle2:=ht.le
 have hbig2:=ht.big
 have hblkl:=H.at_.blk.le
 have hblkb:=H.at_.blk.big
 obtain ⟨R,hR⟩:∃R,tmE b t=R:=⟨_,rfl⟩
 rw [hR]
 have HR:=aF hR
 clear hR H ht hl hp
 have hag:∃o,t.args=[o]:=by
  have h:=hfd
  unfold fieldsT at h
  rw [aX (by omega),aY hk] at h
  simp only [bP,decide_eq_true_eq] at h
  exact List.length_eq_one_iff.1 h.1.1.2
 obtain ⟨o,ho⟩:=hag
 obtain ⟨bb,oo,rfl,hbb,hx⟩:=HL.out.sl.at_ (show 0<t.args.length by rw [ho];simp)
 simp only [ho,List.getElem_cons_zero,Nat.zero_mul,Nat.add_zero] at hx
 obtain ⟨p0,⟨p1,A2,c2,p2,hc1,hc2,hsl⟩,p3⟩:=hx
 have HPJ:Hid (Slc 2 RPj w A2 c2 o.place.proj):=aF ⟨hsl,hc1,hc2⟩
 have P0:=aF p0
 have P1:=aF p1
 have P2:=aF (show w.cell? ⟨bb,oo+2,none⟩=_ from p2)
 have P3:=aF p3
 have hal:0<t.args.length:=by rw [ho];simp
 have HOO:=aF (fun (W:World) (hb:Below w.heap.size w W)=>qN (HH.out.keep hb) o A2 c2 (HPJ.out.keep RPj.keeps hb))
 have HKK:=aF (fun (W:World) (hb:Below w.heap.size w W) (h:opE b o=0)=>uC (HH.out.keep hb) o A2 c2 (HPJ.out.keep RPj.keeps hb) h)
 obtain ⟨Q,hQ⟩:∃Q,(if opE b o≠0 then opE b o else fail22 (decide (kindO b o≠1)))=Q:=⟨_,rfl⟩
 have HQ:=aF hQ
 have HF:Hid (R=if t.targets.all (fun k=>decide (0≤k∧k<(b.blocks.length:Int)))=true then Q else 3):=aF (by
  rw [← HR.out,tmE,aX (by omega),aX (by rw [hfd];simp)]
  rw [← HQ.out]
  cases t.targets.all (fun k=>decide (0≤k∧k<(b.blocks.length:Int)))
  ·simp
  ·simp [hk,ho])
 rw [hfd] at HFD
 generalize kindO b o=ko at HKK hQ HQ
 generalize opE b o=eo at HOO HKK hQ HQ
 clear ho p0 p1 p2 p3 hsl hc1 hc2
 unfold opC at HOO HKK
 clear HR hQ hfd
 unfold ckC at *
 unfold tmC at *
 rw [hk] at HFD ⊢
 go_enter Tryz.func80,Tryz.ntmps80
 go_wp2_with (go_at_call 127;refine (HFD.out _).mono ?_;rintro e' w1 ⟨rfl,hb1⟩;have HB:=aF ((bel2 _ _ _).trans (hb1.mono (bel2 _ _ _).size));obtain ⟨y,z⟩:=cR hb1;have HY:=aF y;have HZ:=aF z;obtain ⟨y0,y1,y2,y3,y4,y5,y6,y7⟩:=aR HY.out;obtain ⟨z0,z1,z2,z3,z4,z5⟩:=aP HZ.out;clear y z hb1)
 all_goals try (exfalso;omega)
 go_loop [27] (fun v=>∃k:Nat,k≤t.targets.length∧v = .int .i64 k∧Hid (R=if (t.targets.drop k).all (fun k=>decide (0≤k∧k<(b.blocks.length:Int)))=true then Q else 3)) (fun v=>t.targets.length - (intOf v).toNat)
 case atStart=>exact ⟨0,by omega,rfl,HF⟩
 case round=>
  clear HF
  obtain ⟨k,hk2,rfl,hr⟩:=hrel
  by_cases hlt:k<t.targets.length
  ·have hd:=cU hlt
   obtain ⟨b5,o5,rfl,hb5,hx⟩:=HTG.out.sl.at_ hlt
   obtain ⟨x,hxx⟩:∃x,t.targets[k]=x:=⟨_,rfl⟩
   rw [hxx] at hd hx
   have x0:w1.cell? ⟨b5,o5+k,none⟩=some (.int .i64 x):=cell_keep HB.out (by simpa [RInt] using hx)
   by_cases hin:0≤x∧x<(b.blocks.length:Int)
   ·have HF2:Hid (R=if (t.targets.drop (k+1)).all (fun k=>decide (0≤k∧k<(b.blocks.length:Int)))=true then Q else 3):=aF (by rw [hr.out,hd,cB];simp [hin])
    have e1:¬x<0:=by omega
    have e2:¬(b.blocks.length:Int)≤x:=by omega
    clear hd hx hxx hr hin
    go_wp2_with fail
    all_goals try (exfalso;omega)
    go_round
    case rel=>exact ⟨k+1,by omega,by go_num,HF2⟩
    case measure=>simp [intOf];omega
   ·have HF2:Hid (R=3):=aF (by rw [hr.out,hd,cB];simp;intro h1 h2;exact absurd ⟨h1,h2⟩ hin)
    clear hd hx hxx hr
    go_wp2_with fail
    all_goals first
     | (exfalso;omega)
     | (go_ret;exact ⟨by rw [HF2.out];rfl,HB.out⟩)
  ·have HF2:Hid (R=Q):=aF (by rw [hr.out,bD (by omega:t.targets.length≤k)];rfl)
   clear hr
   go_wp2_with fail
   have hS:aB w [Value.string b.name,.slice bh.A1 b.regions.length bh.c1,.slice bh.A2 b.outl.length bh.c2,.slice bh.A3 b.types.length bh.c3,.slice bh.A4 b.locals.length bh.c4,.int .i64 b.args,.slice bh.A5 b.blocks.length bh.c5,.pointer (some ⟨r,0,none⟩)] [Value.int .i64 1,.slice A t.targets.length c,.slice (some ⟨bb,oo,none⟩) t.args.length d,.int .i64 t.place.loc,.slice C t.place.proj.length f,.string t.name] w1.drew:=⟨HY.out,HZ.out,HB.out.drew⟩
   clear y0 y1 y2 y3 y4 y5 y6 y7 z0 z1 z2 z3 z4 z5
   refine cP (S:=fun X=>aB w [Value.string b.name,.slice bh.A1 b.regions.length bh.c1,.slice bh.A2 b.outl.length bh.c2,.slice bh.A3 b.types.length bh.c3,.slice bh.A4 b.locals.length bh.c4,.int .i64 b.args,.slice bh.A5 b.blocks.length bh.c5,.pointer (some ⟨r,0,none⟩)] [Value.int .i64 1,.slice A t.targets.length c,.slice (some ⟨bb,oo,none⟩) t.args.length d,.int .i64 t.place.loc,.slice C t.place.proj.length f,.string t.name] X) [0,1,2,3,4,5,6] (by kernel_rfl) ?_
   (iterate 5 (refine cQ (v:=?_) ?_ hS ?_;rotate_left;(next=>(rintro X ⟨hX,hY,hZ⟩;obtain ⟨s0,s1,s2,s3,s4,s5,s6,s7⟩:=aR hX;have v2:=hY 2 _ rfl;have p0:=cell_keep hZ P0.out;have p1:=cell_keep hZ P1.out;have p2:=cell_keep hZ P2.out;have p3:=cell_keep hZ P3.out;(try simp only [aH]);go_simp;rfl));simp only [aH,Act.put,aJ]))
   (refine cS (by kernel_rfl) (fun K1 hK1=>?_);simp only [aH,Act.put,aJ];rw [aY (by rfl)];go_simp)
   refine (HOO.out _ hS.2.2).mono ?_
   rintro e' w2 ⟨rfl,hb⟩
   replace hS:=bI (cells_kept hS.1 hb) (bI (cells_kept hS.2.1 hb) (hS.2.2.trans (hb.mono hS.2.2.size)))
   have HS2:=aF hS
   clear hb
   refine hK1.out _ _ (fun _=>hS) ?_
   clear hK1
   (iterate 1 (refine cQ (v:=?_) ?_ hS ?_;rotate_left;(next=>(rintro X -;(try simp only [aH]);go_simp;rfl));simp only [aH,Act.put,aJ]))
   refine cV (by kernel_rfl) ?_
   clear hS
   by_cases heo:eo=0
   ·subst heo
    have HK2:=aF (fun W hb=>HKK.out W hb rfl)
    have HF3:Hid (R=fail22 (decide (ko≠1))):=aF (by rw [HF2.out,← HQ.out];simp)
    have eko:(ko != 1)=decide (ko≠1):=by rw [bQ];simp
    go_wp2_with fail
    have hS:aB w [Value.string b.name,.slice bh.A1 b.regions.length bh.c1,.slice bh.A2 b.outl.length bh.c2,.slice bh.A3 b.types.length bh.c3,.slice bh.A4 b.locals.length bh.c4,.int .i64 b.args,.slice bh.A5 b.blocks.length bh.c5,.pointer (some ⟨r,0,none⟩)] [Value.int .i64 1,.slice A t.targets.length c,.slice (some ⟨bb,oo,none⟩) t.args.length d,.int .i64 t.place.loc,.slice C t.place.proj.length f,.string t.name] w2.drew:=⟨HS2.out.1,HS2.out.2.1,HS2.out.2.2.drew⟩
    refine cP (S:=fun X=>aB w [Value.string b.name,.slice bh.A1 b.regions.length bh.c1,.slice bh.A2 b.outl.length bh.c2,.slice bh.A3 b.types.length bh.c3,.slice bh.A4 b.locals.length bh.c4,.int .i64 b.args,.slice bh.A5 b.blocks.length bh.c5,.pointer (some ⟨r,0,none⟩)] [Value.int .i64 1,.slice A t.targets.length c,.slice (some ⟨bb,oo,none⟩) t.args.length d,.int .i64 t.place.loc,.slice C t.place.proj.length f,.string t.name] X) [0,1,2,3,4,5,6,7,8] (by kernel_rfl) ?_
    (iterate 5 (refine cQ (v:=?_) ?_ hS ?_;rotate_left;(next=>(rintro X ⟨hX,hY,hZ⟩;obtain ⟨s0,s1,s2,s3,s4,s5,s6,s7⟩:=aR hX;have v2:=hY 2 _ rfl;have p0:=cell_keep hZ P0.out;have p1:=cell_keep hZ P1.out;have p2:=cell_keep hZ P2.out;have p3:=cell_keep hZ P3.out;(try simp only [aH]);go_simp;rfl));simp only [aH,Act.put,aJ]))
    (refine cS (by kernel_rfl) (fun K1 hK1=>?_);simp only [aH,Act.put,aJ];rw [aY (by rfl)];go_simp)
    refine (HK2.out _ hS.2.2).mono ?_
    rintro e' w3 ⟨rfl,hb⟩
    replace hS:=bI (cells_kept hS.1 hb) (bI (cells_kept hS.2.1 hb) (hS.2.2.trans (hb.mono hS.2.2.size)))
    clear hb
    refine hK1.out _ _ (fun _=>hS) ?_
    clear hK1
    (iterate 1 (refine cQ (v:=?_) ?_ hS ?_;rotate_left;(next=>(rintro X -;(try simp only [aH]);go_simp;rfl));simp only [aH,Act.put,aJ]))
    try rw [eko]
    (refine cS (by kernel_rfl) (fun K1 hK1=>?_);simp only [aH,Act.put,aJ];rw [aY (by rfl)];go_simp)
    refine (eC _ _).mono ?_
    rintro e' w4 ⟨rfl,hw⟩
    obtain rfl:=hw.symm
    refine hK1.out _ _ (fun _=>hS) ?_
    clear hK1
    (iterate 1 (refine cQ (v:=?_) ?_ hS ?_;rotate_left;(next=>(rintro X -;(try simp only [aH]);go_simp;rfl));simp only [aH,Act.put,aJ]))
    refine cV (by kernel_rfl) ?_
    have HS3:=aF hS.2.2
    clear hS
    go_wp2_with fail
    go_ret
    exact ⟨by rw [HF3.out];first | rfl | (rw [← eko];rfl),HS3.out⟩
   ·have HF3:Hid (R=eo):=aF (by rw [HF2.out,← HQ.out];simp [heo])
    have e9:(eo != 0)=true:=by simp [heo]
    clear heo
    go_wp2_with fail
    go_ret
    exact ⟨by rw [HF3.out];rfl,HS2.out.2.2⟩
theorem xK {b:Bdy} {bh:BH} {r:Nat} {w:World} (H:Ck w b bh r) (t:Trm) (A B C:Option Addr) (c d f:Nat) (ht:Slc 1 RInt w A c t.targets) (hl:Slc 4 ROp w B d t.args) (hp:Slc 2 RPj w C f t.place.proj) (hk:t.kind=3) (hfd:fieldsT t=true):
 Calls Tryz.prog 80 #[.agg (ckC b bh r).toArray,.agg (tmC t A c B d C f).toArray] w fun e' w'=>e' = .returned (.int .i64 (tmE b t))∧Below w.heap.size w w':=by
 have HFD:=aF (fun W=>gC t A B C c d f W)
 have HH:=aF H
 have HTG:=aF ht
 have HL:=aF hl
 have HP:=aF hp
 have hle:=hl.le
 have hbig:=hl.big
 have hle2:=ht.le
 have hbig2:=ht.big
 have hblkl:=H.at_.blk.le
 have hblkb:=H.at_.blk.big
 obtain ⟨R,hR⟩:∃R,tmE b t=R:=⟨_,rfl⟩
 rw [hR]
 have HR:=aF hR
 clear hR H ht hl hp
 obtain ⟨Q,hQ⟩:∃Q,(if isIdent t.name=false then 12 else if 65535<t.args.length then 15 else if opsE b t.args []≠0 then opsE b t.args [] else writE b t.place)=Q:=⟨_,rfl⟩
 have HQ:=aF hQ
 have HF:Hid (R=if t.targets.all (fun k=>decide (0≤k∧k<(b.blocks.length:Int)))=true then Q else 3):=aF (by
  rw [← HR.out,tmE,aX (by omega),aX (by rw [hfd];simp)]
  rw [← HQ.out]
  cases t.targets.all (fun k=>decide (0≤k∧k<(b.blocks.length:Int)))
  ·simp
  ·simp [hk])
 rw [hfd] at HFD
 have HI:=aF (fun W=>eX t.name W)
 have HPO:=aF (fun (W:World) (hb:Below w.heap.size w W)=>fV (HH.out.keep hb) t.args [] B none d 0 (HL.out.keep ROp.keeps hb) ⟨Sl.nil,by simp,by omega⟩ (by simp))
 have HW:=aF (fun (W:World) (hb:Below w.heap.size w W)=>gM b bh r t.place C f W (HH.out.keep hb).at_ (HP.out.keep RPj.keeps hb) HH.out.ok.okay)
 generalize writE b t.place=we at HW hQ HQ
 generalize opsE b t.args []=oe at HPO hQ HQ
 generalize isIdent t.name=ii at HI hQ HQ
 clear HR hQ hfd
 unfold ckC at *
 unfold tmC at *
 rw [hk] at HFD ⊢
 go_enter Tryz.func80,Tryz.ntmps80
 go_wp2_with (go_at_call 127;refine (HFD.out _).mono ?_;rintro e' w1 ⟨rfl,hb1⟩;have HB:=aF ((bel2 _ _ _).trans (hb1.mono (bel2 _ _ _).size));obtain ⟨y,z⟩:=cR hb1;have HY:=aF y;have HZ:=aF z;obtain ⟨y0,y1,y2,y3,y4,y5,y6,y7⟩:=aR HY.out;obtain ⟨z0,z1,z2,z3,z4,z5⟩:=aP HZ.out;clear y z hb1)
 all_goals try (exfalso;omega)
 go_loop [27] (fun v=>∃k:Nat,k≤t.targets.length∧v = .int .i64 k∧Hid (R=if (t.targets.drop k).all (fun k=>decide (0≤k∧k<(b.blocks.length:Int)))=true then Q else 3)) (fun v=>t.targets.length - (intOf v).toNat)
 case atStart=>exact ⟨0,by omega,rfl,HF⟩
 case round=>
  clear HF
  obtain ⟨k,hk2,rfl,hr⟩:=hrel
  by_cases hlt:k<t.targets.length
  ·have hd:=cU hlt
   obtain ⟨b5,o5,rfl,hb5,hx⟩:=HTG.out.sl.at_ hlt
   obtain ⟨x,hxx⟩:∃x,t.targets[k]=x:=⟨_,rfl⟩
   rw [hxx] at hd hx
   have x0:w1.cell? ⟨b5,o5+k,none⟩=some (.int .i64 x):=cell_keep HB.out (by simpa [RInt] using hx)
   by_cases hin:0≤x∧x<(b.blocks.length:Int)
   ·have HF2:Hid (R=if (t.targets.drop (k+1)).all (fun k=>decide (0≤k∧k<(b.blocks.length:Int)))=true then Q else 3):=aF (by rw [hr.out,hd,cB];simp [hin])
    have e1:¬x<0:=by omega
    have e2:¬(b.blocks.length:Int)≤x:=by omega
    clear hd hx hxx hr hin
    go_wp2_with fail
    all_goals try (exfalso;omega)
    go_round
    case rel=>exact ⟨k+1,by omega,by go_num,HF2⟩
    case measure=>simp [intOf];omega
   ·have HF2:Hid (R=3):=aF (by rw [hr.out,hd,cB];simp;intro h1 h2;exact absurd ⟨h1,h2⟩ hin)
    clear hd hx hxx hr
    go_wp2_with fail
    all_goals first
     | (exfalso;omega)
     | (go_ret;exact ⟨by rw [HF2.out];rfl,HB.out⟩)
  ·have HF2:Hid (R=Q):=aF (by rw [hr.out,bD (by omega:t.targets.length≤k)];rfl)
   clear hr
   cases ii
   ·have HF3:Hid (R=12):=aF (by rw [HF2.out,← HQ.out];rfl)
    go_wp2_with (go_at_call 68;refine (HI.out _).mono ?_;rintro e' w2 ⟨rfl,hb⟩;have HB2:=aF (HB.out.trans (hb.mono HB.out.size));have HY2:=aF (cells_kept HY.out hb);have HZ2:=aF (cells_kept HZ.out hb);clear y0 y1 y2 y3 y4 y5 y6 y7 z0 z1 z2 z3 z4 z5;obtain ⟨y0,y1,y2,y3,y4,y5,y6,y7⟩:=aR HY2.out;obtain ⟨z0,z1,z2,z3,z4,z5⟩:=aP HZ2.out;clear hb)
    go_ret
    exact ⟨by rw [HF3.out];rfl,HB2.out⟩
   by_cases hln:65535<t.args.length
   ·have HF3:Hid (R=15):=aF (by rw [HF2.out,← HQ.out];simp [hln])
    go_wp2_with (go_at_call 68;refine (HI.out _).mono ?_;rintro e' w2 ⟨rfl,hb⟩;have HB2:=aF (HB.out.trans (hb.mono HB.out.size));have HY2:=aF (cells_kept HY.out hb);have HZ2:=aF (cells_kept HZ.out hb);clear y0 y1 y2 y3 y4 y5 y6 y7 z0 z1 z2 z3 z4 z5;obtain ⟨y0,y1,y2,y3,y4,y5,y6,y7⟩:=aR HY2.out;obtain ⟨z0,z1,z2,z3,z4,z5⟩:=aP HZ2.out;clear hb)
    all_goals first
     | (exfalso;omega)
     | (go_ret;exact ⟨by rw [HF3.out];rfl,HB2.out⟩)
   by_cases hoe:oe=0
   ·have HF3:Hid (R=we):=aF (by rw [HF2.out,← HQ.out];simp [hln,hoe])
    subst hoe
    go_wp2_with (first | (go_at_call 68;refine (HI.out _).mono ?_;rintro e' w2 ⟨rfl,hb⟩;have HB2:=aF (HB.out.trans (hb.mono HB.out.size));have HY2:=aF (cells_kept HY.out hb);have HZ2:=aF (cells_kept HZ.out hb);clear y0 y1 y2 y3 y4 y5 y6 y7 z0 z1 z2 z3 z4 z5;obtain ⟨y0,y1,y2,y3,y4,y5,y6,y7⟩:=aR HY2.out;obtain ⟨z0,z1,z2,z3,z4,z5⟩:=aP HZ2.out;clear hb) | (go_at_call 131;refine (HPO.out _ HB2.out).mono ?_;rintro e' w3 ⟨rfl,hb⟩;have HB3:=aF (HB2.out.trans (hb.mono HB2.out.size));have HY3:=aF (cells_kept HY2.out hb);have HZ3:=aF (cells_kept HZ2.out hb);clear y0 y1 y2 y3 y4 y5 y6 y7 z0 z1 z2 z3 z4 z5;obtain ⟨y0,y1,y2,y3,y4,y5,y6,y7⟩:=aR HY3.out;obtain ⟨z0,z1,z2,z3,z4,z5⟩:=aP HZ3.out;clear hb) | (go_at_call 125;refine (HW.out _ HB3.out).mono ?_;rintro e' w4 ⟨rfl,hb⟩;have HB4:=aF (HB3.out.trans (hb.mono HB3.out.size));have HY4:=aF (cells_kept HY3.out hb);have HZ4:=aF (cells_kept HZ3.out hb);clear y0 y1 y2 y3 y4 y5 y6 y7 z0 z1 z2 z3 z4 z5;obtain ⟨y0,y1,y2,y3,y4,y5,y6,y7⟩:=aR HY4.out;obtain ⟨z0,z1,z2,z3,z4,z5⟩:=aP HZ4.out;clear hb))
    all_goals first
     | (exfalso;omega)
     | (go_ret;exact ⟨by rw [HF3.out];rfl,HB4.out⟩)
   ·have HF3:Hid (R=oe):=aF (by rw [HF2.out,← HQ.out];simp [hln,hoe])
    have e9:(oe != 0)=true:=by simp [hoe]
    clear hoe
    go_wp2_with (first | (go_at_call 68;refine (HI.out _).mono ?_;rintro e' w2 ⟨rfl,hb⟩;have HB2:=aF (HB.out.trans (hb.mono HB.out.size));have HY2:=aF (cells_kept HY.out hb);have HZ2:=aF (cells_kept HZ.out hb);clear y0 y1 y2 y3 y4 y5 y6 y7 z0 z1 z2 z3 z4 z5;obtain ⟨y0,y1,y2,y3,y4,y5,y6,y7⟩:=aR HY2.out;obtain ⟨z0,z1,z2,z3,z4,z5⟩:=aP HZ2.out;clear hb) | (go_at_call 131;refine (HPO.out _ HB2.out).mono ?_;rintro e' w3 ⟨rfl,hb⟩;have HB3:=aF (HB2.out.trans (hb.mono HB2.out.size));have HY3:=aF (cells_kept HY2.out hb);have HZ3:=aF (cells_kept HZ2.out hb);clear y0 y1 y2 y3 y4 y5 y6 y7 z0 z1 z2 z3 z4 z5;obtain ⟨y0,y1,y2,y3,y4,y5,y6,y7⟩:=aR HY3.out;obtain ⟨z0,z1,z2,z3,z4,z5⟩:=aP HZ3.out;clear hb))
    all_goals first
     | (exfalso;omega)
     | (go_ret;exact ⟨by rw [HF3.out];rfl,HB3.out⟩)
theorem xJ {b:Bdy} {bh:BH} {r:Nat} {w:World} (H:Ck w b bh r) (t:Trm) (A B C:Option Addr) (c d f:Nat) (ht:Slc 1 RInt w A c t.targets) (hl:Slc 4 ROp w B d t.args) (hp:Slc 2 RPj w C f t.place.proj) (hk:t.kind=4) (hfd:fieldsT t=true):
 Calls Tryz.prog 80 #[.agg (ckC b bh r).toArray,.agg (tmC t A c B d C f).toArray] w fun e' w'=>e' = .returned (.int .i64 (tmE b t))∧Below w.heap.size w w':=by
 have HFD:=aF (fun W=>gC t A B C c d f W)
 have HH:=aF H
 have HTG:=aF ht
 have HL:=aF hl
 have HP:=aF hp
 have hle:=hl.le
 have hbig:=hl.big
 have hle2:=ht.le
 have hbig2:=ht.big
 have hblkl:=H.at_.blk.le
 have hblkb:=H.at_.blk.big
 obtain ⟨R,hR⟩:∃R,tmE b t=R:=⟨_,rfl⟩
 rw [hR]
 have HR:=aF hR
 clear hR H ht hl hp
 obtain ⟨Q,hQ⟩:∃Q,(if (tyB b t.place).2≠0 then (tyB b t.place).2 else fail22 (hasD t.place.proj 0))=Q:=⟨_,rfl⟩
 have HQ:=aF hQ
 have HF:Hid (R=if t.targets.all (fun k=>decide (0≤k∧k<(b.blocks.length:Int)))=true then Q else 3):=aF (by
  rw [← HR.out,tmE,aX (by omega),aX (by rw [hfd];simp)]
  rw [← HQ.out]
  cases t.targets.all (fun k=>decide (0≤k∧k<(b.blocks.length:Int)))
  ·simp
  ·simp [hk])
 rw [hfd] at HFD
 have HTT:=aF (fun (W:World) (hb:Below w.heap.size w W)=>eY b bh r t.place C f W (HH.out.keep hb).at_ (HP.out.keep RPj.keeps hb) HH.out.ok.okay)
 have HHD:=aF (fun (W:World) (hb:Below w.heap.size w W)=>uF t.place 0 C f W (HP.out.keep RPj.keeps hb))
 generalize hasD t.place.proj 0=hdd at HHD hQ HQ
 generalize tyB b t.place=q at HTT hQ HQ
 obtain ⟨ti,te⟩:=q
 simp only at hQ HQ HTT
 have HQF:Hid (Q=firstE [te,fail22 hdd]):=aF (by rw [← HQ.out];simp only [firstE];by_cases h:te=0 <;> simp [h])
 clear HR hQ hfd
 unfold ckC at *
 unfold tmC at *
 rw [hk] at HFD ⊢
 go_enter Tryz.func80,Tryz.ntmps80
 go_wp2_with (go_at_call 127;refine (HFD.out _).mono ?_;rintro e' w1 ⟨rfl,hb1⟩;have HB:=aF ((bel2 _ _ _).trans (hb1.mono (bel2 _ _ _).size));obtain ⟨y,z⟩:=cR hb1;have HY:=aF y;have HZ:=aF z;obtain ⟨y0,y1,y2,y3,y4,y5,y6,y7⟩:=aR HY.out;obtain ⟨z0,z1,z2,z3,z4,z5⟩:=aP HZ.out;clear y z hb1)
 all_goals try (exfalso;omega)
 go_loop [27] (fun v=>∃k:Nat,k≤t.targets.length∧v = .int .i64 k∧Hid (R=if (t.targets.drop k).all (fun k=>decide (0≤k∧k<(b.blocks.length:Int)))=true then Q else 3)) (fun v=>t.targets.length - (intOf v).toNat)
 case atStart=>exact ⟨0,by omega,rfl,HF⟩
 case round=>
  clear HF
  obtain ⟨k,hk2,rfl,hr⟩:=hrel
  by_cases hlt:k<t.targets.length
  ·have hd:=cU hlt
   obtain ⟨b5,o5,rfl,hb5,hx⟩:=HTG.out.sl.at_ hlt
   obtain ⟨x,hxx⟩:∃x,t.targets[k]=x:=⟨_,rfl⟩
   rw [hxx] at hd hx
   have x0:w1.cell? ⟨b5,o5+k,none⟩=some (.int .i64 x):=cell_keep HB.out (by simpa [RInt] using hx)
   by_cases hin:0≤x∧x<(b.blocks.length:Int)
   ·have HF2:Hid (R=if (t.targets.drop (k+1)).all (fun k=>decide (0≤k∧k<(b.blocks.length:Int)))=true then Q else 3):=aF (by rw [hr.out,hd,cB];simp [hin])
    have e1:¬x<0:=by omega
    have e2:¬(b.blocks.length:Int)≤x:=by omega
    clear hd hx hxx hr hin
    go_wp2_with fail
    all_goals try (exfalso;omega)
    go_round
    case rel=>exact ⟨k+1,by omega,by go_num,HF2⟩
    case measure=>simp [intOf];omega
   ·have HF2:Hid (R=3):=aF (by rw [hr.out,hd,cB];simp;intro h1 h2;exact absurd ⟨h1,h2⟩ hin)
    clear hd hx hxx hr
    go_wp2_with fail
    all_goals first
     | (exfalso;omega)
     | (go_ret;exact ⟨by rw [HF2.out];rfl,HB.out⟩)
  ·have HF2:Hid (R=Q):=aF (by rw [hr.out,bD (by omega:t.targets.length≤k)];rfl)
   clear hr
   go_wp2_with (first | (go_at_call 132;refine (HTT.out _ HB.out).mono ?_;rintro e' w2 ⟨rfl,hb⟩;have HB2:=aF (HB.out.trans (hb.mono HB.out.size));have HY2:=aF (cells_kept HY.out hb);have HZ2:=aF (cells_kept HZ.out hb);clear y0 y1 y2 y3 y4 y5 y6 y7 z0 z1 z2 z3 z4 z5;obtain ⟨y0,y1,y2,y3,y4,y5,y6,y7⟩:=aR HY2.out;obtain ⟨z0,z1,z2,z3,z4,z5⟩:=aP HZ2.out;clear hb) | (go_at_call 133;refine (HHD.out _ HB2.out).mono ?_;rintro e' w3 ⟨rfl,hb⟩;have HB3:=aF (HB2.out.trans (hb.mono HB2.out.size));have HY3:=aF (cells_kept HY2.out hb);have HZ3:=aF (cells_kept HZ2.out hb);clear y0 y1 y2 y3 y4 y5 y6 y7 z0 z1 z2 z3 z4 z5;obtain ⟨y0,y1,y2,y3,y4,y5,y6,y7⟩:=aR HY3.out;obtain ⟨z0,z1,z2,z3,z4,z5⟩:=aP HZ3.out;clear hb) | (go_at_call 129;refine (eC _ _).mono ?_;rintro e' w4 ⟨rfl,hw⟩;obtain rfl:=hw.symm) | (go_at_call 118;refine (gB [te,fail22 hdd] _ 2 _ (pJ _ _ _ _ _ rfl)).mono ?_;rintro e' w5 ⟨rfl,hw⟩;obtain rfl:=hw.symm))
   go_ret
   exact ⟨by rw [HF2.out,HQF.out];rfl,HB3.out.alloc HB3.out.size _⟩
theorem xBI {b:Bdy} {bh:BH} {r:Nat} {w:World} (H:Ck w b bh r) (t:Trm) (A B C:Option Addr) (c d f:Nat) (ht:Slc 1 RInt w A c t.targets) (hl:Slc 4 ROp w B d t.args) (hp:Slc 2 RPj w C f t.place.proj) (hk:t.kind=0∨t.kind=2∨t.kind=5) (hfd:fieldsT t=true):
 Calls Tryz.prog 80 #[.agg (ckC b bh r).toArray,.agg (tmC t A c B d C f).toArray] w fun e' w'=>e' = .returned (.int .i64 (tmE b t))∧Below w.heap.size w w':=by
 have HFD:=aF (fun W=>gC t A B C c d f W)
 have HH:=aF H
 have HTG:=aF ht
 have HL:=aF hl
 have HP:=aF hp
 have hle:=hl.le
 have hbig:=hl.big
 have hle2:=ht.le
 have hbig2:=ht.big
 have hblkl:=H.at_.blk.le
 have hblkb:=H.at_.blk.big
 obtain ⟨R,hR⟩:∃R,tmE b t=R:=⟨_,rfl⟩
 rw [hR]
 have HR:=aF hR
 clear hR H ht hl hp
 obtain ⟨Q,hQ⟩:∃Q,((0:Int))=Q:=⟨_,rfl⟩
 have HQ:=aF hQ
 have HF:Hid (R=if t.targets.all (fun k=>decide (0≤k∧k<(b.blocks.length:Int)))=true then Q else 3):=aF (by
  rw [← HR.out,tmE,aX (by omega),aX (by rw [hfd];simp)]
  rw [← HQ.out]
  cases t.targets.all (fun k=>decide (0≤k∧k<(b.blocks.length:Int)))
  ·simp
  ·simp [show t.kind≠1 by omega,show t.kind≠3 by omega,show t.kind≠4 by omega])
 rw [hfd] at HFD
 clear HR hQ hfd
 unfold ckC at *
 unfold tmC at *
 have k1:(t.kind == 1)=false:=by simp;omega
 have k3:(t.kind == 3)=false:=by simp;omega
 have k4:(t.kind == 4)=false:=by simp;omega
 go_enter Tryz.func80,Tryz.ntmps80
 go_wp2_with (go_at_call 127;refine (HFD.out _).mono ?_;rintro e' w1 ⟨rfl,hb1⟩;have HB:=aF ((bel2 _ _ _).trans (hb1.mono (bel2 _ _ _).size));obtain ⟨y,z⟩:=cR hb1;have HY:=aF y;have HZ:=aF z;obtain ⟨y0,y1,y2,y3,y4,y5,y6,y7⟩:=aR HY.out;obtain ⟨z0,z1,z2,z3,z4,z5⟩:=aP HZ.out;clear y z hb1)
 all_goals try (exfalso;omega)
 go_loop [27] (fun v=>∃k:Nat,k≤t.targets.length∧v = .int .i64 k∧Hid (R=if (t.targets.drop k).all (fun k=>decide (0≤k∧k<(b.blocks.length:Int)))=true then Q else 3)) (fun v=>t.targets.length - (intOf v).toNat)
 case atStart=>exact ⟨0,by omega,rfl,HF⟩
 case round=>
  clear HF
  obtain ⟨k,hk2,rfl,hr⟩:=hrel
  by_cases hlt:k<t.targets.length
  ·have hd:=cU hlt
   obtain ⟨b5,o5,rfl,hb5,hx⟩:=HTG.out.sl.at_ hlt
   obtain ⟨x,hxx⟩:∃x,t.targets[k]=x:=⟨_,rfl⟩
   rw [hxx] at hd hx
   have x0:w1.cell? ⟨b5,o5+k,none⟩=some (.int .i64 x):=cell_keep HB.out (by simpa [RInt] using hx)
   by_cases hin:0≤x∧x<(b.blocks.length:Int)
   ·have HF2:Hid (R=if (t.targets.drop (k+1)).all (fun k=>decide (0≤k∧k<(b.blocks.length:Int)))=true then Q else 3):=aF (by rw [hr.out,hd,cB];simp [hin])
    have e1:¬x<0:=by omega
    have e2:¬(b.blocks.length:Int)≤x:=by omega
    clear hd hx hxx hr hin
    go_wp2_with fail
    all_goals try (exfalso;omega)
    go_round
    case rel=>exact ⟨k+1,by omega,by go_num,HF2⟩
    case measure=>simp [intOf];omega
   ·have HF2:Hid (R=3):=aF (by rw [hr.out,hd,cB];simp;intro h1 h2;exact absurd ⟨h1,h2⟩ hin)
    clear hd hx hxx hr
    go_wp2_with fail
    all_goals first
     | (exfalso;omega)
     | (go_ret;exact ⟨by rw [HF2.out];rfl,HB.out⟩)
  ·have HF2:Hid (R=Q):=aF (by rw [hr.out,bD (by omega:t.targets.length≤k)];rfl)
   clear hr
   go_wp2_with fail
   go_ret
   exact ⟨by rw [HF2.out,← HQ.out];rfl,HB.out⟩
theorem xBJ {b:Bdy} {bh:BH} {r:Nat} {w:World} (H:Ck w b bh r) (t:Trm) (A B C:Option Addr) (c d f:Nat) (ht:Slc 1 RInt w A c t.targets) (hl:Slc 4 ROp w B d t.args) (hp:Slc 2 RPj w C f t.place.proj):
 Calls Tryz.prog 80 #[.agg (ckC b bh r).toArray,.agg (tmC t A c B d C f).toArray] w fun e' w'=>e' = .returned (.int .i64 (tmE b t))∧Below w.heap.size w w':=by
 by_cases h0:t.kind<0∨5<t.kind
 ·exact tD H t A B C c d f ht hl hp (Or.inl h0)
 obtain ⟨q,hq⟩:∃q,fieldsT t=q:=⟨_,rfl⟩
 cases q
 ·exact tD H t A B C c d f ht hl hp (Or.inr ⟨h0,hq⟩)
 rcases (show t.kind=1∨t.kind=3∨t.kind=4∨(t.kind=0∨t.kind=2∨t.kind=5) by omega) with h | h | h | h
 ·exact xEW H t A B C c d f ht hl hp h hq
 ·exact xK H t A B C c d f ht hl hp h hq
 ·exact xJ H t A B C c d f ht hl hp h hq
 ·exact xBI H t A B C c d f ht hl hp h hq
theorem jH {k b:Nat} (hk:k≠b):∀(vs:List Value) (o:Nat) (w:World),(w.setCells b o vs).heap[k]?=w.heap[k]?
 | [],_,_=>rfl
 | v :: vs,o,w=>(jH hk vs (o+1) _).trans (bG w ⟨b,o,none⟩ v k hk)
theorem iX (b:Nat):∀(vs:List Value) (o:Nat) (w:World),(w.setCells b o vs).heap.size=w.heap.size
 | [],_,_=>rfl
 | v :: vs,o,w=>(iX b vs (o+1) _).trans (by simp)
theorem xCY (b:Bdy) (bh:BH) (w:World) (H:BdAt w b bh) (hok:DeclOk b):
 Calls Tryz.prog 78 #[.agg (bdC b bh).toArray] w fun e' w'=>∃r,e' = .returned (.agg (ckC b bh r).toArray)∧Ck w' b bh r∧Below w.heap.size w w':=by
 have HN:=aF (fun (W:World) (hb:Below w.heap.size w W)=>xFZ b.outl b.regions.length bh.A2 bh.c2 W (H.keep hb).out hok.outl (by have:=hok.nreg;omega))
 have HH:=aF H
 have HO:=aF hok
 clear H hok
 unfold bdC ckC
 go_enter Tryz.func78,Tryz.ntmps78
 go_wp2_with (go_at_call 123;refine (HN.out _ (bel2 _ _ _)).mono ?_;rintro e' w1 ⟨r0,M0,c0,F0,ba0,rfl,hrel,hr0,hM0,hb1⟩;have HB:=aF ((bel2 _ _ _).trans (hb1.mono (bel2 _ _ _).size));have HREL:=aF hrel;obtain ⟨y,z⟩:=cR hb1;obtain ⟨y0,y1,y2,y3,y4,y5,y6⟩:=aQ y;have h8:w1.heap[w.heap.size+1]?=some (.cells #[.string ⟨#[]⟩,.slice none 0 0,.slice none 0 0,.slice none 0 0,.slice none 0 0,.int .i64 0,.slice none 0 0,.pointer none] 137):=(hb1.block _ (by simp)).trans (by rw [uO _ _ _ (by simp)]);have f8:∀i,w1.frozen? ⟨w.heap.size+1,i,none⟩=false:=(fun i=>(by unfold World.frozen?;simp only [h8];simp));obtain ⟨z0,z1,z2,z3,z4,z5,z6,z7⟩:=aR z;have H8:=aF h8;simp only [bH] at hr0 hM0;clear h8 y z hb1 hrel)
 generalize hW2:((((((((w1.setCell ⟨w.heap.size+1,0,none⟩ (Value.string b.name)).setCell ⟨w.heap.size+1,1,none⟩ (Value.slice bh.A1 b.regions.length bh.c1)).setCell ⟨w.heap.size+1,2,none⟩ (Value.slice bh.A2 b.outl.length bh.c2)).setCell ⟨w.heap.size+1,3,none⟩ (Value.slice bh.A3 b.types.length bh.c3)).setCell ⟨w.heap.size+1,4,none⟩ (Value.slice bh.A4 b.locals.length bh.c4)).setCell ⟨w.heap.size+1,5,none⟩ (Value.int IntKind.i64 b.args)).setCell ⟨w.heap.size+1,6,none⟩ (Value.slice bh.A5 b.blocks.length bh.c5)).setCell ⟨w.heap.size+1,7,none⟩ (Value.pointer (some ⟨r0,0,none⟩)))=W2
 have hW:w1.setCells (w.heap.size+1) 0 (ckC b bh r0)=W2:=hW2
 have hth:w1.there (w.heap.size+1) 0 8:=fun j hj=>⟨by
  rw [Nat.zero_add]
  match j,hj with
  | 0,_=>rw [z0];rfl
  | 1,_=>rw [z1];rfl
  | 2,_=>rw [z2];rfl
  | 3,_=>rw [z3];rfl
  | 4,_=>rw [z4];rfl
  | 5,_=>rw [z5];rfl
  | 6,_=>rw [z6];rfl
  | 7,_=>rw [z7];rfl,f8 _⟩
 have hcl:=World.rangeAt_setCells_same w1 (w.heap.size+1) 0 (ckC b bh r0) hth
 have hbo:∀k,k≠w.heap.size+1→W2.heap[k]?=w1.heap[k]?:=fun k hk=>by rw [← hW];exact jH hk _ _ _
 have hsz:W2.heap.size=w1.heap.size:=by rw [← hW];exact iX _ _ _ _
 have hGI:=HREL.out.but (lo:=w.heap.size+2) hr0 hM0 (w':=W2) (fun k h1 _=>hbo k (by omega)) (by omega)
 have hBL:Below w.heap.size w W2:=by rw [← hW];exact dP (Nat.le_succ _) _ _ _ HB.out
 rw [hW] at hcl
 have v0:=hcl 0 _ rfl
 have v1:=hcl 1 _ rfl
 have v2:=hcl 2 _ rfl
 have v3:=hcl 3 _ rfl
 have v4:=hcl 4 _ rfl
 have v5:=hcl 5 _ rfl
 have v6:=hcl 6 _ rfl
 have v7:=hcl 7 _ rfl
 simp only [Nat.zero_add] at v0 v1 v2 v3 v4 v5 v6 v7
 have HCK:=aF (show Ck W2 b bh r0 from ⟨HH.out.keep hBL,HO.out,hGI.rel3⟩)
 have HBL:=aF hBL
 clear hGI hbo hcl hth hW hW2 hsz hBL HREL HH HO f8 z0 z1 z2 z3 z4 z5 z6 z7
 exact bodyPost_ret (v:= .agg (ckC b bh r0).toArray) (by simp [results,Tryz.results78,go_sem,v0,v1,v2,v3,v4,v5,v6,v7];rfl) rfl ⟨r0,rfl,HCK.out,HBL.out⟩
end
section
open Go Go.ChangeShapes Go.WideShapes Go.ChangeAt Go.RowKit Go.Joins Go.Deep
theorem xGA {α : Type} {n:Nat} {p:Nat→ α → Prop} (h:∀i,i<n→∃x,p i x):∃xs:List α,xs.length=n∧∀i x,xs[i]?=some x→p i x:=by
 induction n with
 | zero=>exact ⟨[],rfl,by simp⟩
 | succ n ih=>
   obtain ⟨xs,hl,hx⟩:=ih (fun i hi=>h i (by omega))
   obtain ⟨y,hy⟩:=h n (by omega)
   refine ⟨xs ++ [y],by simp [hl],fun i x hi=>?_⟩
   by_cases hin:i<n
   ·rw [List.getElem?_append_left (by omega)] at hi
    exact hx i x hi
   ·have hlt:=(List.getElem?_eq_some_iff.1 hi).1
    simp only [aZ,cH] at hlt
    obtain rfl:i=n:=by omega
    rw [← hl,List.getElem?_concat_length] at hi
    cases hi
    exact hy
theorem uP (b o n:Nat):(⟨b,o,none⟩:Addr).add n=⟨b,o+n,none⟩:=by
 unfold Addr.add
 split
 ·next h=>subst h;rfl
 ·rfl
theorem xR {w:World} {a:Addr} {v:Value} (h:w.cell? a=some v):a.spot=none:=by
 cases hs:a.spot with
 | none=>rfl
 | some x=>
   unfold World.cell? at h
   rw [hs] at h
   split at h
   ·simp at h
   ·cases h
section
variable {H:Type} {enc:TypeId × Value→H} {P:Program} {w:World} {base:Nat} {spare:Nat→Bool} {held:Bool}
theorem sI {α : Type} {k:Nat} {R:Rd α} {t e:TypeId} {fuel:Nat} {cs:List Value} {x:DataW H × List MemPlace} (ht:P.underlying t=some (.slice e)) (hk:P.cellsOf e=k) (hk0:0<k)
 (h:DataW.trod enc P w base spare held fuel t cs=some x)
 (hR:∀(b o n:Nat) (cs':List Value) (y:DataW H × List MemPlace),cs'.length=k→(∀j,j<k→w.cell? ⟨b,o+j,none⟩=cs'[j]?)→DataW.trod enc P w base spare held n e cs'=some y→∃z,R w w.heap.size b o z):
 ∃A c,∃xs:List α,cs=[.slice A xs.length c]∧Slc k R w A c xs:=by
 rcases open_slice ht h with ⟨rfl,_⟩ | ⟨a,len,cap,m,n,D,Pl,rfl,hb,hl,hm,hmm,hx,hi⟩
 ·exact ⟨none,0,[],rfl,Sl.nil,by simp,by omega⟩
 ·obtain ⟨b,off,s⟩:=a
  have hlm:len≤m:=by rw [hmm];split <;> omega
  rw [hk] at hi
  unfold maxLen at hm
  by_cases h0:len=0
  ·subst h0
   exact ⟨_,cap,[],rfl,Sl.nil,by simp,hm⟩
  ·have hfirst:∃v,w.cell? ⟨b,off,s⟩=some v:=by
    obtain ⟨cs',hc,_⟩:=hi 0 (by omega)
    obtain ⟨_,hcl,hat⟩:=World.cells?_some hc
    have h1:=hat 0 hk0
    rw [bB (by omega)] at h1
    simp only [Nat.zero_mul,Addr.add,if_true] at h1
    exact ⟨_,h1⟩
   obtain ⟨v,hv⟩:=hfirst
   have hs:s=none:=xR hv
   subst hs
   obtain ⟨xs,hxl,hxs⟩:=xGA (n:=len) (p:=fun i z=>R w w.heap.size b (off+i * k) z) (fun i hi'=>by
    obtain ⟨cs',hc,ht'⟩:=hi i (by omega)
    obtain ⟨_,hcl,hat⟩:=World.cells?_some hc
    refine hR b (off+i * k) n cs' _ hcl (fun j hj=>?_) ht'
    have h1:=hat j hj
    rw [uP,uP] at h1
    exact h1)
   exact ⟨_,cap,xs,by rw [hxl],⟨fun _=>⟨b,off,rfl,cD _ _ hv,hxs⟩,by omega,hm⟩⟩
theorem zP {e:TypeId} {fs:Array Field} {n:Nat} {cs:List Value} {y:DataW H × List MemPlace} (he:P.underlying e=some (.struct fs)) (hone:oneCellFields P fs=true)
 (h:DataW.trod enc P w base spare held n e cs=some y) (hl:cs.length=fs.size) {j:Nat} {f:Field} (hf:fs[j]?=some f):
 ∃v m y',cs[j]?=some v∧DataW.trod enc P w base spare held m f.type [v]=some y':=by
 obtain ⟨ys,m,_,_,_,hyl,hfl⟩:=DataW.trod_struct he h
 have hjl:j<fs.size:=(Array.getElem?_eq_some_iff.1 hf).1
 obtain ⟨ho,hk⟩:=hone_of hone j f hf
 have h1:=hfl j f hf
 rw [ho,hk,cI (show j<cs.length by omega)] at h1
 refine ⟨cs[j],m,ys[j],bB _,?_⟩
 rw [bB (show j<ys.length by omega)] at h1
 exact h1
theorem iU (hl:laidOutB P=true) {W W':World} {sp:Nat→Bool}:∀(ts:List TypeId) (vs:List Value) (ds:List (DataW H)) (ps:List MemPlace),
 (∀t∈ts,P.readableRec t=true∧t<P.types.size)→DataW.TrodAll enc P W 0 (fun _=>true) true ts vs ds ps→(∀p∈ps,W.sameAt W' p)→(∀p∈ps,sp p.block=true)→DataW.TrodAll enc P W' 0 sp true ts vs ds ps
 | [],[],[],_,_,h,_,_=>h
 | t :: ts,v :: vs,d :: ds,ps,hr,h,hs,hp=>by
   obtain ⟨p,q,h1,h2,rfl⟩:=h
   exact ⟨p,q,WideElems.Trod_stays hl (hr t (by simp)).1 (hr t (by simp)).2 h1 (fun x hx=>hs x (by simp [hx])) (fun x hx=>hp x (by simp [hx])),
    iU hl ts vs ds q (fun t' ht=>hr t' (by simp [ht])) h2 (fun x hx=>hs x (by simp [hx])) (fun x hx=>hp x (by simp [hx])),rfl⟩
 | [],[],_ :: _,_,_,h,_,_=>h.elim
 | [],_ :: _,_,_,_,h,_,_=>h.elim
 | _ :: _,[],_,_,_,h,_,_=>h.elim
 | _ :: _,_ :: _,[],_,_,h,_,_=>h.elim
theorem xDB {f:Func} {s:ChangeSpec} {apart fresh handsOn:Bool} {W W':World} {args:Array Value} {ds:List (DataW H)} {before:List MemPlace} {tb:TypeId}
 (hl:laidOutB P=true) (hvars:s.vars=[]) (hrt:f.resultTypes = #[tb]) (htb:P.underlying tb=some .bool)
 (hfn:s.fn H ds={ results:=[.lit (.bool true)],args:=ds }) (hrd:∀t∈f.params.toList,P.readableRec t=true∧t<P.types.size)
 (hW:DataW.Whole enc P f.params.toList s.vars apart W args.toList ds [] before) (hb:Below W.heap.size W W'):
 s.post enc P f apart fresh handsOn false W args (.bool true) W':=by
 have hlt:∀p∈before,p.block<W.heap.size:=fun p hp=>hW.lt p hp
 have hW2:=hW
 obtain ⟨p,q,hA,hV,hbe,_,_⟩:=hW2
 rw [hvars] at hV
 obtain ⟨_,rfl⟩:=trodVars_none hV
 rw [List.append_nil] at hbe
 subst hbe
 refine ⟨ds,[],before,[],before,[],hW,?_,?_,?_,World.keptBut_mono (fun p hp=>⟨hp,Or.inr (Or.inl hp)⟩) (hb.frame (· ∈ before)),fun h=>by cases h⟩
 ·rw [List.append_nil,hfn,hrt]
  exact trodAll_mk1 (shut_bool htb true)
 ·rw [List.append_nil,hfn]
  exact iU hl _ _ _ _ hrd hA (fun x hx=>hb.same (hlt x hx)) (fun x hx=>by simpa using hlt x hx)
 ·rw [List.append_nil,hfn,hvars]
  rfl
end
theorem Tryz.own:ownKnob Tryz.prog.godebug=none:=by kernel_rfl
theorem Tryz.laidOut:laidOutB Tryz.prog=true:=by kernel_rfl
section
variable {H:Type} {enc:TypeId × Value→H} {w:World} {base:Nat} {spare:Nat→Bool} {held:Bool}
theorem wC {r:Reach} {b0:Nat} {v:Value} {d:DataW H} {p:List MemPlace} (hv:Value.okWide Tryz.prog w r b0 22 v) (h:DataW.Trod enc Tryz.prog w base spare held 22 v d p):
 ∃(A:Option Addr) (c:Nat) (xs:List ByteArray),v = .slice A xs.length c∧Slc 1 RN w A c xs:=by
 obtain ⟨a0,len,cap,rfl⟩:=okWide_slice Tryz.underlying22 hv
 obtain ⟨fuel,hf⟩:=h
 obtain ⟨A,c,xs,hts,hs⟩:=sI (R:=RN) (k:=1) Tryz.underlying22 (by kernel_rfl) (by omega) hf (fun b o m cs' y hl' hc ht=>by
  obtain ⟨k0,q0,_,_⟩:=DataW.trod_string Tryz.underlying9 ht
  subst q0
  exact ⟨k0,hc 0 (by omega)⟩)
 have hvv:Value.slice a0 len cap = .slice A xs.length c:=by simpa [Value.cells] using hts
 exact ⟨A,c,xs,hvv,hs⟩
end
theorem zA {α : Type}:∀{l:List α},l.length=2→∃a b,l=[a,b]
 | [a,b],_=>⟨a,b,rfl⟩
section
variable {H:Type} {enc:TypeId × Value→H} {P:Program} {w:World} {base:Nat} {spare:Nat→Bool} {held:Bool}
theorem yT {e:TypeId} {f0 f1:Field} {m:Nat} {cs:List Value} {a b:Int} {x:DataW H × List MemPlace} (he:P.underlying e=some (.struct #[f0,f1])) (hone:oneCellFields P #[f0,f1]=true) (hC:P.cellsOf e=2)
 (hf0:P.underlying f0.type=some (.int .i64)) (hf1:P.underlying f1.type=some (.int .i64))
 (h:DataW.trod enc P w base spare held m e cs=some x) (hx1:x.1 = .agg [.lit (.int .i64 a),.lit (.int .i64 b)]):cs[0]?=some (.int .i64 a)∧cs[1]?=some (.int .i64 b):=by
 obtain ⟨ys,n,_,rfl,hcl,hyl,hfl⟩:=DataW.trod_struct he h
 obtain ⟨y0,y1,rfl⟩:=zA (show ys.length=2 from hyl)
 obtain ⟨c0,c1,rfl⟩:=zA (hcl.trans hC)
 obtain ⟨o0,k0⟩:=hone_of hone 0 f0 rfl
 obtain ⟨o1,k1⟩:=hone_of hone 1 f1 rfl
 have g0:=hfl 0 f0 rfl
 have g1:=hfl 1 f1 rfl
 rw [o0,k0] at g0
 rw [o1,k1] at g1
 obtain ⟨n0,e0,z0,_⟩:=DataW.trod_int (k:= .i64) (x:=y0) hf0 g0
 obtain ⟨n1,e1,z1,_⟩:=DataW.trod_int (k:= .i64) (x:=y1) hf1 g1
 simp only [cK,cM,z0,z1,DataW.agg.injEq,List.cons.injEq,DataW.lit.injEq,Lit.int.injEq,and_true,true_and] at hx1
 obtain ⟨rfl,rfl⟩:=hx1
 simp at e0 e1
 subst e0 e1
 exact ⟨rfl,rfl⟩
theorem wB {t e:TypeId} {n:Nat} {f0 f1:Field} {m:Nat} {cs:List Value} {l:List (Int × Int)} {x:DataW H × List MemPlace} (ht:P.underlying t=some (.array n e)) (he:P.underlying e=some (.struct #[f0,f1])) (hone:oneCellFields P #[f0,f1]=true) (hC:P.cellsOf e=2)
 (hf0:P.underlying f0.type=some (.int .i64)) (hf1:P.underlying f1.type=some (.int .i64))
 (h:DataW.trod enc P w base spare held m t cs=some x) (hx:x.1 = .agg (l.map fun p=> .agg [.lit (.int .i64 p.1),.lit (.int .i64 p.2)])) (i:Nat) (p:Int × Int) (hi:l[i]?=some p):
 cs[i * 2]?=some (.int .i64 p.1)∧cs[i * 2+1]?=some (.int .i64 p.2):=by
 obtain ⟨xs,k,_,rfl,hcl,hxl,hel⟩:=DataW.trod_array ht h
 have hm:xs.map (·.1)=l.map fun p=> .agg [.lit (.int .i64 p.1),.lit (.int .i64 p.2)]:=by simpa using hx
 have hll:xs.length=l.length:=by simpa using congrArg List.length hm
 have hil:=(List.getElem?_eq_some_iff.1 hi).1
 have h1:=hel i (by omega)
 rw [hC,bB (show i<xs.length by omega)] at h1
 have hx1:xs[i].1 = .agg [.lit (.int .i64 p.1),.lit (.int .i64 p.2)]:=by
  have:=congrArg (fun z=>z[i]?) hm
  simp only [cO,hi,bB (show i<xs.length by omega),Option.map_some,cJ] at this
  exact this
 obtain ⟨q0,q1⟩:=yT he hone hC hf0 hf1 h1 hx1
 simp only [List.getElem?_take,List.getElem?_drop,Nat.add_zero] at q0 q1
 rw [aY (by omega)] at q0 q1
 exact ⟨q0,q1⟩
end
theorem gUn : Tryz.prog.globalNamed "mirtower/valid.unary" = some 0 := by kernel_rfl
theorem gUnT:(Tryz.prog.globals[0]?).map (·.type)=some 249:=by kernel_rfl
theorem gBi : Tryz.prog.globalNamed "mirtower/valid.binary" = some 1 := by kernel_rfl
theorem gBiT:(Tryz.prog.globals[1]?).map (·.type)=some 250:=by kernel_rfl
theorem xDR:Tryz.prog.cellsOf 248=2:=by kernel_rfl
theorem mW {n:String} {g:Nat} {tid:TypeId} {k:Nat} {l:List (Int × Int)} {r:List (String × DataW Unit)} {w:World} (hg:Tryz.prog.globalNamed n=some g) (ht:(Tryz.prog.globals[g]?).map (·.type)=some tid) (hu:Tryz.prog.underlying tid=some (.array k 248)) (hk:l.length=k) (hk0:0<k) (hkm:k≤1000)
 (h:laidMet Tryz.prog ((n,.agg (l.map fun p=> .agg [.lit (.int .i64 p.1),.lit (.int .i64 p.2)])) :: r) w):Slc 2 RPr w (some ⟨g,0,none⟩) k l:=by
 subst hk
 obtain ⟨ps,⟨g0,t0,cs0,f0,p0,q0,hg0,ht0,hv0,hd0,_,e0⟩,_,_⟩:=h
 obtain rfl:=Option.some.inj (hg.symm.trans hg0)
 obtain rfl:=Option.some.inj (ht.symm.trans ht0)
 have hc:=fun i p hi=>wB hu Tryz.underlying248 (by kernel_rfl) xDR Tryz.underlying3 Tryz.underlying3 hd0 rfl i p hi
 have hcell:=fun i=>World.var?_cell hg0 hv0 i
 refine ⟨fun _=>⟨g,0,rfl,?_,fun i p hi=>?_⟩,aW _,by omega⟩
 ·obtain ⟨p,hp⟩:∃p,l[0]?=some p:=⟨_,bB hk0⟩
  have h1:=(hc 0 p hp).1
  have h2:=hcell 0
  rw [show cs0[0]?=cs0.toList[0]? from (Array.getElem?_toList ..).symm,show cs0.toList[0]?=_ from h1] at h2
  exact cD _ _ h2
 ·have h1:=hc i p hi
  have h2:=hcell (i * 2)
  have h3:=hcell (i * 2+1)
  rw [← Array.getElem?_toList,h1.1] at h2
  rw [← Array.getElem?_toList,h1.2] at h3
  refine ⟨?_,?_⟩
  ·rw [Nat.zero_add];exact h2
  ·rw [Nat.zero_add];exact h3
theorem xEY {w:World} (h:laidMetH Tryz.prog Rows.bindeclDecodesRow.laid w):TabsOk w:=by
 rw [MakeChecks.laidMetH_plain _ _ _ (by kernel_rfl)] at h
 exact ⟨mW gUn gUnT Tryz.underlying249 rfl (by omega) (by omega) (l:=iQ) h.tail,
  mW gBi gBiT Tryz.underlying250 rfl (by omega) (by omega) (l:=gJ) h.tail.tail⟩
end
end Go.Proofs.YtbnljlpefpllcaaGreatDoor
