/-
  Parts of the proof: V38B V38C V38D V38N V38O V38E V39I V39C V39D V39O V39E V40 HS V67A.
-/
import Derived.Test.YtcfchohkmkilpaaGreatDoorLP0
import Derived.Test.YtcfchohkmkilpaaGreatDoorLP10
import Derived.Test.YtcfchohkmkilpaaGreatDoorLP9
import Derived.Test.YtcfchohkmkilpaaGreatDoorLP5
import Derived.Test.YtcfchohkmkilpaaGreatDoorSj
import Derived.Sort.OwnSortedInts
import Derived.Lib.SlKeysI
namespace Go.Proofs.YtcfchohkmkilpaaGreatDoor
set_option maxRecDepth 100000
set_option maxHeartbeats 16000000
section
open Go Go.RowKit Go.Maps
theorem yU {b:Bdy} {bh:BH} {r:Nat} {w:World} (H:Ck w b bh r) (hT:TabsOk w) (s:Stm) (A0 A B:Option Addr) (c0 c d:Nat) (hp0:Slc 2 RPj w A0 c0 s.place.proj) (hp:Slc 2 RPj w A c s.rv.place.proj) (hl:Slc 4 ROp w B d s.rv.args) (hk:s.kind=0) (hloc:s.loc=0) (hw:writE b s.place≠0):
 Calls Tryz.prog 75 #[.agg (ckC b bh r).toArray,.agg (stC s A0 c0 A c B d).toArray] w fun e' w'=>e' = .returned (.int .i64 (stE b s))/\Below w.heap.size w w':=by
 have HZZ:=aF eW;have HH:=aF H;have HT:=aF hT;have HP0:=aF hp0;have HP:=aF hp;have HL:=aF hl;have hle:=hl.le;have hbig:=hl.big;have hlocl:=H.at_.loc.le;have hlocb:=H.at_.loc.big;obtain ⟨R,hR⟩:∃R,stE b s=R:=⟨_,rfl⟩;rw [hR];have HR:=aF hR;obtain ⟨q1,hq1⟩:∃q,zeroP s.place=q:=⟨_,rfl⟩;obtain ⟨q2,hq2⟩:∃q,(s.rv.kind == 0)=q:=⟨_,rfl⟩;obtain ⟨q3,hq3⟩:∃q,(s.rv.op == 0)=q:=⟨_,rfl⟩;obtain ⟨q4,hq4⟩:∃q,((s.rv.args.length:Int) == 0)=q:=⟨_,rfl⟩;obtain ⟨q5,hq5⟩:∃q,(s.rv.reg == 0)=q:=⟨_,rfl⟩;obtain ⟨q6,hq6⟩:∃q,s.rv.mu=q:=⟨_,rfl⟩;obtain ⟨q7,hq7⟩:∃q,zeroP s.rv.place=q:=⟨_,rfl⟩
 have HBL:Hid (blankR s.rv=(q2 && q3 && q4 && q5 && !q6 && q7)):=aF (by
  unfold blankR;rw [<- hq2,<- hq3,<- hq4,<- hq5,<- hq6,<- hq7,eP]
  rfl)
 have HQ1:=aF hq1;have HQ7:=aF hq7;have HQ2:=aF hq2;have HQ3:=aF hq3;have HQ4:=aF hq4;have HQ5:=aF hq5;have HQ6:=aF hq6;clear hq1 hq2 hq3 hq4 hq5 hq7;have HF:Hid (R=writE b s.place):=aF (by rw [<- HR.out,stE,bA hk,aZ (by simp [hloc]),bA hw]);have e1:(s.loc != 0)=false:=by simp [hloc]
 have HW:=aF (fun (W:World) (hb:Below w.heap.size w W)=>gE b bh r s.place A0 c0 W (HH.out.keep hb).at_ (HP0.out.keep RPj.keeps hb) HH.out.ok.okay);generalize writE b s.place=we at HF HW hw;have e2:(we != 0)=true:=by simp [hw]
 clear HBL hloc hw;clear HR hR H hT hp0 hp hl;rcases (show q1=false\/(q1=true/\q2=false)\/(q1=true/\q2=true/\q3=false)\/(q1=true/\q2=true/\q3=true/\q4=false)\/(q1=true/\q2=true/\q3=true/\q4=true/\q5=false)\/(q1=true/\q2=true/\q3=true/\q4=true/\q5=true/\q6=true)\/(q1=true/\q2=true/\q3=true/\q4=true/\q5=true/\q6=false) by cases q1 <;> cases q2 <;> cases q3 <;> cases q4 <;> cases q5 <;> cases q6 <;> simp) with rfl | ⟨rfl,rfl⟩ | ⟨rfl,rfl,rfl⟩ | ⟨rfl,rfl,rfl,rfl⟩ | ⟨rfl,rfl,rfl,rfl,rfl⟩ | ⟨rfl,rfl,rfl,rfl,rfl,rfl⟩ | ⟨rfl,rfl,rfl,rfl,rfl,rfl⟩
 all_goals
  have g2:=HQ2.out;have g3:=HQ3.out;have g4:=HQ4.out;have g5:=HQ5.out;have g6:=HQ6.out;unfold ckC at *;unfold stC;rw [hk];go_enter Tryz.func75,Tryz.ntmps75
  go_wp2_with (first | (go_at_call 111;refine (HZZ.out _ _ _ _).mono ?_;rintro e' w2 ⟨rfl,hb2⟩;rw [HQ7.out];have HB2:=aF (HB.out.trans (hb2.mono HB.out.size));have HY2:=aF (cP HY.out hb2);have HZ3:=aF (cP HZ.out hb2);have HU2:=aF (cP HU.out hb2);clear y0 y1 y2 y3 y4 y5 y6 y7 z0 z1 z2 z10 u0 u1 u2 u3 u4 u5 u6 HY HZ HU HB;have HB:=HB2;have HY:=HY2;have HZ:=HZ3;have HU:=HU2;obtain ⟨y0,y1,y2,y3,y4,y5,y6,y7⟩:=aT HY.out;obtain ⟨z0,z1,z2,-,-,-,-,-,-,-,z10⟩:=aW HZ.out;obtain ⟨u0,u1,u2,u3,u4,u5,u6⟩:=aS HU.out;clear hb2 HB2 HY2 HZ3 HU2) | (go_at_call 111;refine (HZZ.out _ _ _ _).mono ?_;rintro e' w1 ⟨rfl,hb1⟩;rw [HQ1.out];have HB:=aF ((bel3 _ _ _ _).trans (hb1.mono (bel3 _ _ _ _).size));obtain ⟨y,z,u⟩:=dL hb1;have HY:=aF y;have HZ:=aF z;have HU:=aF u;obtain ⟨y0,y1,y2,y3,y4,y5,y6,y7⟩:=aT HY.out;obtain ⟨z0,z1,z2,-,-,-,-,-,-,-,z10⟩:=aW HZ.out;obtain ⟨u0,u1,u2,u3,u4,u5,u6⟩:=aS HU.out;clear y z u hb1) | (go_at_call 112;refine (HW.out _ HB.out).mono ?_;rintro e' w3 ⟨rfl,hb3⟩;have HBW:=aF (HB.out.trans (hb3.mono HB.out.size));have HY3:=aF (cP HY.out hb3);have HU3:=aF (cP HU.out hb3);clear y0 y1 y2 y3 y4 y5 y6 y7 u0 u1 u2 u3 u4 u5 u6;obtain ⟨y0,y1,y2,y3,y4,y5,y6,y7⟩:=aT HY3.out;obtain ⟨u0,u1,u2,u3,u4,u5,u6⟩:=aS HU3.out;clear hb3))
  all_goals first
   | (exfalso;omega)
   | (go_ret;exact ⟨by rw [HF.out];rfl,by first | exact HBW2.out | exact HBW.out | exact HB.out⟩)
theorem yY {b:Bdy} {bh:BH} {r:Nat} {w:World} (H:Ck w b bh r) (hT:TabsOk w) (s:Stm) (A0 A B:Option Addr) (c0 c d:Nat) (hp0:Slc 2 RPj w A0 c0 s.place.proj) (hp:Slc 2 RPj w A c s.rv.place.proj) (hl:Slc 4 ROp w B d s.rv.args) (hk:s.kind=0) (hloc:s.loc=0) (hw:writE b s.place=0):
 Calls Tryz.prog 75 #[.agg (ckC b bh r).toArray,.agg (stC s A0 c0 A c B d).toArray] w fun e' w'=>e' = .returned (.int .i64 (stE b s))/\Below w.heap.size w w':=by
 have HZZ:=aF eW;have HH:=aF H;have HT:=aF hT;have HP0:=aF hp0;have HP:=aF hp;have HL:=aF hl;have hle:=hl.le;have hbig:=hl.big;have hlocl:=H.at_.loc.le;have hlocb:=H.at_.loc.big;obtain ⟨R,hR⟩:∃R,stE b s=R:=⟨_,rfl⟩;rw [hR];have HR:=aF hR;obtain ⟨q1,hq1⟩:∃q,zeroP s.place=q:=⟨_,rfl⟩;obtain ⟨q2,hq2⟩:∃q,(s.rv.kind == 0)=q:=⟨_,rfl⟩;obtain ⟨q3,hq3⟩:∃q,(s.rv.op == 0)=q:=⟨_,rfl⟩;obtain ⟨q4,hq4⟩:∃q,((s.rv.args.length:Int) == 0)=q:=⟨_,rfl⟩;obtain ⟨q5,hq5⟩:∃q,(s.rv.reg == 0)=q:=⟨_,rfl⟩;obtain ⟨q6,hq6⟩:∃q,s.rv.mu=q:=⟨_,rfl⟩;obtain ⟨q7,hq7⟩:∃q,zeroP s.rv.place=q:=⟨_,rfl⟩
 have HBL:Hid (blankR s.rv=(q2 && q3 && q4 && q5 && !q6 && q7)):=aF (by
  unfold blankR;rw [<- hq2,<- hq3,<- hq4,<- hq5,<- hq6,<- hq7,eP]
  rfl)
 have HQ1:=aF hq1;have HQ7:=aF hq7;have HQ2:=aF hq2;have HQ3:=aF hq3;have HQ4:=aF hq4;have HQ5:=aF hq5;have HQ6:=aF hq6;clear hq1 hq2 hq3 hq4 hq5 hq7;have HF:Hid (R=rvE b s.rv (tyB b s.place).1):=aF (by rw [<- HR.out,stE,bA hk,aZ (by simp [hloc]),aZ (by simp [hw])]);have e1:(s.loc != 0)=false:=by simp [hloc]
 have HW:=aF (fun (W:World) (hb:Below w.heap.size w W)=>gE b bh r s.place A0 c0 W (HH.out.keep hb).at_ (HP0.out.keep RPj.keeps hb) HH.out.ok.okay)
 have hte:(tyB b s.place).2=0:=by
  unfold writE at hw;by_cases h:(tyB b s.place).2≠0
  ·rw [bA h] at hw;exact hw
  ·simpa using h
 have hin:=fW H.ok.okay (l:=s.place.loc) (ps:=s.place.proj) hte;change 0<=(tyB b s.place).1/\(tyB b s.place).1<b.types.length at hin;rw [hw] at HW;obtain ⟨t,htt⟩:=bG hin.1;have hin2:=hin.2;rw [htt] at HF HW hin2;have HRV0:=aF (fun (W:World) (hb:Below w.heap.size w W)=>sY (HH.out.keep hb) (HT.out.keep hb) s.rv t (by omega) A B c d (HP.out.keep RPj.keeps hb) (HL.out.keep ROp.keeps hb));unfold rvC at HRV0;rw [hq6] at HRV0;have HRV:=HRV0;clear HBL hloc hw hte hin hin2 htt HRV0;clear HR hR H hT hp0 hp hl;rcases (show q1=false\/(q1=true/\q2=false)\/(q1=true/\q2=true/\q3=false)\/(q1=true/\q2=true/\q3=true/\q4=false)\/(q1=true/\q2=true/\q3=true/\q4=true/\q5=false)\/(q1=true/\q2=true/\q3=true/\q4=true/\q5=true/\q6=true)\/(q1=true/\q2=true/\q3=true/\q4=true/\q5=true/\q6=false) by cases q1 <;> cases q2 <;> cases q3 <;> cases q4 <;> cases q5 <;> cases q6 <;> simp) with rfl | ⟨rfl,rfl⟩ | ⟨rfl,rfl,rfl⟩ | ⟨rfl,rfl,rfl,rfl⟩ | ⟨rfl,rfl,rfl,rfl,rfl⟩ | ⟨rfl,rfl,rfl,rfl,rfl,rfl⟩ | ⟨rfl,rfl,rfl,rfl,rfl,rfl⟩
 all_goals
  have g2:=HQ2.out;have g3:=HQ3.out;have g4:=HQ4.out;have g5:=HQ5.out;have g6:=HQ6.out;unfold ckC at *;unfold stC;rw [hk];go_enter Tryz.func75,Tryz.ntmps75
  go_wp2_with (first | (go_at_call 111;refine (HZZ.out _ _ _ _).mono ?_;rintro e' w2 ⟨rfl,hb2⟩;rw [HQ7.out];have HB2:=aF (HB.out.trans (hb2.mono HB.out.size));have HY2:=aF (cP HY.out hb2);have HZ3:=aF (cP HZ.out hb2);have HU2:=aF (cP HU.out hb2);clear y0 y1 y2 y3 y4 y5 y6 y7 z0 z1 z2 z10 u0 u1 u2 u3 u4 u5 u6 HY HZ HU HB;have HB:=HB2;have HY:=HY2;have HZ:=HZ3;have HU:=HU2;obtain ⟨y0,y1,y2,y3,y4,y5,y6,y7⟩:=aT HY.out;obtain ⟨z0,z1,z2,-,-,-,-,-,-,-,z10⟩:=aW HZ.out;obtain ⟨u0,u1,u2,u3,u4,u5,u6⟩:=aS HU.out;clear hb2 HB2 HY2 HZ3 HU2) | (go_at_call 111;refine (HZZ.out _ _ _ _).mono ?_;rintro e' w1 ⟨rfl,hb1⟩;rw [HQ1.out];have HB:=aF ((bel3 _ _ _ _).trans (hb1.mono (bel3 _ _ _ _).size));obtain ⟨y,z,u⟩:=dL hb1;have HY:=aF y;have HZ:=aF z;have HU:=aF u;obtain ⟨y0,y1,y2,y3,y4,y5,y6,y7⟩:=aT HY.out;obtain ⟨z0,z1,z2,-,-,-,-,-,-,-,z10⟩:=aW HZ.out;obtain ⟨u0,u1,u2,u3,u4,u5,u6⟩:=aS HU.out;clear y z u hb1) | (go_at_call 112;refine (HW.out _ HB.out).mono ?_;rintro e' w3 ⟨rfl,hb3⟩;have HBW:=aF (HB.out.trans (hb3.mono HB.out.size));have HY3:=aF (cP HY.out hb3);have HU3:=aF (cP HU.out hb3);clear y0 y1 y2 y3 y4 y5 y6 y7 u0 u1 u2 u3 u4 u5 u6;obtain ⟨y0,y1,y2,y3,y4,y5,y6,y7⟩:=aT HY3.out;obtain ⟨u0,u1,u2,u3,u4,u5,u6⟩:=aS HU3.out;clear hb3) | (go_at_call 113;refine (HRV.out _ HBW.out).mono ?_;rintro e' w4 ⟨rfl,hb4⟩;have HBW2:=aF (HBW.out.trans (hb4.mono HBW.out.size));clear hb4))
  all_goals first
   | (exfalso;omega)
   | (go_ret;exact ⟨by rw [HF.out];rfl,by first | exact HBW2.out | exact HBW.out | exact HB.out⟩)
theorem vG {b:Bdy} {bh:BH} {r:Nat} {w:World} (H:Ck w b bh r) (hT:TabsOk w) (s:Stm) (A0 A B:Option Addr) (c0 c d:Nat) (hp0:Slc 2 RPj w A0 c0 s.place.proj) (hp:Slc 2 RPj w A c s.rv.place.proj) (hl:Slc 4 ROp w B d s.rv.args) (hk:s.kind=1):
 Calls Tryz.prog 75 #[.agg (ckC b bh r).toArray,.agg (stC s A0 c0 A c B d).toArray] w fun e' w'=>e' = .returned (.int .i64 (stE b s))/\Below w.heap.size w w':=by
 have HZZ:=aF eW;have HH:=aF H;have HT:=aF hT;have HP0:=aF hp0;have HP:=aF hp;have HL:=aF hl;have hle:=hl.le;have hbig:=hl.big;have hlocl:=H.at_.loc.le;have hlocb:=H.at_.loc.big;obtain ⟨R,hR⟩:∃R,stE b s=R:=⟨_,rfl⟩;rw [hR];have HR:=aF hR;obtain ⟨q1,hq1⟩:∃q,zeroP s.place=q:=⟨_,rfl⟩;obtain ⟨q2,hq2⟩:∃q,(s.rv.kind == 0)=q:=⟨_,rfl⟩;obtain ⟨q3,hq3⟩:∃q,(s.rv.op == 0)=q:=⟨_,rfl⟩;obtain ⟨q4,hq4⟩:∃q,((s.rv.args.length:Int) == 0)=q:=⟨_,rfl⟩;obtain ⟨q5,hq5⟩:∃q,(s.rv.reg == 0)=q:=⟨_,rfl⟩;obtain ⟨q6,hq6⟩:∃q,s.rv.mu=q:=⟨_,rfl⟩;obtain ⟨q7,hq7⟩:∃q,zeroP s.rv.place=q:=⟨_,rfl⟩
 have HBL:Hid (blankR s.rv=(q2 && q3 && q4 && q5 && !q6 && q7)):=aF (by
  unfold blankR;rw [<- hq2,<- hq3,<- hq4,<- hq5,<- hq6,<- hq7,eP]
  rfl)
 have HQ1:=aF hq1;have HQ7:=aF hq7;have HQ2:=aF hq2;have HQ3:=aF hq3;have HQ4:=aF hq4;have HQ5:=aF hq5;have HQ6:=aF hq6;clear hq1 hq2 hq3 hq4 hq5 hq7;have HF0:Hid (R=if q1=false\/(q2 && q3 && q4 && q5 && !q6 && q7)=false then 2 else if s.loc<0\/(b.locals.length:Int)<=s.loc then 3 else 0):=aF (by rw [<- HR.out,stE,aZ (by omega),bA hk,HBL.out,HQ1.out]);clear HBL;clear HR hR H hT hp0 hp hl;by_cases hall:q1=true/\q2=true/\q3=true/\q4=true/\q5=true/\q6=false
 case' neg=>
  have HF:Hid (R=2):=aF (by rw [HF0.out,bA];revert hall;cases q1 <;> cases q2 <;> cases q3 <;> cases q4 <;> cases q5 <;> cases q6 <;> simp);clear HF0;rcases (show q1=false\/(q1=true/\q2=false)\/(q1=true/\q2=true/\q3=false)\/(q1=true/\q2=true/\q3=true/\q4=false)\/(q1=true/\q2=true/\q3=true/\q4=true/\q5=false)\/(q1=true/\q2=true/\q3=true/\q4=true/\q5=true/\q6=true) by revert hall;cases q1 <;> cases q2 <;> cases q3 <;> cases q4 <;> cases q5 <;> cases q6 <;> simp) with rfl | ⟨rfl,rfl⟩ | ⟨rfl,rfl,rfl⟩ | ⟨rfl,rfl,rfl,rfl⟩ | ⟨rfl,rfl,rfl,rfl,rfl⟩ | ⟨rfl,rfl,rfl,rfl,rfl,rfl⟩
  all_goals
   clear hall
 case' pos=>
  obtain ⟨rfl,rfl,rfl,rfl,rfl,rfl⟩:=hall;cases q7
  case' false=>
   have HF:Hid (R=2):=aF (by rw [HF0.out];simp);clear HF0
  case' true=>
   by_cases hlo:s.loc<0\/(b.locals.length:Int)<=s.loc
   case' pos=>
    have HF:Hid (R=3):=aF (by rw [HF0.out];simp [hlo];try omega);skip;clear HF0
   case' neg=>
    have HF:Hid (R=0):=aF (by rw [HF0.out];simp [hlo];try omega);have e5:¬s.loc<0:=(by omega);have e6:¬(b.locals.length:Int)<=s.loc:=(by omega);clear hlo;clear HF0
 all_goals
  have g2:=HQ2.out;have g3:=HQ3.out;have g4:=HQ4.out;have g5:=HQ5.out;have g6:=HQ6.out;unfold ckC at *;unfold stC;rw [hk];go_enter Tryz.func75,Tryz.ntmps75
  go_wp2_with (first | (go_at_call 111;refine (HZZ.out _ _ _ _).mono ?_;rintro e' w2 ⟨rfl,hb2⟩;rw [HQ7.out];have HB2:=aF (HB.out.trans (hb2.mono HB.out.size));have HY2:=aF (cP HY.out hb2);have HZ3:=aF (cP HZ.out hb2);have HU2:=aF (cP HU.out hb2);clear y0 y1 y2 y3 y4 y5 y6 y7 z0 z1 z2 z10 u0 u1 u2 u3 u4 u5 u6 HY HZ HU HB;have HB:=HB2;have HY:=HY2;have HZ:=HZ3;have HU:=HU2;obtain ⟨y0,y1,y2,y3,y4,y5,y6,y7⟩:=aT HY.out;obtain ⟨z0,z1,z2,-,-,-,-,-,-,-,z10⟩:=aW HZ.out;obtain ⟨u0,u1,u2,u3,u4,u5,u6⟩:=aS HU.out;clear hb2 HB2 HY2 HZ3 HU2) | (go_at_call 111;refine (HZZ.out _ _ _ _).mono ?_;rintro e' w1 ⟨rfl,hb1⟩;rw [HQ1.out];have HB:=aF ((bel3 _ _ _ _).trans (hb1.mono (bel3 _ _ _ _).size));obtain ⟨y,z,u⟩:=dL hb1;have HY:=aF y;have HZ:=aF z;have HU:=aF u;obtain ⟨y0,y1,y2,y3,y4,y5,y6,y7⟩:=aT HY.out;obtain ⟨z0,z1,z2,-,-,-,-,-,-,-,z10⟩:=aW HZ.out;obtain ⟨u0,u1,u2,u3,u4,u5,u6⟩:=aS HU.out;clear y z u hb1))
  all_goals first
   | (exfalso;omega)
   | (go_ret;exact ⟨by rw [HF.out];rfl,HB.out⟩)
theorem yW {b:Bdy} {bh:BH} {r:Nat} {w:World} (H:Ck w b bh r) (hT:TabsOk w) (s:Stm) (A0 A B:Option Addr) (c0 c d:Nat) (hp0:Slc 2 RPj w A0 c0 s.place.proj) (hp:Slc 2 RPj w A c s.rv.place.proj) (hl:Slc 4 ROp w B d s.rv.args) (hk:s.kind=2):
 Calls Tryz.prog 75 #[.agg (ckC b bh r).toArray,.agg (stC s A0 c0 A c B d).toArray] w fun e' w'=>e' = .returned (.int .i64 (stE b s))/\Below w.heap.size w w':=by
 have HZZ:=aF eW;have HH:=aF H;have HT:=aF hT;have HP0:=aF hp0;have HP:=aF hp;have HL:=aF hl;have hle:=hl.le;have hbig:=hl.big;have hlocl:=H.at_.loc.le;have hlocb:=H.at_.loc.big;obtain ⟨R,hR⟩:∃R,stE b s=R:=⟨_,rfl⟩;rw [hR];have HR:=aF hR;obtain ⟨q1,hq1⟩:∃q,zeroP s.place=q:=⟨_,rfl⟩;obtain ⟨q2,hq2⟩:∃q,(s.rv.kind == 0)=q:=⟨_,rfl⟩;obtain ⟨q3,hq3⟩:∃q,(s.rv.op == 0)=q:=⟨_,rfl⟩;obtain ⟨q4,hq4⟩:∃q,((s.rv.args.length:Int) == 0)=q:=⟨_,rfl⟩;obtain ⟨q5,hq5⟩:∃q,(s.rv.reg == 0)=q:=⟨_,rfl⟩;obtain ⟨q6,hq6⟩:∃q,s.rv.mu=q:=⟨_,rfl⟩;obtain ⟨q7,hq7⟩:∃q,zeroP s.rv.place=q:=⟨_,rfl⟩
 have HBL:Hid (blankR s.rv=(q2 && q3 && q4 && q5 && !q6 && q7)):=aF (by
  unfold blankR;rw [<- hq2,<- hq3,<- hq4,<- hq5,<- hq6,<- hq7,eP]
  rfl)
 have HQ1:=aF hq1;have HQ7:=aF hq7;have HQ2:=aF hq2;have HQ3:=aF hq3;have HQ4:=aF hq4;have HQ5:=aF hq5;have HQ6:=aF hq6;clear hq1 hq2 hq3 hq4 hq5 hq7;have HF0:Hid (R=if q1=false\/(q2 && q3 && q4 && q5 && !q6 && q7)=false\/s.loc≠0 then 2 else 0):=aF (by rw [<- HR.out,stE,aZ (by omega),aZ (by omega),bA hk,HBL.out,HQ1.out]);clear HBL;clear HR hR H hT hp0 hp hl;by_cases hall:q1=true/\q2=true/\q3=true/\q4=true/\q5=true/\q6=false
 case' neg=>
  have HF:Hid (R=2):=aF (by rw [HF0.out,bA];revert hall;cases q1 <;> cases q2 <;> cases q3 <;> cases q4 <;> cases q5 <;> cases q6 <;> simp);clear HF0;rcases (show q1=false\/(q1=true/\q2=false)\/(q1=true/\q2=true/\q3=false)\/(q1=true/\q2=true/\q3=true/\q4=false)\/(q1=true/\q2=true/\q3=true/\q4=true/\q5=false)\/(q1=true/\q2=true/\q3=true/\q4=true/\q5=true/\q6=true) by revert hall;cases q1 <;> cases q2 <;> cases q3 <;> cases q4 <;> cases q5 <;> cases q6 <;> simp) with rfl | ⟨rfl,rfl⟩ | ⟨rfl,rfl,rfl⟩ | ⟨rfl,rfl,rfl,rfl⟩ | ⟨rfl,rfl,rfl,rfl,rfl⟩ | ⟨rfl,rfl,rfl,rfl,rfl,rfl⟩
  all_goals
   clear hall
 case' pos=>
  obtain ⟨rfl,rfl,rfl,rfl,rfl,rfl⟩:=hall;cases q7
  case' false=>
   have HF:Hid (R=2):=aF (by rw [HF0.out];simp);clear HF0
  case' true=>
   by_cases hlo:s.loc≠0
   case' pos=>
    have HF:Hid (R=2):=aF (by rw [HF0.out];simp [hlo];try omega);have e5:(s.loc != 0)=true:=by simp [hlo]
    clear HF0
   case' neg=>
    have HF:Hid (R=0):=aF (by rw [HF0.out];simp [hlo];try omega);have e5:(s.loc != 0)=false:=by simpa using hlo
    clear HF0
 all_goals
  have g2:=HQ2.out;have g3:=HQ3.out;have g4:=HQ4.out;have g5:=HQ5.out;have g6:=HQ6.out;unfold ckC at *;unfold stC;rw [hk];go_enter Tryz.func75,Tryz.ntmps75
  go_wp2_with (first | (go_at_call 111;refine (HZZ.out _ _ _ _).mono ?_;rintro e' w2 ⟨rfl,hb2⟩;rw [HQ7.out];have HB2:=aF (HB.out.trans (hb2.mono HB.out.size));have HY2:=aF (cP HY.out hb2);have HZ3:=aF (cP HZ.out hb2);have HU2:=aF (cP HU.out hb2);clear y0 y1 y2 y3 y4 y5 y6 y7 z0 z1 z2 z10 u0 u1 u2 u3 u4 u5 u6 HY HZ HU HB;have HB:=HB2;have HY:=HY2;have HZ:=HZ3;have HU:=HU2;obtain ⟨y0,y1,y2,y3,y4,y5,y6,y7⟩:=aT HY.out;obtain ⟨z0,z1,z2,-,-,-,-,-,-,-,z10⟩:=aW HZ.out;obtain ⟨u0,u1,u2,u3,u4,u5,u6⟩:=aS HU.out;clear hb2 HB2 HY2 HZ3 HU2) | (go_at_call 111;refine (HZZ.out _ _ _ _).mono ?_;rintro e' w1 ⟨rfl,hb1⟩;rw [HQ1.out];have HB:=aF ((bel3 _ _ _ _).trans (hb1.mono (bel3 _ _ _ _).size));obtain ⟨y,z,u⟩:=dL hb1;have HY:=aF y;have HZ:=aF z;have HU:=aF u;obtain ⟨y0,y1,y2,y3,y4,y5,y6,y7⟩:=aT HY.out;obtain ⟨z0,z1,z2,-,-,-,-,-,-,-,z10⟩:=aW HZ.out;obtain ⟨u0,u1,u2,u3,u4,u5,u6⟩:=aS HU.out;clear y z u hb1))
  all_goals first
   | (exfalso;omega)
   | (go_ret;exact ⟨by rw [HF.out];rfl,HB.out⟩)
theorem yV {b:Bdy} {bh:BH} {r:Nat} {w:World} (H:Ck w b bh r) (hT:TabsOk w) (s:Stm) (A0 A B:Option Addr) (c0 c d:Nat) (hp0:Slc 2 RPj w A0 c0 s.place.proj) (hp:Slc 2 RPj w A c s.rv.place.proj) (hl:Slc 4 ROp w B d s.rv.args) (hk0:s.kind≠0) (hk1:s.kind≠1) (hk2:s.kind≠2):
 Calls Tryz.prog 75 #[.agg (ckC b bh r).toArray,.agg (stC s A0 c0 A c B d).toArray] w fun e' w'=>e' = .returned (.int .i64 (stE b s))/\Below w.heap.size w w':=by
 have HZZ:=aF eW;have HH:=aF H;have HT:=aF hT;have HP0:=aF hp0;have HP:=aF hp;have HL:=aF hl;have hle:=hl.le;have hbig:=hl.big;have hlocl:=H.at_.loc.le;have hlocb:=H.at_.loc.big;obtain ⟨R,hR⟩:∃R,stE b s=R:=⟨_,rfl⟩;rw [hR];have HR:=aF hR;obtain ⟨q1,hq1⟩:∃q,zeroP s.place=q:=⟨_,rfl⟩;obtain ⟨q2,hq2⟩:∃q,(s.rv.kind == 0)=q:=⟨_,rfl⟩;obtain ⟨q3,hq3⟩:∃q,(s.rv.op == 0)=q:=⟨_,rfl⟩;obtain ⟨q4,hq4⟩:∃q,((s.rv.args.length:Int) == 0)=q:=⟨_,rfl⟩;obtain ⟨q5,hq5⟩:∃q,(s.rv.reg == 0)=q:=⟨_,rfl⟩;obtain ⟨q6,hq6⟩:∃q,s.rv.mu=q:=⟨_,rfl⟩;obtain ⟨q7,hq7⟩:∃q,zeroP s.rv.place=q:=⟨_,rfl⟩
 have HBL:Hid (blankR s.rv=(q2 && q3 && q4 && q5 && !q6 && q7)):=aF (by
  unfold blankR;rw [<- hq2,<- hq3,<- hq4,<- hq5,<- hq6,<- hq7,eP]
  rfl)
 have HQ1:=aF hq1;have HQ7:=aF hq7;have HQ2:=aF hq2;have HQ3:=aF hq3;have HQ4:=aF hq4;have HQ5:=aF hq5;have HQ6:=aF hq6;clear hq1 hq2 hq3 hq4 hq5 hq7;have HF:Hid (R=14):=aF (by rw [<- HR.out,stE,aZ hk0,aZ hk1,aZ hk2]);have e0:(s.kind == 0)=false:=by simp [hk0]
 have e1:(s.kind == 1)=false:=by simp [hk1]
 have e2:(s.kind == 2)=false:=by simp [hk2]
 clear HBL hk0 hk1 hk2;have hk:True:=trivial;clear HR hR H hT hp0 hp hl;rcases (show q1=false\/(q1=true/\q2=false)\/(q1=true/\q2=true/\q3=false)\/(q1=true/\q2=true/\q3=true/\q4=false)\/(q1=true/\q2=true/\q3=true/\q4=true/\q5=false)\/(q1=true/\q2=true/\q3=true/\q4=true/\q5=true/\q6=true)\/(q1=true/\q2=true/\q3=true/\q4=true/\q5=true/\q6=false) by cases q1 <;> cases q2 <;> cases q3 <;> cases q4 <;> cases q5 <;> cases q6 <;> simp) with rfl | ⟨rfl,rfl⟩ | ⟨rfl,rfl,rfl⟩ | ⟨rfl,rfl,rfl,rfl⟩ | ⟨rfl,rfl,rfl,rfl,rfl⟩ | ⟨rfl,rfl,rfl,rfl,rfl,rfl⟩ | ⟨rfl,rfl,rfl,rfl,rfl,rfl⟩
 all_goals
  have g2:=HQ2.out;have g3:=HQ3.out;have g4:=HQ4.out;have g5:=HQ5.out;have g6:=HQ6.out;unfold ckC at *;unfold stC;go_enter Tryz.func75,Tryz.ntmps75
  go_wp2_with (first | (go_at_call 111;refine (HZZ.out _ _ _ _).mono ?_;rintro e' w2 ⟨rfl,hb2⟩;rw [HQ7.out];have HB2:=aF (HB.out.trans (hb2.mono HB.out.size));have HY2:=aF (cP HY.out hb2);have HZ3:=aF (cP HZ.out hb2);have HU2:=aF (cP HU.out hb2);clear y0 y1 y2 y3 y4 y5 y6 y7 z0 z1 z2 z10 u0 u1 u2 u3 u4 u5 u6 HY HZ HU HB;have HB:=HB2;have HY:=HY2;have HZ:=HZ3;have HU:=HU2;obtain ⟨y0,y1,y2,y3,y4,y5,y6,y7⟩:=aT HY.out;obtain ⟨z0,z1,z2,-,-,-,-,-,-,-,z10⟩:=aW HZ.out;obtain ⟨u0,u1,u2,u3,u4,u5,u6⟩:=aS HU.out;clear hb2 HB2 HY2 HZ3 HU2) | (go_at_call 111;refine (HZZ.out _ _ _ _).mono ?_;rintro e' w1 ⟨rfl,hb1⟩;rw [HQ1.out];have HB:=aF ((bel3 _ _ _ _).trans (hb1.mono (bel3 _ _ _ _).size));obtain ⟨y,z,u⟩:=dL hb1;have HY:=aF y;have HZ:=aF z;have HU:=aF u;obtain ⟨y0,y1,y2,y3,y4,y5,y6,y7⟩:=aT HY.out;obtain ⟨z0,z1,z2,-,-,-,-,-,-,-,z10⟩:=aW HZ.out;obtain ⟨u0,u1,u2,u3,u4,u5,u6⟩:=aS HU.out;clear y z u hb1))
  all_goals first
   | (exfalso;omega)
   | (go_ret;exact ⟨by rw [HF.out];rfl,by first | exact HBW2.out | exact HBW.out | exact HB.out⟩)
theorem yZ {b:Bdy} {bh:BH} {r:Nat} {w:World} (H:Ck w b bh r) (hT:TabsOk w) (s:Stm) (A0 A B:Option Addr) (c0 c d:Nat) (hp0:Slc 2 RPj w A0 c0 s.place.proj) (hp:Slc 2 RPj w A c s.rv.place.proj) (hl:Slc 4 ROp w B d s.rv.args):
 Calls Tryz.prog 75 #[.agg (ckC b bh r).toArray,.agg (stC s A0 c0 A c B d).toArray] w fun e' w'=>e' = .returned (.int .i64 (stE b s))/\Below w.heap.size w w':=by
 by_cases h0:s.kind=0
 ·by_cases hl0:s.loc=0
  ·by_cases hw:writE b s.place=0
   ·exact yY H hT s A0 A B c0 c d hp0 hp hl h0 hl0 hw
   ·exact yU H hT s A0 A B c0 c d hp0 hp hl h0 hl0 hw
  ·exact yX H hT s A0 A B c0 c d hp0 hp hl h0 hl0
 by_cases h1:s.kind=1
 ·exact vG H hT s A0 A B c0 c d hp0 hp hl h1
 by_cases h2:s.kind=2
 ·exact yW H hT s A0 A B c0 c d hp0 hp hl h2
 exact yV H hT s A0 A B c0 c d hp0 hp hl h0 h1 h2
theorem xCI {b:Bdy} {bh:BH} {r:Nat} {w:World} (H:Ck w b bh r) (t:Trm) (A B C:Option Addr) (c d f:Nat) (ht:Slc 1 RInt w A c t.targets) (hl:Slc 4 ROp w B d t.args) (hp:Slc 2 RPj w C f t.place.proj) (hk:t.kind=1) (hfd:fieldsT t=true):
 Calls Tryz.prog 76 #[.agg (ckC b bh r).toArray,.agg (tmC t A c B d C f).toArray] w fun e' w'=>e' = .returned (.int .i64 (tmE b t))/\Below w.heap.size w w':=by
 have HFD:=aF (fun W=>fQ t A B C c d f W);have HH:=aF H;have HTG:=aF ht;have HL:=aF hl;have HP:=aF hp;have hle:=hl.le;have hbig:=hl.big;have hle2:=ht.le;have hbig2:=ht.big;have hblkl:=H.at_.blk.le;have hblkb:=H.at_.blk.big;obtain ⟨R,hR⟩:∃R,tmE b t=R:=⟨_,rfl⟩;rw [hR];have HR:=aF hR;clear hR H ht hl hp
 have hag:∃o,t.args=[o]:=by
  have h:=hfd;unfold fieldsT at h;rw [aZ (by omega),bA hk] at h;simp only [bP,decide_eq_true_eq] at h;exact List.length_eq_one_iff.1 h.1.1.2
 obtain ⟨o,ho⟩:=hag;obtain ⟨bb,oo,rfl,hbb,hx⟩:=HL.out.sl.at_ (show 0<t.args.length by rw [ho];simp);simp only [ho,List.getElem_cons_zero,Nat.zero_mul,Nat.add_zero] at hx;obtain ⟨p0,⟨p1,A2,c2,p2,hc1,hc2,hsl⟩,p3⟩:=hx;have HPJ:Hid (Slc 2 RPj w A2 c2 o.place.proj):=aF ⟨hsl,hc1,hc2⟩;have P0:=aF p0;have P1:=aF p1;have P2:=aF (show w.cell? ⟨bb,oo+2,none⟩=_ from p2);have P3:=aF p3;have hal:0<t.args.length:=by rw [ho];simp
 have HOO:=aF (fun (W:World) (hb:Below w.heap.size w W)=>nT (HH.out.keep hb) o A2 c2 (HPJ.out.keep RPj.keeps hb));have HKK:=aF (fun (W:World) (hb:Below w.heap.size w W) (h:opE b o=0)=>rU (HH.out.keep hb) o A2 c2 (HPJ.out.keep RPj.keeps hb) h);obtain ⟨Q,hQ⟩:∃Q,(if opE b o≠0 then opE b o else fail22 (decide (kindO b o≠1)))=Q:=⟨_,rfl⟩;have HQ:=aF hQ
 have HF:Hid (R=if t.targets.all (fun k=>decide (0<=k/\k<(b.blocks.length:Int)))=true then Q else 3):=aF (by
  rw [<- HR.out,tmE,aZ (by omega),aZ (by rw [hfd];simp)];rw [<- HQ.out];cases t.targets.all (fun k=>decide (0<=k/\k<(b.blocks.length:Int)))
  ·simp
  ·simp [hk,ho])
 rw [hfd] at HFD;generalize kindO b o=ko at HKK hQ HQ;generalize opE b o=eo at HOO HKK hQ HQ;clear ho p0 p1 p2 p3 hsl hc1 hc2;unfold opC at HOO HKK;clear HR hQ hfd;unfold ckC at *;unfold tmC at *;rw [hk] at HFD ⊢;go_enter Tryz.func76,Tryz.ntmps76
 go_wp2_with (go_at_call 114;refine (HFD.out _).mono ?_;rintro e' w1 ⟨rfl,hb1⟩;have HB:=aF ((bel2 _ _ _).trans (hb1.mono (bel2 _ _ _).size));obtain ⟨y,z⟩:=cU hb1;have HY:=aF y;have HZ:=aF z;obtain ⟨y0,y1,y2,y3,y4,y5,y6,y7⟩:=aT HY.out;obtain ⟨z0,z1,z2,z3,z4,z5⟩:=aR HZ.out;clear y z hb1)
 all_goals try (exfalso;omega)
 go_loop [27] (fun v=>∃k:Nat,k<=t.targets.length/\v = .int .i64 k/\Hid (R=if (t.targets.drop k).all (fun k=>decide (0<=k/\k<(b.blocks.length:Int)))=true then Q else 3)) (fun v=>t.targets.length - (intOf v).toNat)
 case atStart=>exact ⟨0,by omega,rfl,HF⟩
 case round=>
  clear HF;obtain ⟨k,hk2,rfl,hr⟩:=hrel;by_cases hlt:k<t.targets.length
  ·have hd:=cV hlt;obtain ⟨b5,o5,rfl,hb5,hx⟩:=HTG.out.sl.at_ hlt;obtain ⟨x,hxx⟩:∃x,t.targets[k]=x:=⟨_,rfl⟩;rw [hxx] at hd hx;have x0:w1.cell? ⟨b5,o5+k,none⟩=some (.int .i64 x):=cO HB.out (by simpa [RInt] using hx);by_cases hin:0<=x/\x<(b.blocks.length:Int)
   ·have HF2:Hid (R=if (t.targets.drop (k+1)).all (fun k=>decide (0<=k/\k<(b.blocks.length:Int)))=true then Q else 3):=aF (by rw [hr.out,hd,cB];simp [hin]);have e1:¬x<0:=(by omega);have e2:¬(b.blocks.length:Int)<=x:=(by omega);clear hd hx hxx hr hin;go_wp2_with fail
    all_goals try (exfalso;omega)
    go_round
    case rel=>exact ⟨k+1,by omega,by go_num,HF2⟩
    case measure=>simp [intOf];omega
   ·have HF2:Hid (R=3):=aF (by rw [hr.out,hd,cB];simp;intro h1 h2;exact absurd ⟨h1,h2⟩ hin);clear hd hx hxx hr;go_wp2_with fail
    all_goals first
     | (exfalso;omega)
     | (go_ret;exact ⟨by rw [HF2.out];rfl,HB.out⟩)
  ·have HF2:Hid (R=Q):=aF (by rw [hr.out,bE (by omega:t.targets.length<=k)];rfl);clear hr;go_wp2_with fail
   have hS:aB w [Value.string b.name,.slice bh.A1 b.regions.length bh.c1,.slice bh.A2 b.outl.length bh.c2,.slice bh.A3 b.types.length bh.c3,.slice bh.A4 b.locals.length bh.c4,.int .i64 b.args,.slice bh.A5 b.blocks.length bh.c5,.pointer (some ⟨r,0,none⟩)] [Value.int .i64 1,.slice A t.targets.length c,.slice (some ⟨bb,oo,none⟩) t.args.length d,.int .i64 t.place.loc,.slice C t.place.proj.length f,.string t.name] w1.drew:=⟨HY.out,HZ.out,HB.out.drew⟩;clear y0 y1 y2 y3 y4 y5 y6 y7 z0 z1 z2 z3 z4 z5;refine cT (S:=fun X=>aB w [Value.string b.name,.slice bh.A1 b.regions.length bh.c1,.slice bh.A2 b.outl.length bh.c2,.slice bh.A3 b.types.length bh.c3,.slice bh.A4 b.locals.length bh.c4,.int .i64 b.args,.slice bh.A5 b.blocks.length bh.c5,.pointer (some ⟨r,0,none⟩)] [Value.int .i64 1,.slice A t.targets.length c,.slice (some ⟨bb,oo,none⟩) t.args.length d,.int .i64 t.place.loc,.slice C t.place.proj.length f,.string t.name] X) [0,1,2,3,4,5,6] (by kernel_rfl) ?_;(iterate 5 (refine cR (v:=?_) ?_ hS ?_;rotate_left;(next=>(rintro X ⟨hX,hY,hZ⟩;obtain ⟨s0,s1,s2,s3,s4,s5,s6,s7⟩:=aT hX;have v2:=hY 2 _ rfl;have p0:=cO hZ P0.out;have p1:=cO hZ P1.out;have p2:=cO hZ P2.out;have p3:=cO hZ P3.out;(try simp only [aI]);go_simp;rfl));simp only [aM]));(refine cY (fun K1 hK1=>?_);simp only [aM];rw [bA (by rfl)];go_simp);refine (HOO.out _ hS.2.2).mono ?_;rintro e' w2 ⟨rfl,hb⟩;replace hS:=bJ (cP hS.1 hb) (bJ (cP hS.2.1 hb) (hS.2.2.trans (hb.mono hS.2.2.size)));have HS2:=aF hS;clear hb;refine hK1.out _ _ (fun _=>hS) ?_;clear hK1;((refine cR (v:=?_) ?_ hS ?_;rotate_left;(next=>(rintro X -;(try simp only [aI]);go_simp;rfl));simp only [aM]))
   refine cZ ?_;clear hS;by_cases heo:eo=0
   ·subst heo;have HK2:=aF (fun W hb=>HKK.out W hb rfl);have HF3:Hid (R=fail22 (decide (ko≠1))):=aF (by rw [HF2.out,<- HQ.out];simp);have eko:(ko != 1)=decide (ko≠1):=by rw [bQ];simp
    go_wp2_with fail
    have hS:aB w [Value.string b.name,.slice bh.A1 b.regions.length bh.c1,.slice bh.A2 b.outl.length bh.c2,.slice bh.A3 b.types.length bh.c3,.slice bh.A4 b.locals.length bh.c4,.int .i64 b.args,.slice bh.A5 b.blocks.length bh.c5,.pointer (some ⟨r,0,none⟩)] [Value.int .i64 1,.slice A t.targets.length c,.slice (some ⟨bb,oo,none⟩) t.args.length d,.int .i64 t.place.loc,.slice C t.place.proj.length f,.string t.name] w2.drew:=⟨HS2.out.1,HS2.out.2.1,HS2.out.2.2.drew⟩;refine cT (S:=fun X=>aB w [Value.string b.name,.slice bh.A1 b.regions.length bh.c1,.slice bh.A2 b.outl.length bh.c2,.slice bh.A3 b.types.length bh.c3,.slice bh.A4 b.locals.length bh.c4,.int .i64 b.args,.slice bh.A5 b.blocks.length bh.c5,.pointer (some ⟨r,0,none⟩)] [Value.int .i64 1,.slice A t.targets.length c,.slice (some ⟨bb,oo,none⟩) t.args.length d,.int .i64 t.place.loc,.slice C t.place.proj.length f,.string t.name] X) [0,1,2,3,4,5,6,7,8] (by kernel_rfl) ?_;(iterate 5 (refine cR (v:=?_) ?_ hS ?_;rotate_left;(next=>(rintro X ⟨hX,hY,hZ⟩;obtain ⟨s0,s1,s2,s3,s4,s5,s6,s7⟩:=aT hX;have v2:=hY 2 _ rfl;have p0:=cO hZ P0.out;have p1:=cO hZ P1.out;have p2:=cO hZ P2.out;have p3:=cO hZ P3.out;(try simp only [aI]);go_simp;rfl));simp only [aM]));(refine cY (fun K1 hK1=>?_);simp only [aM];rw [bA (by rfl)];go_simp);refine (HK2.out _ hS.2.2).mono ?_;rintro e' w3 ⟨rfl,hb⟩;replace hS:=bJ (cP hS.1 hb) (bJ (cP hS.2.1 hb) (hS.2.2.trans (hb.mono hS.2.2.size)));clear hb;refine hK1.out _ _ (fun _=>hS) ?_;clear hK1;((refine cR (v:=?_) ?_ hS ?_;rotate_left;(next=>(rintro X -;(try simp only [aI]);go_simp;rfl));simp only [aM]))
    try rw [eko]
    (refine cY (fun K1 hK1=>?_);simp only [aM];rw [bA (by rfl)];go_simp);refine (eC _ _).mono ?_;rintro e' w4 ⟨rfl,hw⟩;obtain rfl:=hw.symm;refine hK1.out _ _ (fun _=>hS) ?_;clear hK1;((refine cR (v:=?_) ?_ hS ?_;rotate_left;(next=>(rintro X -;(try simp only [aI]);go_simp;rfl));simp only [aM]))
    refine cZ ?_;have HS3:=aF hS.2.2;clear hS;go_wp2_with fail
    go_ret;exact ⟨by rw [HF3.out];first | rfl | (rw [<- eko];rfl),HS3.out⟩
   ·have HF3:Hid (R=eo):=aF (by rw [HF2.out,<- HQ.out];simp [heo]);have e9:(eo != 0)=true:=by simp [heo]
    clear heo;go_wp2_with fail
    go_ret;exact ⟨by rw [HF3.out];rfl,HS2.out.2.2⟩
theorem vD {b:Bdy} {bh:BH} {r:Nat} {w:World} (H:Ck w b bh r) (t:Trm) (A B C:Option Addr) (c d f:Nat) (ht:Slc 1 RInt w A c t.targets) (hl:Slc 4 ROp w B d t.args) (hp:Slc 2 RPj w C f t.place.proj) (hk:t.kind=3) (hfd:fieldsT t=true):
 Calls Tryz.prog 76 #[.agg (ckC b bh r).toArray,.agg (tmC t A c B d C f).toArray] w fun e' w'=>e' = .returned (.int .i64 (tmE b t))/\Below w.heap.size w w':=by
 have HFD:=aF (fun W=>fQ t A B C c d f W);have HH:=aF H;have HTG:=aF ht;have HL:=aF hl;have HP:=aF hp;have hle:=hl.le;have hbig:=hl.big;have hle2:=ht.le;have hbig2:=ht.big;have hblkl:=H.at_.blk.le;have hblkb:=H.at_.blk.big;obtain ⟨R,hR⟩:∃R,tmE b t=R:=⟨_,rfl⟩;rw [hR];have HR:=aF hR;clear hR H ht hl hp;obtain ⟨Q,hQ⟩:∃Q,(if isIdent t.name=false then 12 else if 65535<t.args.length then 15 else if opsE b t.args []≠0 then opsE b t.args [] else writE b t.place)=Q:=⟨_,rfl⟩;have HQ:=aF hQ
 have HF:Hid (R=if t.targets.all (fun k=>decide (0<=k/\k<(b.blocks.length:Int)))=true then Q else 3):=aF (by
  rw [<- HR.out,tmE,aZ (by omega),aZ (by rw [hfd];simp)];rw [<- HQ.out];cases t.targets.all (fun k=>decide (0<=k/\k<(b.blocks.length:Int)))
  ·simp
  ·simp [hk])
 rw [hfd] at HFD;have HI:=aF (fun W=>fF t.name W);have HPO:=aF (fun (W:World) (hb:Below w.heap.size w W)=>fJ (HH.out.keep hb) t.args [] B none d 0 (HL.out.keep ROp.keeps hb) ⟨Sl.nil,by simp,by omega⟩ (by simp));have HW:=aF (fun (W:World) (hb:Below w.heap.size w W)=>gE b bh r t.place C f W (HH.out.keep hb).at_ (HP.out.keep RPj.keeps hb) HH.out.ok.okay);generalize writE b t.place=we at HW hQ HQ;generalize opsE b t.args []=oe at HPO hQ HQ;generalize isIdent t.name=ii at HI hQ HQ;clear HR hQ hfd;unfold ckC at *;unfold tmC at *;rw [hk] at HFD ⊢;go_enter Tryz.func76,Tryz.ntmps76
 go_wp2_with (go_at_call 114;refine (HFD.out _).mono ?_;rintro e' w1 ⟨rfl,hb1⟩;have HB:=aF ((bel2 _ _ _).trans (hb1.mono (bel2 _ _ _).size));obtain ⟨y,z⟩:=cU hb1;have HY:=aF y;have HZ:=aF z;obtain ⟨y0,y1,y2,y3,y4,y5,y6,y7⟩:=aT HY.out;obtain ⟨z0,z1,z2,z3,z4,z5⟩:=aR HZ.out;clear y z hb1)
 all_goals try (exfalso;omega)
 go_loop [27] (fun v=>∃k:Nat,k<=t.targets.length/\v = .int .i64 k/\Hid (R=if (t.targets.drop k).all (fun k=>decide (0<=k/\k<(b.blocks.length:Int)))=true then Q else 3)) (fun v=>t.targets.length - (intOf v).toNat)
 case atStart=>exact ⟨0,by omega,rfl,HF⟩
 case round=>
  clear HF;obtain ⟨k,hk2,rfl,hr⟩:=hrel;by_cases hlt:k<t.targets.length
  ·have hd:=cV hlt;obtain ⟨b5,o5,rfl,hb5,hx⟩:=HTG.out.sl.at_ hlt;obtain ⟨x,hxx⟩:∃x,t.targets[k]=x:=⟨_,rfl⟩;rw [hxx] at hd hx;have x0:w1.cell? ⟨b5,o5+k,none⟩=some (.int .i64 x):=cO HB.out (by simpa [RInt] using hx);by_cases hin:0<=x/\x<(b.blocks.length:Int)
   ·have HF2:Hid (R=if (t.targets.drop (k+1)).all (fun k=>decide (0<=k/\k<(b.blocks.length:Int)))=true then Q else 3):=aF (by rw [hr.out,hd,cB];simp [hin]);have e1:¬x<0:=(by omega);have e2:¬(b.blocks.length:Int)<=x:=(by omega);clear hd hx hxx hr hin;go_wp2_with fail
    all_goals try (exfalso;omega)
    go_round
    case rel=>exact ⟨k+1,by omega,by go_num,HF2⟩
    case measure=>simp [intOf];omega
   ·have HF2:Hid (R=3):=aF (by rw [hr.out,hd,cB];simp;intro h1 h2;exact absurd ⟨h1,h2⟩ hin);clear hd hx hxx hr;go_wp2_with fail
    all_goals first
     | (exfalso;omega)
     | (go_ret;exact ⟨by rw [HF2.out];rfl,HB.out⟩)
  ·have HF2:Hid (R=Q):=aF (by rw [hr.out,bE (by omega:t.targets.length<=k)];rfl);clear hr;cases ii
   ·have HF3:Hid (R=12):=aF (by rw [HF2.out,<- HQ.out];rfl);go_wp2_with (go_at_call 106;refine (HI.out _).mono ?_;rintro e' w2 ⟨rfl,hb⟩;have HB2:=aF (HB.out.trans (hb.mono HB.out.size));have HY2:=aF (cP HY.out hb);have HZ2:=aF (cP HZ.out hb);clear y0 y1 y2 y3 y4 y5 y6 y7 z0 z1 z2 z3 z4 z5;obtain ⟨y0,y1,y2,y3,y4,y5,y6,y7⟩:=aT HY2.out;obtain ⟨z0,z1,z2,z3,z4,z5⟩:=aR HZ2.out;clear hb)
    go_ret;exact ⟨by rw [HF3.out];rfl,HB2.out⟩
   by_cases hln:65535<t.args.length
   ·have HF3:Hid (R=15):=aF (by rw [HF2.out,<- HQ.out];simp [hln]);go_wp2_with (go_at_call 106;refine (HI.out _).mono ?_;rintro e' w2 ⟨rfl,hb⟩;have HB2:=aF (HB.out.trans (hb.mono HB.out.size));have HY2:=aF (cP HY.out hb);have HZ2:=aF (cP HZ.out hb);clear y0 y1 y2 y3 y4 y5 y6 y7 z0 z1 z2 z3 z4 z5;obtain ⟨y0,y1,y2,y3,y4,y5,y6,y7⟩:=aT HY2.out;obtain ⟨z0,z1,z2,z3,z4,z5⟩:=aR HZ2.out;clear hb)
    all_goals first
     | (exfalso;omega)
     | (go_ret;exact ⟨by rw [HF3.out];rfl,HB2.out⟩)
   by_cases hoe:oe=0
   ·have HF3:Hid (R=we):=aF (by rw [HF2.out,<- HQ.out];simp [hln,hoe]);subst hoe;go_wp2_with (first | (go_at_call 106;refine (HI.out _).mono ?_;rintro e' w2 ⟨rfl,hb⟩;have HB2:=aF (HB.out.trans (hb.mono HB.out.size));have HY2:=aF (cP HY.out hb);have HZ2:=aF (cP HZ.out hb);clear y0 y1 y2 y3 y4 y5 y6 y7 z0 z1 z2 z3 z4 z5;obtain ⟨y0,y1,y2,y3,y4,y5,y6,y7⟩:=aT HY2.out;obtain ⟨z0,z1,z2,z3,z4,z5⟩:=aR HZ2.out;clear hb) | (go_at_call 118;refine (HPO.out _ HB2.out).mono ?_;rintro e' w3 ⟨rfl,hb⟩;have HB3:=aF (HB2.out.trans (hb.mono HB2.out.size));have HY3:=aF (cP HY2.out hb);have HZ3:=aF (cP HZ2.out hb);clear y0 y1 y2 y3 y4 y5 y6 y7 z0 z1 z2 z3 z4 z5;obtain ⟨y0,y1,y2,y3,y4,y5,y6,y7⟩:=aT HY3.out;obtain ⟨z0,z1,z2,z3,z4,z5⟩:=aR HZ3.out;clear hb) | (go_at_call 112;refine (HW.out _ HB3.out).mono ?_;rintro e' w4 ⟨rfl,hb⟩;have HB4:=aF (HB3.out.trans (hb.mono HB3.out.size));have HY4:=aF (cP HY3.out hb);have HZ4:=aF (cP HZ3.out hb);clear y0 y1 y2 y3 y4 y5 y6 y7 z0 z1 z2 z3 z4 z5;obtain ⟨y0,y1,y2,y3,y4,y5,y6,y7⟩:=aT HY4.out;obtain ⟨z0,z1,z2,z3,z4,z5⟩:=aR HZ4.out;clear hb))
    all_goals first
     | (exfalso;omega)
     | (go_ret;exact ⟨by rw [HF3.out];rfl,HB4.out⟩)
   ·have HF3:Hid (R=oe):=aF (by rw [HF2.out,<- HQ.out];simp [hln,hoe]);have e9:(oe != 0)=true:=by simp [hoe]
    clear hoe;go_wp2_with (first | (go_at_call 106;refine (HI.out _).mono ?_;rintro e' w2 ⟨rfl,hb⟩;have HB2:=aF (HB.out.trans (hb.mono HB.out.size));have HY2:=aF (cP HY.out hb);have HZ2:=aF (cP HZ.out hb);clear y0 y1 y2 y3 y4 y5 y6 y7 z0 z1 z2 z3 z4 z5;obtain ⟨y0,y1,y2,y3,y4,y5,y6,y7⟩:=aT HY2.out;obtain ⟨z0,z1,z2,z3,z4,z5⟩:=aR HZ2.out;clear hb) | (go_at_call 118;refine (HPO.out _ HB2.out).mono ?_;rintro e' w3 ⟨rfl,hb⟩;have HB3:=aF (HB2.out.trans (hb.mono HB2.out.size));have HY3:=aF (cP HY2.out hb);have HZ3:=aF (cP HZ2.out hb);clear y0 y1 y2 y3 y4 y5 y6 y7 z0 z1 z2 z3 z4 z5;obtain ⟨y0,y1,y2,y3,y4,y5,y6,y7⟩:=aT HY3.out;obtain ⟨z0,z1,z2,z3,z4,z5⟩:=aR HZ3.out;clear hb))
    all_goals first
     | (exfalso;omega)
     | (go_ret;exact ⟨by rw [HF3.out];rfl,HB3.out⟩)
theorem vC {b:Bdy} {bh:BH} {r:Nat} {w:World} (H:Ck w b bh r) (t:Trm) (A B C:Option Addr) (c d f:Nat) (ht:Slc 1 RInt w A c t.targets) (hl:Slc 4 ROp w B d t.args) (hp:Slc 2 RPj w C f t.place.proj) (hk:t.kind=4) (hfd:fieldsT t=true):
 Calls Tryz.prog 76 #[.agg (ckC b bh r).toArray,.agg (tmC t A c B d C f).toArray] w fun e' w'=>e' = .returned (.int .i64 (tmE b t))/\Below w.heap.size w w':=by
 have HFD:=aF (fun W=>fQ t A B C c d f W);have HH:=aF H;have HTG:=aF ht;have HL:=aF hl;have HP:=aF hp;have hle:=hl.le;have hbig:=hl.big;have hle2:=ht.le;have hbig2:=ht.big;have hblkl:=H.at_.blk.le;have hblkb:=H.at_.blk.big;obtain ⟨R,hR⟩:∃R,tmE b t=R:=⟨_,rfl⟩;rw [hR];have HR:=aF hR;clear hR H ht hl hp;obtain ⟨Q,hQ⟩:∃Q,(if (tyB b t.place).2≠0 then (tyB b t.place).2 else fail22 (hasD t.place.proj 0))=Q:=⟨_,rfl⟩;have HQ:=aF hQ
 have HF:Hid (R=if t.targets.all (fun k=>decide (0<=k/\k<(b.blocks.length:Int)))=true then Q else 3):=aF (by
  rw [<- HR.out,tmE,aZ (by omega),aZ (by rw [hfd];simp)];rw [<- HQ.out];cases t.targets.all (fun k=>decide (0<=k/\k<(b.blocks.length:Int)))
  ·simp
  ·simp [hk])
 rw [hfd] at HFD;have HTT:=aF (fun (W:World) (hb:Below w.heap.size w W)=>eO b bh r t.place C f W (HH.out.keep hb).at_ (HP.out.keep RPj.keeps hb) HH.out.ok.okay);have HHD:=aF (fun (W:World) (hb:Below w.heap.size w W)=>rY t.place 0 C f W (HP.out.keep RPj.keeps hb));generalize hasD t.place.proj 0=hdd at HHD hQ HQ;generalize tyB b t.place=q at HTT hQ HQ;obtain ⟨ti,te⟩:=q;simp only at hQ HQ HTT;have HQF:Hid (Q=firstE [te,fail22 hdd]):=aF (by rw [<- HQ.out];simp only [firstE];by_cases h:te=0 <;> simp [h]);clear HR hQ hfd;unfold ckC at *;unfold tmC at *;rw [hk] at HFD ⊢;go_enter Tryz.func76,Tryz.ntmps76
 go_wp2_with (go_at_call 114;refine (HFD.out _).mono ?_;rintro e' w1 ⟨rfl,hb1⟩;have HB:=aF ((bel2 _ _ _).trans (hb1.mono (bel2 _ _ _).size));obtain ⟨y,z⟩:=cU hb1;have HY:=aF y;have HZ:=aF z;obtain ⟨y0,y1,y2,y3,y4,y5,y6,y7⟩:=aT HY.out;obtain ⟨z0,z1,z2,z3,z4,z5⟩:=aR HZ.out;clear y z hb1)
 all_goals try (exfalso;omega)
 go_loop [27] (fun v=>∃k:Nat,k<=t.targets.length/\v = .int .i64 k/\Hid (R=if (t.targets.drop k).all (fun k=>decide (0<=k/\k<(b.blocks.length:Int)))=true then Q else 3)) (fun v=>t.targets.length - (intOf v).toNat)
 case atStart=>exact ⟨0,by omega,rfl,HF⟩
 case round=>
  clear HF;obtain ⟨k,hk2,rfl,hr⟩:=hrel;by_cases hlt:k<t.targets.length
  ·have hd:=cV hlt;obtain ⟨b5,o5,rfl,hb5,hx⟩:=HTG.out.sl.at_ hlt;obtain ⟨x,hxx⟩:∃x,t.targets[k]=x:=⟨_,rfl⟩;rw [hxx] at hd hx;have x0:w1.cell? ⟨b5,o5+k,none⟩=some (.int .i64 x):=cO HB.out (by simpa [RInt] using hx);by_cases hin:0<=x/\x<(b.blocks.length:Int)
   ·have HF2:Hid (R=if (t.targets.drop (k+1)).all (fun k=>decide (0<=k/\k<(b.blocks.length:Int)))=true then Q else 3):=aF (by rw [hr.out,hd,cB];simp [hin]);have e1:¬x<0:=(by omega);have e2:¬(b.blocks.length:Int)<=x:=(by omega);clear hd hx hxx hr hin;go_wp2_with fail
    all_goals try (exfalso;omega)
    go_round
    case rel=>exact ⟨k+1,by omega,by go_num,HF2⟩
    case measure=>simp [intOf];omega
   ·have HF2:Hid (R=3):=aF (by rw [hr.out,hd,cB];simp;intro h1 h2;exact absurd ⟨h1,h2⟩ hin);clear hd hx hxx hr;go_wp2_with fail
    all_goals first
     | (exfalso;omega)
     | (go_ret;exact ⟨by rw [HF2.out];rfl,HB.out⟩)
  ·have HF2:Hid (R=Q):=aF (by rw [hr.out,bE (by omega:t.targets.length<=k)];rfl);clear hr;go_wp2_with (first | (go_at_call 119;refine (HTT.out _ HB.out).mono ?_;rintro e' w2 ⟨rfl,hb⟩;have HB2:=aF (HB.out.trans (hb.mono HB.out.size));have HY2:=aF (cP HY.out hb);have HZ2:=aF (cP HZ.out hb);clear y0 y1 y2 y3 y4 y5 y6 y7 z0 z1 z2 z3 z4 z5;obtain ⟨y0,y1,y2,y3,y4,y5,y6,y7⟩:=aT HY2.out;obtain ⟨z0,z1,z2,z3,z4,z5⟩:=aR HZ2.out;clear hb) | (go_at_call 120;refine (HHD.out _ HB2.out).mono ?_;rintro e' w3 ⟨rfl,hb⟩;have HB3:=aF (HB2.out.trans (hb.mono HB2.out.size));have HY3:=aF (cP HY2.out hb);have HZ3:=aF (cP HZ2.out hb);clear y0 y1 y2 y3 y4 y5 y6 y7 z0 z1 z2 z3 z4 z5;obtain ⟨y0,y1,y2,y3,y4,y5,y6,y7⟩:=aT HY3.out;obtain ⟨z0,z1,z2,z3,z4,z5⟩:=aR HZ3.out;clear hb) | (go_at_call 116;refine (eC _ _).mono ?_;rintro e' w4 ⟨rfl,hw⟩;obtain rfl:=hw.symm) | (go_at_call 107;refine (fP [te,fail22 hdd] _ 2 _ (nB _ _ _ _ _ rfl)).mono ?_;rintro e' w5 ⟨rfl,hw⟩;obtain rfl:=hw.symm))
   go_ret;exact ⟨by rw [HF2.out,HQF.out];rfl,HB3.out.alloc HB3.out.size _⟩
theorem yR {b:Bdy} {bh:BH} {r:Nat} {w:World} (H:Ck w b bh r) (t:Trm) (A B C:Option Addr) (c d f:Nat) (ht:Slc 1 RInt w A c t.targets) (hl:Slc 4 ROp w B d t.args) (hp:Slc 2 RPj w C f t.place.proj) (hk:t.kind=0\/t.kind=2\/t.kind=5) (hfd:fieldsT t=true):
 Calls Tryz.prog 76 #[.agg (ckC b bh r).toArray,.agg (tmC t A c B d C f).toArray] w fun e' w'=>e' = .returned (.int .i64 (tmE b t))/\Below w.heap.size w w':=by
 have HFD:=aF (fun W=>fQ t A B C c d f W);have HH:=aF H;have HTG:=aF ht;have HL:=aF hl;have HP:=aF hp;have hle:=hl.le;have hbig:=hl.big;have hle2:=ht.le;have hbig2:=ht.big;have hblkl:=H.at_.blk.le;have hblkb:=H.at_.blk.big;obtain ⟨R,hR⟩:∃R,tmE b t=R:=⟨_,rfl⟩;rw [hR];have HR:=aF hR;clear hR H ht hl hp;obtain ⟨Q,hQ⟩:∃Q,((0:Int))=Q:=⟨_,rfl⟩;have HQ:=aF hQ
 have HF:Hid (R=if t.targets.all (fun k=>decide (0<=k/\k<(b.blocks.length:Int)))=true then Q else 3):=aF (by
  rw [<- HR.out,tmE,aZ (by omega),aZ (by rw [hfd];simp)];rw [<- HQ.out];cases t.targets.all (fun k=>decide (0<=k/\k<(b.blocks.length:Int)))
  ·simp
  ·simp [show t.kind≠1 by omega,show t.kind≠3 by omega,show t.kind≠4 by omega])
 rw [hfd] at HFD;clear HR hQ hfd;unfold ckC at *;unfold tmC at *;have k1:(t.kind == 1)=false:=by simp;omega
 have k3:(t.kind == 3)=false:=by simp;omega
 have k4:(t.kind == 4)=false:=by simp;omega
 go_enter Tryz.func76,Tryz.ntmps76
 go_wp2_with (go_at_call 114;refine (HFD.out _).mono ?_;rintro e' w1 ⟨rfl,hb1⟩;have HB:=aF ((bel2 _ _ _).trans (hb1.mono (bel2 _ _ _).size));obtain ⟨y,z⟩:=cU hb1;have HY:=aF y;have HZ:=aF z;obtain ⟨y0,y1,y2,y3,y4,y5,y6,y7⟩:=aT HY.out;obtain ⟨z0,z1,z2,z3,z4,z5⟩:=aR HZ.out;clear y z hb1)
 all_goals try (exfalso;omega)
 go_loop [27] (fun v=>∃k:Nat,k<=t.targets.length/\v = .int .i64 k/\Hid (R=if (t.targets.drop k).all (fun k=>decide (0<=k/\k<(b.blocks.length:Int)))=true then Q else 3)) (fun v=>t.targets.length - (intOf v).toNat)
 case atStart=>exact ⟨0,by omega,rfl,HF⟩
 case round=>
  clear HF;obtain ⟨k,hk2,rfl,hr⟩:=hrel;by_cases hlt:k<t.targets.length
  ·have hd:=cV hlt;obtain ⟨b5,o5,rfl,hb5,hx⟩:=HTG.out.sl.at_ hlt;obtain ⟨x,hxx⟩:∃x,t.targets[k]=x:=⟨_,rfl⟩;rw [hxx] at hd hx;have x0:w1.cell? ⟨b5,o5+k,none⟩=some (.int .i64 x):=cO HB.out (by simpa [RInt] using hx);by_cases hin:0<=x/\x<(b.blocks.length:Int)
   ·have HF2:Hid (R=if (t.targets.drop (k+1)).all (fun k=>decide (0<=k/\k<(b.blocks.length:Int)))=true then Q else 3):=aF (by rw [hr.out,hd,cB];simp [hin]);have e1:¬x<0:=(by omega);have e2:¬(b.blocks.length:Int)<=x:=(by omega);clear hd hx hxx hr hin;go_wp2_with fail
    all_goals try (exfalso;omega)
    go_round
    case rel=>exact ⟨k+1,by omega,by go_num,HF2⟩
    case measure=>simp [intOf];omega
   ·have HF2:Hid (R=3):=aF (by rw [hr.out,hd,cB];simp;intro h1 h2;exact absurd ⟨h1,h2⟩ hin);clear hd hx hxx hr;go_wp2_with fail
    all_goals first
     | (exfalso;omega)
     | (go_ret;exact ⟨by rw [HF2.out];rfl,HB.out⟩)
  ·have HF2:Hid (R=Q):=aF (by rw [hr.out,bE (by omega:t.targets.length<=k)];rfl);clear hr;go_wp2_with fail
   go_ret;exact ⟨by rw [HF2.out,<- HQ.out];rfl,HB.out⟩
theorem yS {b:Bdy} {bh:BH} {r:Nat} {w:World} (H:Ck w b bh r) (t:Trm) (A B C:Option Addr) (c d f:Nat) (ht:Slc 1 RInt w A c t.targets) (hl:Slc 4 ROp w B d t.args) (hp:Slc 2 RPj w C f t.place.proj):
 Calls Tryz.prog 76 #[.agg (ckC b bh r).toArray,.agg (tmC t A c B d C f).toArray] w fun e' w'=>e' = .returned (.int .i64 (tmE b t))/\Below w.heap.size w w':=by
 by_cases h0:t.kind<0\/5<t.kind
 ·exact qY H t A B C c d f ht hl hp (Or.inl h0)
 obtain ⟨q,hq⟩:∃q,fieldsT t=q:=⟨_,rfl⟩;cases q
 ·exact qY H t A B C c d f ht hl hp (Or.inr ⟨h0,hq⟩)
 rcases (show t.kind=1\/t.kind=3\/t.kind=4\/(t.kind=0\/t.kind=2\/t.kind=5) by omega) with h | h | h | h
 ·exact xCI H t A B C c d f ht hl hp h hq
 ·exact vD H t A B C c d f ht hl hp h hq
 ·exact vC H t A B C c d f ht hl hp h hq
 ·exact yR H t A B C c d f ht hl hp h hq
theorem iQ {k b:Nat} (hk:k≠b):∀(vs:List Value) (o:Nat) (w:World),(w.setCells b o vs).heap[k]?=w.heap[k]?
 | [],_,_=>rfl
 | v :: vs,o,w=>(iQ hk vs (o+1) _).trans (bH w ⟨b,o,none⟩ v k hk)
theorem iJ (b:Nat):∀(vs:List Value) (o:Nat) (w:World),(w.setCells b o vs).heap.size=w.heap.size
 | [],_,_=>rfl
 | v :: vs,o,w=>(iJ b vs (o+1) _).trans (by simp)
theorem xAI (b:Bdy) (bh:BH) (w:World) (H:BdAt w b bh) (hok:DeclOk b):
 Calls Tryz.prog 74 #[.agg (bdC b bh).toArray] w fun e' w'=>∃r,e' = .returned (.agg (ckC b bh r).toArray)/\Ck w' b bh r/\Below w.heap.size w w':=by
 have HN:=aF (fun (W:World) (hb:Below w.heap.size w W)=>xDG b.outl b.regions.length bh.A2 bh.c2 W (H.keep hb).out hok.outl (by have:=hok.nreg;omega));have HH:=aF H;have HO:=aF hok;clear H hok;unfold bdC ckC;go_enter Tryz.func74,Tryz.ntmps74
 go_wp2_with (go_at_call 45;refine (HN.out _ (bel2 _ _ _)).mono ?_;rintro e' w1 ⟨r0,M0,c0,F0,ba0,rfl,hrel,hr0,hM0,hb1⟩;have HB:=aF ((bel2 _ _ _).trans (hb1.mono (bel2 _ _ _).size));have HREL:=aF hrel;obtain ⟨y,z⟩:=cU hb1;obtain ⟨y0,y1,y2,y3,y4,y5,y6⟩:=aS y;have h8:w1.heap[w.heap.size+1]?=some (.cells #[.string ⟨#[]⟩,.slice none 0 0,.slice none 0 0,.slice none 0 0,.slice none 0 0,.int .i64 0,.slice none 0 0,.pointer none] 118):=(hb1.block _ (by simp)).trans (by rw [eS _ _ _ (by simp)]);have f8:∀i,w1.frozen? ⟨w.heap.size+1,i,none⟩=false:=(fun i=>(by unfold World.frozen?;simp only [h8];simp));obtain ⟨z0,z1,z2,z3,z4,z5,z6,z7⟩:=aT z;have H8:=aF h8;simp only [bI] at hr0 hM0;clear h8 y z hb1 hrel)
 generalize hW2:((((((((w1.setCell ⟨w.heap.size+1,0,none⟩ (Value.string b.name)).setCell ⟨w.heap.size+1,1,none⟩ (Value.slice bh.A1 b.regions.length bh.c1)).setCell ⟨w.heap.size+1,2,none⟩ (Value.slice bh.A2 b.outl.length bh.c2)).setCell ⟨w.heap.size+1,3,none⟩ (Value.slice bh.A3 b.types.length bh.c3)).setCell ⟨w.heap.size+1,4,none⟩ (Value.slice bh.A4 b.locals.length bh.c4)).setCell ⟨w.heap.size+1,5,none⟩ (Value.int IntKind.i64 b.args)).setCell ⟨w.heap.size+1,6,none⟩ (Value.slice bh.A5 b.blocks.length bh.c5)).setCell ⟨w.heap.size+1,7,none⟩ (Value.pointer (some ⟨r0,0,none⟩)))=W2;have hW:w1.setCells (w.heap.size+1) 0 (ckC b bh r0)=W2:=hW2
 have hth:w1.there (w.heap.size+1) 0 8:=fun j hj=>⟨by
  rw [Nat.zero_add];match j,hj with
  | 0,_=>rw [z0];rfl
  | 1,_=>rw [z1];rfl
  | 2,_=>rw [z2];rfl
  | 3,_=>rw [z3];rfl
  | 4,_=>rw [z4];rfl
  | 5,_=>rw [z5];rfl
  | 6,_=>rw [z6];rfl
  | 7,_=>rw [z7];rfl,f8 _⟩
 have hcl:=World.rangeAt_setCells_same w1 (w.heap.size+1) 0 (ckC b bh r0) hth;have hbo:∀k,k≠w.heap.size+1->W2.heap[k]?=w1.heap[k]?:=fun k hk=>by rw [<- hW];exact iQ hk _ _ _
 have hsz:W2.heap.size=w1.heap.size:=by rw [<- hW];exact iJ _ _ _ _
 have hGI:=HREL.out.but (lo:=w.heap.size+2) hr0 hM0 (w':=W2) (fun k h1 _=>hbo k (by omega)) (by omega);have hBL:Below w.heap.size w W2:=by rw [<- hW];exact dP (Nat.le_succ _) _ _ _ HB.out
 rw [hW] at hcl;have v0:=hcl 0 _ rfl;have v1:=hcl 1 _ rfl;have v2:=hcl 2 _ rfl;have v3:=hcl 3 _ rfl;have v4:=hcl 4 _ rfl;have v5:=hcl 5 _ rfl;have v6:=hcl 6 _ rfl;have v7:=hcl 7 _ rfl;simp only [Nat.zero_add] at v0 v1 v2 v3 v4 v5 v6 v7;have HCK:=aF (show Ck W2 b bh r0 from ⟨HH.out.keep hBL,HO.out,hGI.rel3⟩);have HBL:=aF hBL;clear hGI hbo hcl hth hW hW2 hsz hBL HREL HH HO f8 z0 z1 z2 z3 z4 z5 z6 z7;exact bodyPost_ret (v:= .agg (ckC b bh r0).toArray) (by simp [results,Tryz.results74,go_sem,v0,v1,v2,v3,v4,v5,v6,v7];rfl) rfl ⟨r0,rfl,HCK.out,HBL.out⟩
end
section
open Go Go.RowKit Go.Sort
theorem qL {zs:List Int} (hs:zs.Pairwise (· <= ·)):Srt (Lib.compact zs) (fun x=>x∈zs):=by
 have key:∀m,m<=zs.length->(Lib.compactUpTo zs.toArray m).Pairwise (· < ·)/\∀x,x∈Lib.compactUpTo zs.toArray m↔∃j,j<m/\zs[j]?=some x:=by
  intro m;induction m with
  | zero=>exact fun _=>⟨by simp [Lib.compactUpTo],fun x=>by simp [Lib.compactUpTo]⟩
  | succ m ih=>
    intro hm;obtain ⟨h1,h2⟩:=ih (by omega);have hg:∀j (h:j<zs.length),zs.toArray[j]! = zs[j]:=fun j h=>by simp [h]
    have hmo:∀i j (hi:i<j) (hj:j<zs.length),zs[i]<=zs[j]:=fun i j hi hj=>List.pairwise_iff_getElem.1 hs i j (by omega) hj hi
    rw [Lib.compactUpTo_succ]
    have hnew:∀x,(∃j,j<m+1/\zs[j]?=some x)↔(∃j,j<m/\zs[j]?=some x)\/zs[m]?=some x:=fun x=>by
     constructor
     ·rintro ⟨j,hj,e⟩;by_cases e':j=m
      ·subst e';exact .inr e
      ·exact .inl ⟨j,by omega,e⟩
     ·rintro (⟨j,hj,e⟩ | e)
      ·exact ⟨j,by omega,e⟩
      ·exact ⟨m,by omega,e⟩
    have hgm:=bD (show m<zs.length by omega);by_cases hk:Lib.keeps zs.toArray m=true
    ·rw [bA hk,hg m (by omega)];refine ⟨jV h1 (fun y hy=>?_),fun x=>?_⟩
     ·obtain ⟨j,hj,e⟩:=(h2 y).1 hy;rw [bD (by omega)] at e;injection e with e
      have a1:=hmo j m hj (by omega);rcases Nat.eq_or_lt_of_le (show j+1<=m by omega) with e2 | e2
      ·have:zs.toArray[m]! ≠ zs.toArray[m - 1]! := fun e3=>by rw [Lib.keeps_neg (by omega) e3] at hk;cases hk
       rw [hg m (by omega),hg (m - 1) (by omega)] at this;have e4:m - 1=j:=(by omega);simp only [e4] at this;omega
      ·have a2:=hmo j (m - 1) (by omega) (by omega);have a3:=hmo (m - 1) m (by omega) (by omega);have:zs.toArray[m]! ≠ zs.toArray[m - 1]! := fun e3=>by rw [Lib.keeps_neg (by omega) e3] at hk;cases hk
       rw [hg m (by omega),hg (m - 1) (by omega)] at this;omega
     ·rw [hnew,cK,h2,hgm,bR];simp only [cI];exact or_congr Iff.rfl eq_comm
    ·rw [aZ hk,List.append_nil]
     have hm0:0<m:=by
      apply Classical.byContradiction
      intro h0;have:m=0:=by omega
      subst this;exact hk (Lib.keeps_lt_one _ 0 (by omega))
     have he:zs[m]'(by omega)=zs[m - 1]'(by omega):=by
      apply Classical.byContradiction
      intro hne;exact hk (Lib.keeps_pos (by rw [hg m (by omega),hg (m - 1) (by omega)];exact hne))
     refine ⟨h1,fun x=>?_⟩;rw [hnew,h2,hgm,he];constructor
     ·exact .inl
     ·rintro (h | h)
      ·exact h
      ·exact ⟨m - 1,by omega,by rw [bD (by omega)];exact h⟩
 obtain ⟨h1,h2⟩:=key zs.length (aY _);refine ⟨h1,fun x=>(h2 x).trans ?_⟩;show _↔x∈zs;rw [List.mem_iff_getElem?];exact ⟨fun ⟨j,_,e⟩=>⟨j,e⟩,fun ⟨j,e⟩=>⟨j,(List.getElem?_eq_some_iff.1 e).1,e⟩⟩
theorem xAL (zs:List Int):(zs.mergeSort fun x y=>decide (x<=y)).Pairwise (· <= ·):=
 (List.pairwise_mergeSort (fun a b c h1 h2=>by simp only [decide_eq_true_eq] at *;omega) (fun a b=>by simp only [Bool.or_eq_true,decide_eq_true_eq];omega) zs).imp (fun h=>by simpa using h)
theorem zF (W:World) (base n:Nat) (v:Value) (zs:List Int) (h:W.ownsRow base 3 1 v n (zs.map (Value.int .i64))) (hn:zs.length=n) (hsz:n<4611686018427387904):
 Calls Tryz.prog 66 #[v] W fun e w'=>e = .returned (.tuple #[])/\w'.ownsRow base 3 1 v n ((zs.mergeSort fun x y=>decide (x<=y)).map (Value.int .i64))/\W.grownBy w' v.ownBlock:=by
 subst hn;rcases h.2 with ⟨rfl,hz⟩ | ⟨g,cap,cur,rfl,hb,hh,hnc,hcm,hcs,htk⟩
 ·have hz2:=bU hz;subst hz2;refine (Tryz.slices_Sort_int_none none 0 W).mono ?_;rintro e w' ⟨rfl,rfl⟩;exact ⟨rfl,by simpa using h,⟨rfl,rfl,rfl,aY _,fun _ _ _=>rfl⟩⟩
 ·have hold:=holds_of_blockI (ss:=zs) hh (by simpa using htk);refine (Tryz.slices_Sort_int g 0 cap zs W hold (Array.getElem?_eq_some_iff.1 hh).1 hsz).mono ?_;rintro e w' ⟨rfl,q,os,rfl⟩;exact ⟨rfl,ownsRow_sortedI (by simp) hb hh hnc hcm hcs,grownBy_sortedI _⟩
theorem qM (W:World) (base n:Nat) (v:Value) (zs:List Int) (h:W.ownsRow base 3 1 v n (zs.map (Value.int .i64))) (hn:zs.length=n) (hs:zs.Pairwise (· <= ·)):
 Calls Tryz.prog 79 #[v] W fun e w'=>∃A c s,e = .returned (.slice A s.length c)/\Srt s (fun x=>x∈zs)/\Slc 1 RInt w' A c s/\(∀a,A=some a->base<=a.block)/\W.grownBy w' v.ownBlock:=by
 subst hn;have hsrt:=qL hs;rcases h.2 with ⟨rfl,hz⟩ | ⟨g,cap,cur,rfl,hb,hh,hnc,hcm,hcs,htk⟩
 ·have hz2:=bU hz;subst hz2;refine (Tryz.slices_Compact_int_empty none 0 W).mono ?_;rintro e w' ⟨rfl,rfl⟩;exact ⟨none,0,[],rfl,⟨List.Pairwise.nil,fun x=>Iff.rfl⟩,⟨Sl.nil,by simp,by omega⟩,(fun a h=>by cases h),⟨rfl,rfl,rfl,aY _,fun _ _ _=>rfl⟩⟩
 ·have hold:=holds_of_blockI (ss:=zs) hh (by simpa using htk);have hcm':cap<=9223372036854775807:=by simpa [maxLen] using hcm
  have hcl:=Lib.compact_length_le zs;refine (Tryz.slices_Compact_int g 0 cap zs W hold (by omega) hnc).mono ?_;rintro e w' ⟨rfl,q,rfl⟩;have hl3:(Lib.compact zs ++ List.replicate (zs.length - (Lib.compact zs).length) 0).length=zs.length:=by simp;omega
  have ho:=ownsRow_sortedI (w:=W) (base:=base) (g:=g) (cap:=cap) (n:=q) (e:=3) (os:= #[]) (cur:=cur) (ss:=zs) (ts:=Lib.compact zs ++ List.replicate (zs.length - (Lib.compact zs).length) 0) hl3 hb hh hnc hcm hcs;have hg:=grownBy_sortedI (w:=W) (g:=g) (n:=q) (os:= #[]) (Lib.compact zs ++ List.replicate (zs.length - (Lib.compact zs).length) 0).toArray;rw [grow_empty] at ho hg;obtain ⟨A',c',hv,hs3,hlo⟩:=fD (R:=RInt) (enc:=Value.int .i64) (fun w B b o x h=>h) ho hl3;injection hv with hv1 _ hv2
  subst hv1 hv2;refine ⟨_,_,_,rfl,hsrt,⟨?_,by omega,hs3.big⟩,fun a h=>(hlo a h).1,hg⟩;have h1:=hs3.sl.take (Lib.compact zs).length;rwa [List.take_append_of_le_length (by simp),List.take_of_length_le (by simp)] at h1
end
section
open Go Go.RowKit
theorem gD (w:World) (l m k:List Value) (t1 t2 t3:TypeId):(∀i v,l[i]?=some v->(((w.alloc (.cells l.toArray t1)).alloc (.cells m.toArray t2)).alloc (.cells k.toArray t3)).drew.cell? ⟨w.heap.size,i,none⟩=some v)/\(∀i v,m[i]?=some v->(((w.alloc (.cells l.toArray t1)).alloc (.cells m.toArray t2)).alloc (.cells k.toArray t3)).drew.cell? ⟨w.heap.size+1,i,none⟩=some v)/\(∀i v,k[i]?=some v->(((w.alloc (.cells l.toArray t1)).alloc (.cells m.toArray t2)).alloc (.cells k.toArray t3)).drew.cell? ⟨w.heap.size+1+1,i,none⟩=some v)/\Below w.heap.size w (((w.alloc (.cells l.toArray t1)).alloc (.cells m.toArray t2)).alloc (.cells k.toArray t3)).drew:=
 ⟨(dL (aX _ _)).1,(dL (aX _ _)).2.1,(dL (aX _ _)).2.2,Below.drew (bel3 _ _ _ _)⟩
end
end Go.Proofs.YtcfchohkmkilpaaGreatDoor
