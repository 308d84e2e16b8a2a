/-
  Parts of the proof: V52.
-/
import Derived.Test.YtmknfbfppmkcfaaGreatDoorPI0
import Derived.Test.YtmknfbfppmkcfaaGreatDoorPI10
import Derived.Test.YtmknfbfppmkcfaaGreatDoorPI8
namespace Go.Proofs.YtmknfbfppmkcfaaGreatDoor
set_option maxRecDepth 100000
set_option maxHeartbeats 16000000
section
open Go Go.RowKit Go.Maps
theorem xL {b:Bdy} {bh:BH} {w:World} (H:Rk w b bh) (s:Stm) (A0 A B:Option Addr) (c0 c d:Nat) (hp0:Slc 2 RPj w A0 c0 s.place.proj) (_hl:Slc 4 ROp w B d s.rv.args)
 (hasg:∀W,Below w.heap.size w W->∀t:Nat,t<b.types.length->Calls Tryz.prog 97 #[.agg (bdC b bh).toArray,.agg (rvC s.rv A c B d).toArray,.int .i64 t] W fun e' w'=>e' = .returned (.int .i64 (rvE b s.rv t))/\Below W.heap.size W w'):
 Calls Tryz.prog 55 #[.agg (bdC b bh).toArray,.agg (stC s A0 c0 A c B d).toArray] w fun e' w'=>e' = .returned (.int .i64 (stE b s))/\Below w.heap.size w w':=by
 have HT:=aF (fun W (hb:Below w.heap.size w W)=>eC b bh s.place A0 c0 W (H.keep hb).at_ (hp0.keep RPj.keeps hb) H.ok.okay);have HM:=aF (fun W (hb:Below w.heap.size w W)=>lH b bh s.place A0 c0 W (H.keep hb).at_ (hp0.keep RPj.keeps hb) H.ok.okay);have HN:=aF (fun W=>dQ s.place A0 c0 W);have HBK:=aF (fun W=>vG s.rv A B c d W);have hlocl:=H.at_.loc.le;have hlocb:=H.at_.loc.big;have hin:=fL H.ok.okay (l:=s.place.loc) (ps:=s.place.proj);change (tyB b s.place).2=0->0<=(tyB b s.place).1/\(tyB b s.place).1<b.types.length at hin;have HAS0:=aF hasg;obtain ⟨R,hR⟩:∃R,stE b s=R:=⟨_,rfl⟩;rw [hR];have HR:Hid (R=if s.kind=0 then (if s.loc≠0 then 2 else if writE b s.place≠0 then writE b s.place else rvE b s.rv (tyB b s.place).1) else if s.kind=1 then (if zeroP s.place=false\/blankR s.rv=false then 2 else if s.loc<0\/(b.locals.length:Int)<=s.loc then 3 else 0) else if s.kind=2 then (if zeroP s.place=false\/blankR s.rv=false\/s.loc≠0 then 2 else 0) else 14):=aF hR.symm;have HW:Hid (writE b s.place=if (tyB b s.place).2≠0 then (tyB b s.place).2 else fail22 (!mutB b s.place)):=aF rfl;clear H hp0 _hl hR hasg;generalize writE b s.place=we at HR HW;generalize tyB b s.place=q at HT HR HW hin;generalize mutB b s.place=mu at HM HW;generalize zeroP s.place=z at HN HR;generalize blankR s.rv=bl at HBK HR;obtain ⟨t,te⟩:=q;simp only at HR HW hin HT;unfold bdC at *;unfold rvC at HBK HAS0;unfold stC;obtain ⟨k,hk⟩:∃k,s.kind=k:=⟨_,rfl⟩;rw [hk] at HR ⊢;clear hk;by_cases h0:k=0
 ·subst h0;clear HN HBK;by_cases hl0:s.loc=0
  case neg=>
   have HF:Hid (R=2):=aF (by rw [HR.out];simp [hl0]);have e1:(s.loc != 0)=true:=by simp [hl0]
   clear HR HW HM HT HAS0 hl0 hin;go_enter Tryz.func55,Tryz.ntmps55
   go_wp2_with fail
   go_ret;exact ⟨by rw [HF.out];rfl,aH⟩
  have e1:(s.loc != 0)=false:=by simp [hl0]
  by_cases ht:te=0
  case neg=>
   have HF:Hid (R=te):=aF (by rw [HR.out,bA rfl,aZ (by simp [hl0]),HW.out];simp [ht]);have e2:(te != 0)=true:=by simp [ht]
   clear HR HW HM HAS0 hl0 hin ht;go_enter Tryz.func55,Tryz.ntmps55
   go_wp2_with (go_at_call 95;refine (HT.out _ (bel2 _ _ _)).mono ?_;rintro e' w1 ⟨rfl,hb⟩;have HB:=aF ((bel2 _ _ _).trans (hb.mono (bel2 _ _ _).size));obtain ⟨y,z⟩:=cT hb;have HY:=aF y;have HZ:=aF z;obtain ⟨y0,y1,y2,y3,y4,y5,y6⟩:=aS HY.out;obtain ⟨z0,z1,z2,z3,z4,z5,z6,z7,z8,z9,z10⟩:=aW HZ.out;clear y z hb)
   go_ret;exact ⟨by rw [HF.out];rfl,HB.out⟩
  subst ht;obtain ⟨g1,g2⟩:=hin rfl;obtain ⟨i,rfl⟩:=bG g1;have HAS:=aF (fun W hb=>HAS0.out W hb i (by omega));cases mu
  ·have HF:Hid (R=22):=aF (by rw [HR.out,bA rfl,aZ (by simp [hl0]),HW.out];simp [fail22]);clear HR HW HAS HAS0 hl0 hin g1 g2;go_enter Tryz.func55,Tryz.ntmps55
   go_wp2_with (first | (go_at_call 96;refine (HM.out _ HB.out).mono ?_;rintro e' w2 ⟨rfl,hb⟩;have HB2:=aF (HB.out.trans (hb.mono HB.out.size));have HY2:=aF (cN HY.out hb);have HZ2:=aF (cN HZ.out hb);clear y0 y1 y2 y3 y4 y5 y6 z0 z1 z2 z3 z4 z5 z6 z7 z8 z9 z10;clear hb HY HZ;have HY:=HY2;have HZ:=HZ2;obtain ⟨y0,y1,y2,y3,y4,y5,y6⟩:=aS HY.out;obtain ⟨z0,z1,z2,z3,z4,z5,z6,z7,z8,z9,z10⟩:=aW HZ.out) | (go_at_call 95;refine (HT.out _ (bel2 _ _ _)).mono ?_;rintro e' w1 ⟨rfl,hb⟩;have HB:=aF ((bel2 _ _ _).trans (hb.mono (bel2 _ _ _).size));obtain ⟨y,z⟩:=cT hb;have HY:=aF y;have HZ:=aF z;obtain ⟨y0,y1,y2,y3,y4,y5,y6⟩:=aS HY.out;obtain ⟨z0,z1,z2,z3,z4,z5,z6,z7,z8,z9,z10⟩:=aW HZ.out;clear y z hb))
   go_ret;exact ⟨by rw [HF.out];rfl,HB2.out⟩
  ·have HF:Hid (R=rvE b s.rv i):=aF (by rw [HR.out,bA rfl,aZ (by simp [hl0]),HW.out];simp [fail22]);clear HR HW HAS0 hl0 hin g1 g2;go_enter Tryz.func55,Tryz.ntmps55
   go_wp2_with (first | (go_at_call 97;refine (HAS.out _ HB2.out).mono ?_;rintro e' w3 ⟨rfl,hb⟩;have HB3:=aF (HB2.out.trans (hb.mono HB2.out.size));clear hb) | (go_at_call 96;refine (HM.out _ HB.out).mono ?_;rintro e' w2 ⟨rfl,hb⟩;have HB2:=aF (HB.out.trans (hb.mono HB.out.size));have HY2:=aF (cN HY.out hb);have HZ2:=aF (cN HZ.out hb);clear y0 y1 y2 y3 y4 y5 y6 z0 z1 z2 z3 z4 z5 z6 z7 z8 z9 z10;clear hb HY HZ;have HY:=HY2;have HZ:=HZ2;obtain ⟨y0,y1,y2,y3,y4,y5,y6⟩:=aS HY.out;obtain ⟨z0,z1,z2,z3,z4,z5,z6,z7,z8,z9,z10⟩:=aW HZ.out) | (go_at_call 95;refine (HT.out _ (bel2 _ _ _)).mono ?_;rintro e' w1 ⟨rfl,hb⟩;have HB:=aF ((bel2 _ _ _).trans (hb.mono (bel2 _ _ _).size));obtain ⟨y,z⟩:=cT hb;have HY:=aF y;have HZ:=aF z;obtain ⟨y0,y1,y2,y3,y4,y5,y6⟩:=aS HY.out;obtain ⟨z0,z1,z2,z3,z4,z5,z6,z7,z8,z9,z10⟩:=aW HZ.out;clear y z hb))
   go_ret;exact ⟨by rw [HF.out];rfl,HB3.out⟩
 clear HM HT HAS0 HW hin;by_cases h1:k=1
 ·subst h1;cases z
  ·have HF:Hid (R=2):=aF (by rw [HR.out];simp);clear HR HBK h0;go_enter Tryz.func55,Tryz.ntmps55
   go_wp2_with (go_at_call 98;refine (HN.out _).mono ?_;rintro e' w1 ⟨rfl,hb⟩;have HB:=aF ((bel2 _ _ _).trans (hb.mono (bel2 _ _ _).size));obtain ⟨y,z⟩:=cT hb;have HY:=aF y;have HZ:=aF z;obtain ⟨y0,y1,y2,y3,y4,y5,y6⟩:=aS HY.out;obtain ⟨z0,z1,z2,z3,z4,z5,z6,z7,z8,z9,z10⟩:=aW HZ.out;clear y z hb)
   go_ret;exact ⟨by rw [HF.out];rfl,HB.out⟩
  cases bl
  ·have HF:Hid (R=2):=aF (by rw [HR.out];simp);clear HR h0;go_enter Tryz.func55,Tryz.ntmps55
   go_wp2_with (first | (go_at_call 99;refine (HBK.out _).mono ?_;rintro e' w2 ⟨rfl,hb⟩;have HB2:=aF (HB.out.trans (hb.mono HB.out.size));have HY2:=aF (cN HY.out hb);have HZ2:=aF (cN HZ.out hb);clear y0 y1 y2 y3 y4 y5 y6 z0 z1 z2 z3 z4 z5 z6 z7 z8 z9 z10;clear hb HY HZ;have HY:=HY2;have HZ:=HZ2;obtain ⟨y0,y1,y2,y3,y4,y5,y6⟩:=aS HY.out;obtain ⟨z0,z1,z2,z3,z4,z5,z6,z7,z8,z9,z10⟩:=aW HZ.out) | (go_at_call 98;refine (HN.out _).mono ?_;rintro e' w1 ⟨rfl,hb⟩;have HB:=aF ((bel2 _ _ _).trans (hb.mono (bel2 _ _ _).size));obtain ⟨y,z⟩:=cT hb;have HY:=aF y;have HZ:=aF z;obtain ⟨y0,y1,y2,y3,y4,y5,y6⟩:=aS HY.out;obtain ⟨z0,z1,z2,z3,z4,z5,z6,z7,z8,z9,z10⟩:=aW HZ.out;clear y z hb))
   go_ret;exact ⟨by rw [HF.out];rfl,HB2.out⟩
  by_cases hlo:s.loc<0\/(b.locals.length:Int)<=s.loc
  ·have HF:Hid (R=3):=aF (by rw [HR.out,aZ h0,bA rfl,aZ (by simp),bA hlo]);clear HR h0;go_enter Tryz.func55,Tryz.ntmps55
   go_wp2_with (first | (go_at_call 99;refine (HBK.out _).mono ?_;rintro e' w2 ⟨rfl,hb⟩;have HB2:=aF (HB.out.trans (hb.mono HB.out.size));have HY2:=aF (cN HY.out hb);have HZ2:=aF (cN HZ.out hb);clear y0 y1 y2 y3 y4 y5 y6 z0 z1 z2 z3 z4 z5 z6 z7 z8 z9 z10;clear hb HY HZ;have HY:=HY2;have HZ:=HZ2;obtain ⟨y0,y1,y2,y3,y4,y5,y6⟩:=aS HY.out;obtain ⟨z0,z1,z2,z3,z4,z5,z6,z7,z8,z9,z10⟩:=aW HZ.out) | (go_at_call 98;refine (HN.out _).mono ?_;rintro e' w1 ⟨rfl,hb⟩;have HB:=aF ((bel2 _ _ _).trans (hb.mono (bel2 _ _ _).size));obtain ⟨y,z⟩:=cT hb;have HY:=aF y;have HZ:=aF z;obtain ⟨y0,y1,y2,y3,y4,y5,y6⟩:=aS HY.out;obtain ⟨z0,z1,z2,z3,z4,z5,z6,z7,z8,z9,z10⟩:=aW HZ.out;clear y z hb))
   all_goals first
    | (exfalso;omega)
    | (go_ret;exact ⟨by rw [HF.out];rfl,HB2.out⟩)
  ·have HF:Hid (R=0):=aF (by rw [HR.out,aZ h0,bA rfl,aZ (by simp),aZ hlo]);have e5:¬s.loc<0:=by omega
   have e6:¬(b.locals.length:Int)<=s.loc:=by omega
   clear HR h0 hlo;go_enter Tryz.func55,Tryz.ntmps55
   go_wp2_with (first | (go_at_call 99;refine (HBK.out _).mono ?_;rintro e' w2 ⟨rfl,hb⟩;have HB2:=aF (HB.out.trans (hb.mono HB.out.size));have HY2:=aF (cN HY.out hb);have HZ2:=aF (cN HZ.out hb);clear y0 y1 y2 y3 y4 y5 y6 z0 z1 z2 z3 z4 z5 z6 z7 z8 z9 z10;clear hb HY HZ;have HY:=HY2;have HZ:=HZ2;obtain ⟨y0,y1,y2,y3,y4,y5,y6⟩:=aS HY.out;obtain ⟨z0,z1,z2,z3,z4,z5,z6,z7,z8,z9,z10⟩:=aW HZ.out) | (go_at_call 98;refine (HN.out _).mono ?_;rintro e' w1 ⟨rfl,hb⟩;have HB:=aF ((bel2 _ _ _).trans (hb.mono (bel2 _ _ _).size));obtain ⟨y,z⟩:=cT hb;have HY:=aF y;have HZ:=aF z;obtain ⟨y0,y1,y2,y3,y4,y5,y6⟩:=aS HY.out;obtain ⟨z0,z1,z2,z3,z4,z5,z6,z7,z8,z9,z10⟩:=aW HZ.out;clear y z hb))
   all_goals first
    | (exfalso;omega)
    | (go_ret;exact ⟨by rw [HF.out];rfl,HB2.out⟩)
 by_cases h2:k=2
 ·subst h2;cases z
  ·have HF:Hid (R=2):=aF (by rw [HR.out];simp);clear HR HBK h0 h1;go_enter Tryz.func55,Tryz.ntmps55
   go_wp2_with (go_at_call 98;refine (HN.out _).mono ?_;rintro e' w1 ⟨rfl,hb⟩;have HB:=aF ((bel2 _ _ _).trans (hb.mono (bel2 _ _ _).size));obtain ⟨y,z⟩:=cT hb;have HY:=aF y;have HZ:=aF z;obtain ⟨y0,y1,y2,y3,y4,y5,y6⟩:=aS HY.out;obtain ⟨z0,z1,z2,z3,z4,z5,z6,z7,z8,z9,z10⟩:=aW HZ.out;clear y z hb)
   go_ret;exact ⟨by rw [HF.out];rfl,HB.out⟩
  cases bl
  ·have HF:Hid (R=2):=aF (by rw [HR.out];simp);clear HR h0 h1;go_enter Tryz.func55,Tryz.ntmps55
   go_wp2_with (first | (go_at_call 99;refine (HBK.out _).mono ?_;rintro e' w2 ⟨rfl,hb⟩;have HB2:=aF (HB.out.trans (hb.mono HB.out.size));have HY2:=aF (cN HY.out hb);have HZ2:=aF (cN HZ.out hb);clear y0 y1 y2 y3 y4 y5 y6 z0 z1 z2 z3 z4 z5 z6 z7 z8 z9 z10;clear hb HY HZ;have HY:=HY2;have HZ:=HZ2;obtain ⟨y0,y1,y2,y3,y4,y5,y6⟩:=aS HY.out;obtain ⟨z0,z1,z2,z3,z4,z5,z6,z7,z8,z9,z10⟩:=aW HZ.out) | (go_at_call 98;refine (HN.out _).mono ?_;rintro e' w1 ⟨rfl,hb⟩;have HB:=aF ((bel2 _ _ _).trans (hb.mono (bel2 _ _ _).size));obtain ⟨y,z⟩:=cT hb;have HY:=aF y;have HZ:=aF z;obtain ⟨y0,y1,y2,y3,y4,y5,y6⟩:=aS HY.out;obtain ⟨z0,z1,z2,z3,z4,z5,z6,z7,z8,z9,z10⟩:=aW HZ.out;clear y z hb))
   go_ret;exact ⟨by rw [HF.out];rfl,HB2.out⟩
  by_cases hlo:s.loc=0
  ·have HF:Hid (R=0):=aF (by rw [HR.out];simp [hlo]);have e5:(s.loc != 0)=false:=by simp [hlo]
   clear HR h0 h1 hlo;go_enter Tryz.func55,Tryz.ntmps55
   go_wp2_with (first | (go_at_call 99;refine (HBK.out _).mono ?_;rintro e' w2 ⟨rfl,hb⟩;have HB2:=aF (HB.out.trans (hb.mono HB.out.size));have HY2:=aF (cN HY.out hb);have HZ2:=aF (cN HZ.out hb);clear y0 y1 y2 y3 y4 y5 y6 z0 z1 z2 z3 z4 z5 z6 z7 z8 z9 z10;clear hb HY HZ;have HY:=HY2;have HZ:=HZ2;obtain ⟨y0,y1,y2,y3,y4,y5,y6⟩:=aS HY.out;obtain ⟨z0,z1,z2,z3,z4,z5,z6,z7,z8,z9,z10⟩:=aW HZ.out) | (go_at_call 98;refine (HN.out _).mono ?_;rintro e' w1 ⟨rfl,hb⟩;have HB:=aF ((bel2 _ _ _).trans (hb.mono (bel2 _ _ _).size));obtain ⟨y,z⟩:=cT hb;have HY:=aF y;have HZ:=aF z;obtain ⟨y0,y1,y2,y3,y4,y5,y6⟩:=aS HY.out;obtain ⟨z0,z1,z2,z3,z4,z5,z6,z7,z8,z9,z10⟩:=aW HZ.out;clear y z hb))
   go_ret;exact ⟨by rw [HF.out];rfl,HB2.out⟩
  ·have HF:Hid (R=2):=aF (by rw [HR.out];simp [hlo]);have e5:(s.loc != 0)=true:=by simp [hlo]
   clear HR h0 h1 hlo;go_enter Tryz.func55,Tryz.ntmps55
   go_wp2_with (first | (go_at_call 99;refine (HBK.out _).mono ?_;rintro e' w2 ⟨rfl,hb⟩;have HB2:=aF (HB.out.trans (hb.mono HB.out.size));have HY2:=aF (cN HY.out hb);have HZ2:=aF (cN HZ.out hb);clear y0 y1 y2 y3 y4 y5 y6 z0 z1 z2 z3 z4 z5 z6 z7 z8 z9 z10;clear hb HY HZ;have HY:=HY2;have HZ:=HZ2;obtain ⟨y0,y1,y2,y3,y4,y5,y6⟩:=aS HY.out;obtain ⟨z0,z1,z2,z3,z4,z5,z6,z7,z8,z9,z10⟩:=aW HZ.out) | (go_at_call 98;refine (HN.out _).mono ?_;rintro e' w1 ⟨rfl,hb⟩;have HB:=aF ((bel2 _ _ _).trans (hb.mono (bel2 _ _ _).size));obtain ⟨y,z⟩:=cT hb;have HY:=aF y;have HZ:=aF z;obtain ⟨y0,y1,y2,y3,y4,y5,y6⟩:=aS HY.out;obtain ⟨z0,z1,z2,z3,z4,z5,z6,z7,z8,z9,z10⟩:=aW HZ.out;clear y z hb))
   go_ret;exact ⟨by rw [HF.out];rfl,HB2.out⟩
 have HF:Hid (R=14):=aF (by rw [HR.out,aZ h0,aZ h1,aZ h2]);have e0:(k == 0)=false:=by simp [h0]
 have e1:(k == 1)=false:=by simp [h1]
 have e2:(k == 2)=false:=by simp [h2]
 clear HR HBK HN h0 h1 h2;go_enter Tryz.func55,Tryz.ntmps55
 go_wp2_with fail
 go_ret;exact ⟨by rw [HF.out];rfl,aH⟩
end
end Go.Proofs.YtmknfbfppmkcfaaGreatDoor
