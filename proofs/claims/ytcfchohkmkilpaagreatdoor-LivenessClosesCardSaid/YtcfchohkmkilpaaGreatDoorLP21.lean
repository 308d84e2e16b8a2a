/-
  Parts of the proof: V52 V70 Open.
-/
import Derived.Sort.WalkA
import Derived.Test.YtcfchohkmkilpaaGreatDoorLP0
import Derived.Test.YtcfchohkmkilpaaGreatDoorLP13
import Derived.Test.YtcfchohkmkilpaaGreatDoorLP10
import Derived.Test.YtcfchohkmkilpaaGreatDoorLP6
import Derived.Test.YtcfchohkmkilpaaGreatDoorLP9
import Derived.Test.YtcfchohkmkilpaaGreatDoorLP5
import Derived.Test.YtcfchohkmkilpaaGreatDoorRows
import Derived.Test.YtcfchohkmkilpaaGreatDoorLP1
import Derived.ProofKit
import Derived.Below
import Derived.Deep.Slices
import Derived.Deep.Fields
import Derived.Lib.SmallJoins
import Derived.OpenShut
import Derived.LaidMore
import Derived.Stop.Joined
import Derived.Stop.LaidErr
import Derived.Lay
import Derived.SevenTiedAt
namespace Go.Proofs.YtcfchohkmkilpaaGreatDoor
set_option maxRecDepth 100000
set_option maxHeartbeats 16000000
section
open Go Go.RowKit Go.Maps
theorem vP {b:Bdy} {bh:BH} {w:World} (H:Rk w b bh) (s:Stm) (A0 A B:Option Addr) (c0 c d:Nat) (hp0:Slc 2 RPj w A0 c0 s.place.proj) (_hl:Slc 4 ROp w B d s.rv.args)
 (hasg:∀W,Below w.heap.size w W->∀t:Nat,t<b.types.length->Calls Tryz.prog 94 #[.agg (bdC b bh).toArray,.agg (rvC s.rv A c B d).toArray,.int .i64 t] W fun e' w'=>e' = .returned (.int .i64 (rvE b s.rv t))/\Below W.heap.size W w'):
 Calls Tryz.prog 61 #[.agg (bdC b bh).toArray,.agg (stC s A0 c0 A c B d).toArray] w fun e' w'=>e' = .returned (.int .i64 (stE b s))/\Below w.heap.size w w':=by
 have HT:=aF (fun W (hb:Below w.heap.size w W)=>eF b bh s.place A0 c0 W (H.keep hb).at_ (hp0.keep RPj.keeps hb) H.ok.okay);have HM:=aF (fun W (hb:Below w.heap.size w W)=>jT b bh s.place A0 c0 W (H.keep hb).at_ (hp0.keep RPj.keeps hb) H.ok.okay);have HN:=aF (fun W=>dQ s.place A0 c0 W);have HBK:=aF (fun W=>tW s.rv A B c d W);have hlocl:=H.at_.loc.le;have hlocb:=H.at_.loc.big;have hin:=fW H.ok.okay (l:=s.place.loc) (ps:=s.place.proj);change (tyB b s.place).2=0->0<=(tyB b s.place).1/\(tyB b s.place).1<b.types.length at hin;have HAS0:=aF hasg;obtain ⟨R,hR⟩:∃R,stE b s=R:=⟨_,rfl⟩;rw [hR];have HR:Hid (R=if s.kind=0 then (if s.loc≠0 then 2 else if writE b s.place≠0 then writE b s.place else rvE b s.rv (tyB b s.place).1) else if s.kind=1 then (if zeroP s.place=false\/blankR s.rv=false then 2 else if s.loc<0\/(b.locals.length:Int)<=s.loc then 3 else 0) else if s.kind=2 then (if zeroP s.place=false\/blankR s.rv=false\/s.loc≠0 then 2 else 0) else 14):=aF hR.symm;have HW:Hid (writE b s.place=if (tyB b s.place).2≠0 then (tyB b s.place).2 else fail22 (!mutB b s.place)):=aF rfl;clear H hp0 _hl hR hasg;generalize writE b s.place=we at HR HW;generalize tyB b s.place=q at HT HR HW hin;generalize mutB b s.place=mu at HM HW;generalize zeroP s.place=z at HN HR;generalize blankR s.rv=bl at HBK HR;obtain ⟨t,te⟩:=q;simp only at HR HW hin HT;unfold bdC at *;unfold rvC at HBK HAS0;unfold stC;obtain ⟨k,hk⟩:∃k,s.kind=k:=⟨_,rfl⟩;rw [hk] at HR ⊢;clear hk;by_cases h0:k=0
 ·subst h0;clear HN HBK;by_cases hl0:s.loc=0
  case neg=>
   have HF:Hid (R=2):=aF (by rw [HR.out];simp [hl0]);have e1:(s.loc != 0)=true:=by simp [hl0]
   clear HR HW HM HT HAS0 hl0 hin;go_enter Tryz.func61,Tryz.ntmps61
   go_wp2_with fail
   go_ret;exact ⟨by rw [HF.out];rfl,aH⟩
  have e1:(s.loc != 0)=false:=by simp [hl0]
  by_cases ht:te=0
  case neg=>
   have HF:Hid (R=te):=aF (by rw [HR.out,bA rfl,aZ (by simp [hl0]),HW.out];simp [ht]);have e2:(te != 0)=true:=by simp [ht]
   clear HR HW HM HAS0 hl0 hin ht;go_enter Tryz.func61,Tryz.ntmps61
   go_wp2_with (go_at_call 92;refine (HT.out _ (bel2 _ _ _)).mono ?_;rintro e' w1 ⟨rfl,hb⟩;have HB:=aF ((bel2 _ _ _).trans (hb.mono (bel2 _ _ _).size));obtain ⟨y,z⟩:=cU hb;have HY:=aF y;have HZ:=aF z;obtain ⟨y0,y1,y2,y3,y4,y5,y6⟩:=aS HY.out;obtain ⟨z0,z1,z2,z3,z4,z5,z6,z7,z8,z9,z10⟩:=aW HZ.out;clear y z hb)
   go_ret;exact ⟨by rw [HF.out];rfl,HB.out⟩
  subst ht;obtain ⟨g1,g2⟩:=hin rfl;obtain ⟨i,rfl⟩:=bG g1;have HAS:=aF (fun W hb=>HAS0.out W hb i (by omega));cases mu
  ·have HF:Hid (R=22):=aF (by rw [HR.out,bA rfl,aZ (by simp [hl0]),HW.out];simp [fail22]);clear HR HW HAS HAS0 hl0 hin g1 g2;go_enter Tryz.func61,Tryz.ntmps61
   go_wp2_with (first | (go_at_call 93;refine (HM.out _ HB.out).mono ?_;rintro e' w2 ⟨rfl,hb⟩;have HB2:=aF (HB.out.trans (hb.mono HB.out.size));have HY2:=aF (cP HY.out hb);have HZ2:=aF (cP HZ.out hb);clear y0 y1 y2 y3 y4 y5 y6 z0 z1 z2 z3 z4 z5 z6 z7 z8 z9 z10;clear hb HY HZ;have HY:=HY2;have HZ:=HZ2;obtain ⟨y0,y1,y2,y3,y4,y5,y6⟩:=aS HY.out;obtain ⟨z0,z1,z2,z3,z4,z5,z6,z7,z8,z9,z10⟩:=aW HZ.out) | (go_at_call 92;refine (HT.out _ (bel2 _ _ _)).mono ?_;rintro e' w1 ⟨rfl,hb⟩;have HB:=aF ((bel2 _ _ _).trans (hb.mono (bel2 _ _ _).size));obtain ⟨y,z⟩:=cU hb;have HY:=aF y;have HZ:=aF z;obtain ⟨y0,y1,y2,y3,y4,y5,y6⟩:=aS HY.out;obtain ⟨z0,z1,z2,z3,z4,z5,z6,z7,z8,z9,z10⟩:=aW HZ.out;clear y z hb))
   go_ret;exact ⟨by rw [HF.out];rfl,HB2.out⟩
  ·have HF:Hid (R=rvE b s.rv i):=aF (by rw [HR.out,bA rfl,aZ (by simp [hl0]),HW.out];simp [fail22]);clear HR HW HAS0 hl0 hin g1 g2;go_enter Tryz.func61,Tryz.ntmps61
   go_wp2_with (first | (go_at_call 94;refine (HAS.out _ HB2.out).mono ?_;rintro e' w3 ⟨rfl,hb⟩;have HB3:=aF (HB2.out.trans (hb.mono HB2.out.size));clear hb) | (go_at_call 93;refine (HM.out _ HB.out).mono ?_;rintro e' w2 ⟨rfl,hb⟩;have HB2:=aF (HB.out.trans (hb.mono HB.out.size));have HY2:=aF (cP HY.out hb);have HZ2:=aF (cP HZ.out hb);clear y0 y1 y2 y3 y4 y5 y6 z0 z1 z2 z3 z4 z5 z6 z7 z8 z9 z10;clear hb HY HZ;have HY:=HY2;have HZ:=HZ2;obtain ⟨y0,y1,y2,y3,y4,y5,y6⟩:=aS HY.out;obtain ⟨z0,z1,z2,z3,z4,z5,z6,z7,z8,z9,z10⟩:=aW HZ.out) | (go_at_call 92;refine (HT.out _ (bel2 _ _ _)).mono ?_;rintro e' w1 ⟨rfl,hb⟩;have HB:=aF ((bel2 _ _ _).trans (hb.mono (bel2 _ _ _).size));obtain ⟨y,z⟩:=cU hb;have HY:=aF y;have HZ:=aF z;obtain ⟨y0,y1,y2,y3,y4,y5,y6⟩:=aS HY.out;obtain ⟨z0,z1,z2,z3,z4,z5,z6,z7,z8,z9,z10⟩:=aW HZ.out;clear y z hb))
   go_ret;exact ⟨by rw [HF.out];rfl,HB3.out⟩
 clear HM HT HAS0 HW hin;by_cases h1:k=1
 ·subst h1;cases z
  ·have HF:Hid (R=2):=aF (by rw [HR.out];simp);clear HR HBK h0;go_enter Tryz.func61,Tryz.ntmps61
   go_wp2_with (go_at_call 95;refine (HN.out _).mono ?_;rintro e' w1 ⟨rfl,hb⟩;have HB:=aF ((bel2 _ _ _).trans (hb.mono (bel2 _ _ _).size));obtain ⟨y,z⟩:=cU hb;have HY:=aF y;have HZ:=aF z;obtain ⟨y0,y1,y2,y3,y4,y5,y6⟩:=aS HY.out;obtain ⟨z0,z1,z2,z3,z4,z5,z6,z7,z8,z9,z10⟩:=aW HZ.out;clear y z hb)
   go_ret;exact ⟨by rw [HF.out];rfl,HB.out⟩
  cases bl
  ·have HF:Hid (R=2):=aF (by rw [HR.out];simp);clear HR h0;go_enter Tryz.func61,Tryz.ntmps61
   go_wp2_with (first | (go_at_call 96;refine (HBK.out _).mono ?_;rintro e' w2 ⟨rfl,hb⟩;have HB2:=aF (HB.out.trans (hb.mono HB.out.size));have HY2:=aF (cP HY.out hb);have HZ2:=aF (cP HZ.out hb);clear y0 y1 y2 y3 y4 y5 y6 z0 z1 z2 z3 z4 z5 z6 z7 z8 z9 z10;clear hb HY HZ;have HY:=HY2;have HZ:=HZ2;obtain ⟨y0,y1,y2,y3,y4,y5,y6⟩:=aS HY.out;obtain ⟨z0,z1,z2,z3,z4,z5,z6,z7,z8,z9,z10⟩:=aW HZ.out) | (go_at_call 95;refine (HN.out _).mono ?_;rintro e' w1 ⟨rfl,hb⟩;have HB:=aF ((bel2 _ _ _).trans (hb.mono (bel2 _ _ _).size));obtain ⟨y,z⟩:=cU hb;have HY:=aF y;have HZ:=aF z;obtain ⟨y0,y1,y2,y3,y4,y5,y6⟩:=aS HY.out;obtain ⟨z0,z1,z2,z3,z4,z5,z6,z7,z8,z9,z10⟩:=aW HZ.out;clear y z hb))
   go_ret;exact ⟨by rw [HF.out];rfl,HB2.out⟩
  by_cases hlo:s.loc<0\/(b.locals.length:Int)<=s.loc
  ·have HF:Hid (R=3):=aF (by rw [HR.out,aZ h0,bA rfl,aZ (by simp),bA hlo]);clear HR h0;go_enter Tryz.func61,Tryz.ntmps61
   go_wp2_with (first | (go_at_call 96;refine (HBK.out _).mono ?_;rintro e' w2 ⟨rfl,hb⟩;have HB2:=aF (HB.out.trans (hb.mono HB.out.size));have HY2:=aF (cP HY.out hb);have HZ2:=aF (cP HZ.out hb);clear y0 y1 y2 y3 y4 y5 y6 z0 z1 z2 z3 z4 z5 z6 z7 z8 z9 z10;clear hb HY HZ;have HY:=HY2;have HZ:=HZ2;obtain ⟨y0,y1,y2,y3,y4,y5,y6⟩:=aS HY.out;obtain ⟨z0,z1,z2,z3,z4,z5,z6,z7,z8,z9,z10⟩:=aW HZ.out) | (go_at_call 95;refine (HN.out _).mono ?_;rintro e' w1 ⟨rfl,hb⟩;have HB:=aF ((bel2 _ _ _).trans (hb.mono (bel2 _ _ _).size));obtain ⟨y,z⟩:=cU hb;have HY:=aF y;have HZ:=aF z;obtain ⟨y0,y1,y2,y3,y4,y5,y6⟩:=aS HY.out;obtain ⟨z0,z1,z2,z3,z4,z5,z6,z7,z8,z9,z10⟩:=aW HZ.out;clear y z hb))
   all_goals first
    | (exfalso;omega)
    | (go_ret;exact ⟨by rw [HF.out];rfl,HB2.out⟩)
  ·have HF:Hid (R=0):=aF (by rw [HR.out,aZ h0,bA rfl,aZ (by simp),aZ hlo]);have e5:¬s.loc<0:=by omega
   have e6:¬(b.locals.length:Int)<=s.loc:=by omega
   clear HR h0 hlo;go_enter Tryz.func61,Tryz.ntmps61
   go_wp2_with (first | (go_at_call 96;refine (HBK.out _).mono ?_;rintro e' w2 ⟨rfl,hb⟩;have HB2:=aF (HB.out.trans (hb.mono HB.out.size));have HY2:=aF (cP HY.out hb);have HZ2:=aF (cP HZ.out hb);clear y0 y1 y2 y3 y4 y5 y6 z0 z1 z2 z3 z4 z5 z6 z7 z8 z9 z10;clear hb HY HZ;have HY:=HY2;have HZ:=HZ2;obtain ⟨y0,y1,y2,y3,y4,y5,y6⟩:=aS HY.out;obtain ⟨z0,z1,z2,z3,z4,z5,z6,z7,z8,z9,z10⟩:=aW HZ.out) | (go_at_call 95;refine (HN.out _).mono ?_;rintro e' w1 ⟨rfl,hb⟩;have HB:=aF ((bel2 _ _ _).trans (hb.mono (bel2 _ _ _).size));obtain ⟨y,z⟩:=cU hb;have HY:=aF y;have HZ:=aF z;obtain ⟨y0,y1,y2,y3,y4,y5,y6⟩:=aS HY.out;obtain ⟨z0,z1,z2,z3,z4,z5,z6,z7,z8,z9,z10⟩:=aW HZ.out;clear y z hb))
   all_goals first
    | (exfalso;omega)
    | (go_ret;exact ⟨by rw [HF.out];rfl,HB2.out⟩)
 by_cases h2:k=2
 ·subst h2;cases z
  ·have HF:Hid (R=2):=aF (by rw [HR.out];simp);clear HR HBK h0 h1;go_enter Tryz.func61,Tryz.ntmps61
   go_wp2_with (go_at_call 95;refine (HN.out _).mono ?_;rintro e' w1 ⟨rfl,hb⟩;have HB:=aF ((bel2 _ _ _).trans (hb.mono (bel2 _ _ _).size));obtain ⟨y,z⟩:=cU hb;have HY:=aF y;have HZ:=aF z;obtain ⟨y0,y1,y2,y3,y4,y5,y6⟩:=aS HY.out;obtain ⟨z0,z1,z2,z3,z4,z5,z6,z7,z8,z9,z10⟩:=aW HZ.out;clear y z hb)
   go_ret;exact ⟨by rw [HF.out];rfl,HB.out⟩
  cases bl
  ·have HF:Hid (R=2):=aF (by rw [HR.out];simp);clear HR h0 h1;go_enter Tryz.func61,Tryz.ntmps61
   go_wp2_with (first | (go_at_call 96;refine (HBK.out _).mono ?_;rintro e' w2 ⟨rfl,hb⟩;have HB2:=aF (HB.out.trans (hb.mono HB.out.size));have HY2:=aF (cP HY.out hb);have HZ2:=aF (cP HZ.out hb);clear y0 y1 y2 y3 y4 y5 y6 z0 z1 z2 z3 z4 z5 z6 z7 z8 z9 z10;clear hb HY HZ;have HY:=HY2;have HZ:=HZ2;obtain ⟨y0,y1,y2,y3,y4,y5,y6⟩:=aS HY.out;obtain ⟨z0,z1,z2,z3,z4,z5,z6,z7,z8,z9,z10⟩:=aW HZ.out) | (go_at_call 95;refine (HN.out _).mono ?_;rintro e' w1 ⟨rfl,hb⟩;have HB:=aF ((bel2 _ _ _).trans (hb.mono (bel2 _ _ _).size));obtain ⟨y,z⟩:=cU hb;have HY:=aF y;have HZ:=aF z;obtain ⟨y0,y1,y2,y3,y4,y5,y6⟩:=aS HY.out;obtain ⟨z0,z1,z2,z3,z4,z5,z6,z7,z8,z9,z10⟩:=aW HZ.out;clear y z hb))
   go_ret;exact ⟨by rw [HF.out];rfl,HB2.out⟩
  by_cases hlo:s.loc=0
  ·have HF:Hid (R=0):=aF (by rw [HR.out];simp [hlo]);have e5:(s.loc != 0)=false:=by simp [hlo]
   clear HR h0 h1 hlo;go_enter Tryz.func61,Tryz.ntmps61
   go_wp2_with (first | (go_at_call 96;refine (HBK.out _).mono ?_;rintro e' w2 ⟨rfl,hb⟩;have HB2:=aF (HB.out.trans (hb.mono HB.out.size));have HY2:=aF (cP HY.out hb);have HZ2:=aF (cP HZ.out hb);clear y0 y1 y2 y3 y4 y5 y6 z0 z1 z2 z3 z4 z5 z6 z7 z8 z9 z10;clear hb HY HZ;have HY:=HY2;have HZ:=HZ2;obtain ⟨y0,y1,y2,y3,y4,y5,y6⟩:=aS HY.out;obtain ⟨z0,z1,z2,z3,z4,z5,z6,z7,z8,z9,z10⟩:=aW HZ.out) | (go_at_call 95;refine (HN.out _).mono ?_;rintro e' w1 ⟨rfl,hb⟩;have HB:=aF ((bel2 _ _ _).trans (hb.mono (bel2 _ _ _).size));obtain ⟨y,z⟩:=cU hb;have HY:=aF y;have HZ:=aF z;obtain ⟨y0,y1,y2,y3,y4,y5,y6⟩:=aS HY.out;obtain ⟨z0,z1,z2,z3,z4,z5,z6,z7,z8,z9,z10⟩:=aW HZ.out;clear y z hb))
   go_ret;exact ⟨by rw [HF.out];rfl,HB2.out⟩
  ·have HF:Hid (R=2):=aF (by rw [HR.out];simp [hlo]);have e5:(s.loc != 0)=true:=by simp [hlo]
   clear HR h0 h1 hlo;go_enter Tryz.func61,Tryz.ntmps61
   go_wp2_with (first | (go_at_call 96;refine (HBK.out _).mono ?_;rintro e' w2 ⟨rfl,hb⟩;have HB2:=aF (HB.out.trans (hb.mono HB.out.size));have HY2:=aF (cP HY.out hb);have HZ2:=aF (cP HZ.out hb);clear y0 y1 y2 y3 y4 y5 y6 z0 z1 z2 z3 z4 z5 z6 z7 z8 z9 z10;clear hb HY HZ;have HY:=HY2;have HZ:=HZ2;obtain ⟨y0,y1,y2,y3,y4,y5,y6⟩:=aS HY.out;obtain ⟨z0,z1,z2,z3,z4,z5,z6,z7,z8,z9,z10⟩:=aW HZ.out) | (go_at_call 95;refine (HN.out _).mono ?_;rintro e' w1 ⟨rfl,hb⟩;have HB:=aF ((bel2 _ _ _).trans (hb.mono (bel2 _ _ _).size));obtain ⟨y,z⟩:=cU hb;have HY:=aF y;have HZ:=aF z;obtain ⟨y0,y1,y2,y3,y4,y5,y6⟩:=aS HY.out;obtain ⟨z0,z1,z2,z3,z4,z5,z6,z7,z8,z9,z10⟩:=aW HZ.out;clear y z hb))
   go_ret;exact ⟨by rw [HF.out];rfl,HB2.out⟩
 have HF:Hid (R=14):=aF (by rw [HR.out,aZ h0,aZ h1,aZ h2]);have e0:(k == 0)=false:=by simp [h0]
 have e1:(k == 1)=false:=by simp [h1]
 have e2:(k == 2)=false:=by simp [h2]
 clear HR HBK HN h0 h1 h2;go_enter Tryz.func61,Tryz.ntmps61
 go_wp2_with fail
 go_ret;exact ⟨by rw [HF.out];rfl,aH⟩
end
section
open Go Go.RowKit
theorem yJ (ts:List Ty) (A:Option Addr) (c:Nat) (w:World) (hs:Slc 5 RTy w A c ts) (hl:ts.length<=200):
 Calls Tryz.prog 70 #[.slice A ts.length c] w fun e' w'=>(∃q:Bool,e' = .returned (.bool q))/\Below w.heap.size w w':=by
 obtain ⟨i0,hi,hz0,hz1,hz2⟩:=info_parts dU;have hle:=hs.le;have hbg:=hs.big;have HS:=aF hs;clear hs;go_enter Tryz.func70,Tryz.ntmps70
 go_wp2_with fail
 go_loopw [3,11] (fun v i wr=>∃(k:Nat) (xs:List Int),k<=ts.length/\i = .int .i64 k/\xs.length=k/\Hid (wr.ownsRow w.heap.size 3 1 v k (xs.map (Value.int .i64)))/\Hid (Below w.heap.size w wr)) (fun _ i _=>ts.length - (intOf i).toNat)
 case atStart=>exact ⟨0,[],by omega,rfl,rfl,aF (World.ownsRow_nil _ _ _ _),aF (aX _ _)⟩
 case round=>
  obtain ⟨k,xs,hk,rfl,hxl,HO,HB⟩:=hrel;obtain ⟨A',c',hv⟩:=dE HO.out;subst hv;have hsz:=HB.out.size;by_cases hlt:k<ts.length
  next=>
   obtain ⟨b1,o1,rfl,hb1,r1⟩:=HS.out.sl.at_ hlt;obtain ⟨r1,r2,r3,r4,A2,c2,r5,r6,r7,r8⟩:=RTy.keeps _ _ _ w.heap.size _ _ _ (aY _) hb1 HB.out r1;generalize ts[k]=x at *;have HF:Hid (Sl 1 RInt wr w.heap.size A2 x.flds):=aF r8;obtain ⟨B',d',hB',hsl,-⟩:=fD (R:=RInt) (fun w B b o x h=>h) HO.out hxl;simp only [Value.slice.injEq,true_and] at hB';obtain ⟨rfl,rfl⟩:=hB';have HX:=aF hsl;have hls:=dM hb1;clear r8 hsl
   have HFK:Hid (∀X,Below w.heap.size w X->∀b7 o7 j (f:Int),b7<w.heap.size->RInt wr w.heap.size b7 (o7+j * 1) f->X.cell? ⟨b7,o7+j,none⟩=some (.int .i64 f)):=aF (fun X hX b7 o7 j f hb7 h=>by
    rw [Nat.mul_one] at h;have h1:w.cell? ⟨b7,o7+j,none⟩=some (.int .i64 f):=(HB.out.cell (p:=⟨b7,o7+j,none⟩) hb7).symm.trans h
    exact cO hX h1)
   obtain ⟨kd,mu,rg,el,fl⟩:=x;simp only at r1 r2 r3 r4 r5 r6 r7 HF;by_cases hg:kd=3/\0<=el/\el<k
   next=>
    obtain ⟨rfl,h0,h1⟩:=hg;obtain ⟨e,rfl⟩:=bG h0;obtain ⟨b8,o8,rfl,hb8,hxe⟩:=HX.out.sl.at_ (show e<xs.length by omega);have x1:wr.cell? ⟨b8,o8+e,none⟩=some (.int .i64 xs[e]):=(by simpa [RInt] using hxe);generalize xs[e]=y at x1;clear hxe;have hls8:=dM hb8;go_wp2_with fail
    clear r1 r2 r3 r4 r5;clear HX;all_goals try (exfalso;omega)
    all_goals
     have HO2:=aF (fun o=>HO.out.alloc o);have HB2:=aF (fun o=>HB.out.alloc hsz o);go_loopw [6,40] (fun n u wr2=>∃(j:Nat) (m:Int),j<=fl.length/\u = .int .i64 j/\n = .int .i64 m/\Hid (wr2.ownsRow w.heap.size 3 1 (.slice (some ⟨b8,o8,none⟩) k c') k (xs.map (Value.int .i64)))/\Hid (Below w.heap.size w wr2)) (fun _ u _=>fl.length - (intOf u).toNat)
     case atStart=>exact ⟨0,_,by omega,rfl,rfl,aF (HO2.out _),aF (HB2.out _)⟩
     case round=>
      clear HO2 HB2 HO HB;obtain ⟨j,m,hj,rfl,rfl,HO,HB⟩:=hrel;have hsz:=HB.out.size;by_cases hjl:j<fl.length
      ·obtain ⟨b7,o7,rfl,hb7,hxj⟩:=HF.out.at_ hjl;obtain ⟨f,hf⟩:∃f,fl[j]=f:=⟨_,rfl⟩;rw [hf] at hxj;have x0:wr.cell? ⟨b7,o7+j,none⟩=some (.int .i64 f):=HFK.out wr HB.out b7 o7 j f hb7 hxj;clear hxj hf;by_cases hg:0<=f/\f<k
       ·obtain ⟨e,rfl⟩:=bG hg.1;obtain ⟨B',d',hB',hsl,-⟩:=fD (R:=RInt) (fun w B b o x h=>h) HO.out hxl;simp only [Value.slice.injEq,true_and] at hB';obtain ⟨hB1,hd1⟩:=hB';subst hd1;subst hB1;obtain ⟨b8,o8,hB9,hb8,hxe⟩:=hsl.sl.at_ (show e<xs.length by omega);cases hB9
        have x1:wr.cell? ⟨b8,o8+e,none⟩=some (.int .i64 xs[e]):=(by simpa [RInt] using hxe);generalize xs[e]=y at x1;clear hxe hsl;go_wp2_with fail
        all_goals first
         | (exfalso;omega)
         | (go_ret;exact ⟨by first | exact ⟨_,rfl⟩ | exact .inl rfl | exact .inr rfl,HB.out⟩)
         | (go_roundw
            case rel=>exact ⟨j+1,_,by omega,by go_num,rfl,HO,HB⟩
            case measure=>simp [intOf];omega)
       ·go_wp2_with fail
        all_goals first
         | (exfalso;omega)
         | (go_ret;exact ⟨by first | exact ⟨_,rfl⟩ | exact .inl rfl | exact .inr rfl,HB.out⟩)
         | (go_roundw
            case rel=>exact ⟨j+1,_,by omega,by go_num,rfl,HO,HB⟩
            case measure=>simp [intOf];omega)
      ·have hown2:=HO.out.alloc (.cells #[.int .i64 m] 3);go_wp2_with (at_builtin;refine wpList_append_own _ rfl _ _ 34 rfl w.heap.size 3 i0 (.int .i64 0) 1 8 Tryz.underlying34 hi hz0 hz1 hz2 rfl (by decide) _ _ _ rfl hown2 ⟨wr.heap.size,0,none⟩ 1 1 [.int .i64 m] rfl rfl (fun j u hj=>by rw [add0];exact gI _ [.int .i64 m] _ j u hj) (fun u hu=>by simp at hu;subst hu;rfl) (by unfold maxLen;omega) (by omega) (by simp;omega) ?_)
       intro v' w2 hown' hgrow _;have HO2:Hid (w2.ownsRow w.heap.size 3 1 v' (k+1) ((xs ++ [m]).map (Value.int .i64))):=aF (by rw [bS];exact hown');have HB2:Hid (Below w.heap.size w w2):=aF ((HB.out.alloc hsz _).grown hgrow (by simp;omega) (fun g hg=>(hown2.lt g hg).1));clear hown' hgrow hown2;go_wp2_with fail
       go_roundw
       case rel=>exact ⟨k+1,xs ++ [m],by omega,by go_num,by simp [hxl],HO2,HB2⟩
       case measure=>simp [intOf];omega
   next=>
   go_wp2_with fail
   clear r1 r2 r3 r4 r5;clear HX;all_goals try (exfalso;omega)
   all_goals
    have HO2:=aF (fun o=>HO.out.alloc o);have HB2:=aF (fun o=>HB.out.alloc hsz o);go_loopw [6,40] (fun n u wr2=>∃(j:Nat) (m:Int),j<=fl.length/\u = .int .i64 j/\n = .int .i64 m/\Hid (wr2.ownsRow w.heap.size 3 1 (.slice A' k c') k (xs.map (Value.int .i64)))/\Hid (Below w.heap.size w wr2)) (fun _ u _=>fl.length - (intOf u).toNat)
    case atStart=>exact ⟨0,_,by omega,rfl,rfl,aF (HO2.out _),aF (HB2.out _)⟩
    case round=>
     clear HO2 HB2 HO HB;obtain ⟨j,m,hj,rfl,rfl,HO,HB⟩:=hrel;have hsz:=HB.out.size;by_cases hjl:j<fl.length
     ·obtain ⟨b7,o7,rfl,hb7,hxj⟩:=HF.out.at_ hjl;obtain ⟨f,hf⟩:∃f,fl[j]=f:=⟨_,rfl⟩;rw [hf] at hxj;have x0:wr.cell? ⟨b7,o7+j,none⟩=some (.int .i64 f):=HFK.out wr HB.out b7 o7 j f hb7 hxj;clear hxj hf;by_cases hg:0<=f/\f<k
      ·obtain ⟨e,rfl⟩:=bG hg.1;obtain ⟨B',d',hB',hsl,-⟩:=fD (R:=RInt) (fun w B b o x h=>h) HO.out hxl;simp only [Value.slice.injEq,true_and] at hB';obtain ⟨hB1,hd1⟩:=hB';subst hd1;subst hB1;obtain ⟨b8,o8,hB9,hb8,hxe⟩:=hsl.sl.at_ (show e<xs.length by omega);cases hB9
       have x1:wr.cell? ⟨b8,o8+e,none⟩=some (.int .i64 xs[e]):=(by simpa [RInt] using hxe);generalize xs[e]=y at x1;clear hxe hsl;go_wp2_with fail
       all_goals first
        | (exfalso;omega)
        | (go_ret;exact ⟨by first | exact ⟨_,rfl⟩ | exact .inl rfl | exact .inr rfl,HB.out⟩)
        | (go_roundw
           case rel=>exact ⟨j+1,_,by omega,by go_num,rfl,HO,HB⟩
           case measure=>simp [intOf];omega)
      ·go_wp2_with fail
       all_goals first
        | (exfalso;omega)
        | (go_ret;exact ⟨by first | exact ⟨_,rfl⟩ | exact .inl rfl | exact .inr rfl,HB.out⟩)
        | (go_roundw
           case rel=>exact ⟨j+1,_,by omega,by go_num,rfl,HO,HB⟩
           case measure=>simp [intOf];omega)
     ·have hown2:=HO.out.alloc (.cells #[.int .i64 m] 3);go_wp2_with (at_builtin;refine wpList_append_own _ rfl _ _ 34 rfl w.heap.size 3 i0 (.int .i64 0) 1 8 Tryz.underlying34 hi hz0 hz1 hz2 rfl (by decide) _ _ _ rfl hown2 ⟨wr.heap.size,0,none⟩ 1 1 [.int .i64 m] rfl rfl (fun j u hj=>by rw [add0];exact gI _ [.int .i64 m] _ j u hj) (fun u hu=>by simp at hu;subst hu;rfl) (by unfold maxLen;omega) (by omega) (by simp;omega) ?_)
      intro v' w2 hown' hgrow _;have HO2:Hid (w2.ownsRow w.heap.size 3 1 v' (k+1) ((xs ++ [m]).map (Value.int .i64))):=aF (by rw [bS];exact hown');have HB2:Hid (Below w.heap.size w w2):=aF ((HB.out.alloc hsz _).grown hgrow (by simp;omega) (fun g hg=>(hown2.lt g hg).1));clear hown' hgrow hown2;go_wp2_with fail
      go_roundw
      case rel=>exact ⟨k+1,xs ++ [m],by omega,by go_num,by simp [hxl],HO2,HB2⟩
      case measure=>simp [intOf];omega
  next=>
   clear HO;go_wp2_with fail
   go_ret;exact ⟨by first | exact ⟨_,rfl⟩ | exact .inl rfl | exact .inr rfl,HB.out⟩
end
section
open Go Go.ChangeShapes Go.WideShapes Go.ChangeAt Go.RowKit Go.Joins Go.Deep
theorem xDL {α : Type} {n:Nat} {p:Nat-> α -> Prop} (h:∀i,i<n->∃x,p i x):∃xs:List α,xs.length=n/\∀i x,xs[i]?=some x->p i x:=by
 induction n with
 | zero=>exact ⟨[],rfl,by simp⟩
 | succ n ih=>
   obtain ⟨xs,hl,hx⟩:=ih (fun i hi=>h i (by omega));obtain ⟨y,hy⟩:=h n (by omega);refine ⟨xs ++ [y],by simp [hl],fun i x hi=>?_⟩;by_cases hin:i<n
   ·rw [List.getElem?_append_left (by omega)] at hi;exact hx i x hi
   ·have hlt:=(List.getElem?_eq_some_iff.1 hi).1;simp only [bB,cG] at hlt;obtain rfl:i=n:=by omega
    rw [<- hl,List.getElem?_concat_length] at hi;cases hi
    exact hy
theorem sO (b o n:Nat):(⟨b,o,none⟩:Addr).add n=⟨b,o+n,none⟩:=by
 unfold Addr.add;split
 ·next h=>subst h;rfl
 ·rfl
theorem vK {w:World} {a:Addr} {v:Value} (h:w.cell? a=some v):a.spot=none:=by
 cases hs:a.spot with
 | none=>rfl
 | some x=>
   unfold World.cell? at h;rw [hs] at h;split at h
   ·simp at h
   ·cases h
section
variable {H:Type} {enc:TypeId × Value->H} {P:Program} {w:World} {base:Nat} {spare:Nat->Bool} {held:Bool}
theorem wH {α : Type} {k:Nat} {R:Rd α} {t e:TypeId} {fuel:Nat} {cs:List Value} {x:DataW H × List MemPlace} (ht:P.underlying t=some (.slice e)) (hk:P.cellsOf e=k) (hk0:0<k)
 (h:DataW.trod enc P w base spare held fuel t cs=some x)
 (hR:∀(b o n:Nat) (cs':List Value) (y:DataW H × List MemPlace),cs'.length=k->(∀j,j<k->w.cell? ⟨b,o+j,none⟩=cs'[j]?)->DataW.trod enc P w base spare held n e cs'=some y->∃z,R w w.heap.size b o z):
 ∃A c,∃xs:List α,cs=[.slice A xs.length c]/\Slc k R w A c xs:=by
 rcases open_slice ht h with ⟨rfl,_⟩ | ⟨a,len,cap,m,n,D,Pl,rfl,hb,hl,hm,hmm,hx,hi⟩
 ·exact ⟨none,0,[],rfl,Sl.nil,by simp,by omega⟩
 ·obtain ⟨b,off,s⟩:=a;have hlm:len<=m:=by rw [hmm];split <;> omega
  rw [hk] at hi;unfold maxLen at hm;by_cases h0:len=0
  ·subst h0;exact ⟨_,cap,[],rfl,Sl.nil,by simp,hm⟩
  ·have hfirst:∃v,w.cell? ⟨b,off,s⟩=some v:=by
    obtain ⟨cs',hc,_⟩:=hi 0 (by omega);obtain ⟨_,hcl,hat⟩:=World.cells?_some hc;have h1:=hat 0 hk0;rw [bD (by omega)] at h1;simp only [Nat.zero_mul,Addr.add,if_true] at h1;exact ⟨_,h1⟩
   obtain ⟨v,hv⟩:=hfirst;have hs:s=none:=vK hv;subst hs
   obtain ⟨xs,hxl,hxs⟩:=xDL (n:=len) (p:=fun i z=>R w w.heap.size b (off+i * k) z) (fun i hi'=>by
    obtain ⟨cs',hc,ht'⟩:=hi i (by omega);obtain ⟨_,hcl,hat⟩:=World.cells?_some hc;refine hR b (off+i * k) n cs' _ hcl (fun j hj=>?_) ht';have h1:=hat j hj;rw [sO,sO] at h1
    exact h1)
   exact ⟨_,cap,xs,by rw [hxl],⟨fun _=>⟨b,off,rfl,cD _ _ hv,hxs⟩,by omega,hm⟩⟩
theorem xC {e:TypeId} {fs:Array Field} {n:Nat} {cs:List Value} {y:DataW H × List MemPlace} (he:P.underlying e=some (.struct fs)) (hone:oneCellFields P fs=true)
 (h:DataW.trod enc P w base spare held n e cs=some y) (hl:cs.length=fs.size) {j:Nat} {f:Field} (hf:fs[j]?=some f):
 ∃v m y',cs[j]?=some v/\DataW.trod enc P w base spare held m f.type [v]=some y':=by
 obtain ⟨ys,m,_,_,_,hyl,hfl⟩:=DataW.trod_struct he h;have hjl:j<fs.size:=(Array.getElem?_eq_some_iff.1 hf).1;obtain ⟨ho,hk⟩:=hone_of hone j f hf;have h1:=hfl j f hf;rw [ho,hk,cH (show j<cs.length by omega)] at h1;refine ⟨cs[j],m,ys[j],bD _,?_⟩;rw [bD (show j<ys.length by omega)] at h1;exact h1
theorem iF (hl:laidOutB P=true) {W W':World} {sp:Nat->Bool}:∀(ts:List TypeId) (vs:List Value) (ds:List (DataW H)) (ps:List MemPlace),
 (∀t∈ts,P.readableRec t=true/\t<P.types.size)->DataW.TrodAll enc P W 0 (fun _=>true) true ts vs ds ps->(∀p∈ps,W.sameAt W' p)->(∀p∈ps,sp p.block=true)->DataW.TrodAll enc P W' 0 sp true ts vs ds ps
 | [],[],[],_,_,h,_,_=>h
 | t :: ts,v :: vs,d :: ds,ps,hr,h,hs,hp=>by
   obtain ⟨p,q,h1,h2,rfl⟩:=h
   exact ⟨p,q,WideElems.Trod_stays hl (hr t (by simp)).1 (hr t (by simp)).2 h1 (fun x hx=>hs x (by simp [hx])) (fun x hx=>hp x (by simp [hx])),
    iF hl ts vs ds q (fun t' ht=>hr t' (by simp [ht])) h2 (fun x hx=>hs x (by simp [hx])) (fun x hx=>hp x (by simp [hx])),rfl⟩
 | [],[],_ :: _,_,_,h,_,_=>h.elim
 | [],_ :: _,_,_,_,h,_,_=>h.elim
 | _ :: _,[],_,_,_,h,_,_=>h.elim
 | _ :: _,_ :: _,[],_,_,h,_,_=>h.elim
theorem xAN {f:Func} {s:ChangeSpec} {apart fresh handsOn:Bool} {W W':World} {args:Array Value} {ds:List (DataW H)} {before:List MemPlace} {tb:TypeId}
 (hl:laidOutB P=true) (hvars:s.vars=[]) (hrt:f.resultTypes = #[tb]) (htb:P.underlying tb=some .bool)
 (hfn:s.fn H ds={ results:=[.lit (.bool true)],args:=ds }) (hrd:∀t∈f.params.toList,P.readableRec t=true/\t<P.types.size)
 (hW:DataW.Whole enc P f.params.toList s.vars apart W args.toList ds [] before) (hb:Below W.heap.size W W'):
 s.post enc P f apart fresh handsOn false W args (.bool true) W':=by
 have hlt:∀p∈before,p.block<W.heap.size:=fun p hp=>hW.lt p hp
 have hW2:=hW;obtain ⟨p,q,hA,hV,hbe,_,_⟩:=hW2;rw [hvars] at hV;obtain ⟨_,rfl⟩:=trodVars_none hV;rw [List.append_nil] at hbe;subst hbe;refine ⟨ds,[],before,[],before,[],hW,?_,?_,?_,World.keptBut_mono (fun p hp=>⟨hp,Or.inr (Or.inl hp)⟩) (hb.frame (· ∈ before)),fun h=>by cases h⟩
 ·rw [List.append_nil,hfn,hrt];exact trodAll_mk1 (shut_bool htb true)
 ·rw [List.append_nil,hfn];exact iF hl _ _ _ _ hrd hA (fun x hx=>hb.same (hlt x hx)) (fun x hx=>by simpa using hlt x hx)
 ·rw [List.append_nil,hfn,hvars];rfl
end
theorem Tryz.own:ownKnob Tryz.prog.godebug=none:=by kernel_rfl
theorem Tryz.laidOut:laidOutB Tryz.prog=true:=by kernel_rfl
section
variable {H:Type} {enc:TypeId × Value->H} {w:World} {base:Nat} {spare:Nat->Bool} {held:Bool}
end
theorem wR {α : Type}:∀{l:List α},l.length=2->∃a b,l=[a,b]
 | [a,b],_=>⟨a,b,rfl⟩
section
variable {H:Type} {enc:TypeId × Value->H} {P:Program} {w:World} {base:Nat} {spare:Nat->Bool} {held:Bool}
theorem wD {e:TypeId} {f0 f1:Field} {m:Nat} {cs:List Value} {a b:Int} {x:DataW H × List MemPlace} (he:P.underlying e=some (.struct #[f0,f1])) (hone:oneCellFields P #[f0,f1]=true) (hC:P.cellsOf e=2)
 (hf0:P.underlying f0.type=some (.int .i64)) (hf1:P.underlying f1.type=some (.int .i64))
 (h:DataW.trod enc P w base spare held m e cs=some x) (hx1:x.1 = .agg [.lit (.int .i64 a),.lit (.int .i64 b)]):cs[0]?=some (.int .i64 a)/\cs[1]?=some (.int .i64 b):=by
 obtain ⟨ys,n,_,rfl,hcl,hyl,hfl⟩:=DataW.trod_struct he h;obtain ⟨y0,y1,rfl⟩:=wR (show ys.length=2 from hyl);obtain ⟨c0,c1,rfl⟩:=wR (hcl.trans hC);obtain ⟨o0,k0⟩:=hone_of hone 0 f0 rfl;obtain ⟨o1,k1⟩:=hone_of hone 1 f1 rfl;have g0:=hfl 0 f0 rfl;have g1:=hfl 1 f1 rfl;rw [o0,k0] at g0;rw [o1,k1] at g1;obtain ⟨n0,e0,z0,_⟩:=DataW.trod_int (k:= .i64) (x:=y0) hf0 g0;obtain ⟨n1,e1,z1,_⟩:=DataW.trod_int (k:= .i64) (x:=y1) hf1 g1;simp only [cJ,List.map_nil,z0,z1,DataW.agg.injEq,List.cons.injEq,DataW.lit.injEq,Lit.int.injEq,and_true,true_and] at hx1;obtain ⟨rfl,rfl⟩:=hx1;simp at e0 e1;subst e0 e1;exact ⟨rfl,rfl⟩
theorem uA {t e:TypeId} {n:Nat} {f0 f1:Field} {m:Nat} {cs:List Value} {l:List (Int × Int)} {x:DataW H × List MemPlace} (ht:P.underlying t=some (.array n e)) (he:P.underlying e=some (.struct #[f0,f1])) (hone:oneCellFields P #[f0,f1]=true) (hC:P.cellsOf e=2)
 (hf0:P.underlying f0.type=some (.int .i64)) (hf1:P.underlying f1.type=some (.int .i64))
 (h:DataW.trod enc P w base spare held m t cs=some x) (hx:x.1 = .agg (l.map fun p=> .agg [.lit (.int .i64 p.1),.lit (.int .i64 p.2)])) (i:Nat) (p:Int × Int) (hi:l[i]?=some p):
 cs[i * 2]?=some (.int .i64 p.1)/\cs[i * 2+1]?=some (.int .i64 p.2):=by
 obtain ⟨xs,k,_,rfl,hcl,hxl,hel⟩:=DataW.trod_array ht h;have hm:xs.map (·.1)=l.map fun p=> .agg [.lit (.int .i64 p.1),.lit (.int .i64 p.2)]:=by simpa using hx
 have hll:xs.length=l.length:=by simpa using congrArg List.length hm
 have hil:=(List.getElem?_eq_some_iff.1 hi).1;have h1:=hel i (by omega);rw [hC,bD (show i<xs.length by omega)] at h1
 have hx1:xs[i].1 = .agg [.lit (.int .i64 p.1),.lit (.int .i64 p.2)]:=by
  have:=congrArg (fun z=>z[i]?) hm;simp only [cN,hi,bD (show i<xs.length by omega),Option.map_some,cI] at this;exact this
 obtain ⟨q0,q1⟩:=wD he hone hC hf0 hf1 h1 hx1;simp only [List.getElem?_take,List.getElem?_drop,Nat.add_zero] at q0 q1;rw [bA (by omega)] at q0 q1;exact ⟨q0,q1⟩
end
theorem gUn : Tryz.prog.globalNamed "mirtower/valid.unary" = some 0 := by kernel_rfl
theorem gUnT:(Tryz.prog.globals[0]?).map (·.type)=some 208:=by kernel_rfl
theorem gBi : Tryz.prog.globalNamed "mirtower/valid.binary" = some 1 := by kernel_rfl
theorem gBiT:(Tryz.prog.globals[1]?).map (·.type)=some 209:=by kernel_rfl
theorem xBB:Tryz.prog.cellsOf 207=2:=by kernel_rfl
theorem lQ {n:String} {g:Nat} {tid:TypeId} {k:Nat} {l:List (Int × Int)} {r:List (String × DataW Unit)} {w:World} (hg:Tryz.prog.globalNamed n=some g) (ht:(Tryz.prog.globals[g]?).map (·.type)=some tid) (hu:Tryz.prog.underlying tid=some (.array k 207)) (hk:l.length=k) (hk0:0<k) (hkm:k<=1000)
 (h:laidMet Tryz.prog ((n,.agg (l.map fun p=> .agg [.lit (.int .i64 p.1),.lit (.int .i64 p.2)])) :: r) w):Slc 2 RPr w (some ⟨g,0,none⟩) k l:=by
 subst hk;obtain ⟨ps,⟨g0,t0,cs0,f0,p0,q0,hg0,ht0,hv0,hd0,_,e0⟩,_,_⟩:=h;obtain rfl:=Option.some.inj (hg.symm.trans hg0);obtain rfl:=Option.some.inj (ht.symm.trans ht0);have hc:=fun i p hi=>uA hu Tryz.underlying207 (by kernel_rfl) xBB Tryz.underlying3 Tryz.underlying3 hd0 rfl i p hi
 have hcell:=fun i=>World.var?_cell hg0 hv0 i
 refine ⟨fun _=>⟨g,0,rfl,?_,fun i p hi=>?_⟩,aY _,by omega⟩
 ·obtain ⟨p,hp⟩:∃p,l[0]?=some p:=⟨_,bD hk0⟩;have h1:=(hc 0 p hp).1;have h2:=hcell 0;rw [show cs0[0]?=cs0.toList[0]? from (Array.getElem?_toList ..).symm,show cs0.toList[0]?=_ from h1] at h2;exact cD _ _ h2
 ·have h1:=hc i p hi;have h2:=hcell (i * 2);have h3:=hcell (i * 2+1);rw [<- Array.getElem?_toList,h1.1] at h2;rw [<- Array.getElem?_toList,h1.2] at h3;refine ⟨?_,?_⟩
  ·rw [Nat.zero_add];exact h2
  ·rw [Nat.zero_add];exact h3
end
end Go.Proofs.YtcfchohkmkilpaaGreatDoor
