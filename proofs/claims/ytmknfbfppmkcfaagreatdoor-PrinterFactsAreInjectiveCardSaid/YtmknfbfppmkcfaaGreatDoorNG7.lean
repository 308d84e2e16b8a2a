/-
  PrinterFactsAreInjective: the texts that this claim has beyond those of PrinterPlaces. (part 7)
-/
import Derived.Test.YtmknfbfppmkcfaaGreatDoorNG6
import Derived.Lib.Hide
import Derived.Below
import Derived.WalkSmall
import Derived.Laws.World
import Derived.Test.YtmknfbfppmkcfaaGreatDoorProg
import Derived.WalkKit
import Derived.WalkSpells
import Derived.WalkLawsBesides
import Derived.Deep.RegionHeld3
import Derived.Deep.DeepFit
import Derived.Deep.QuietTactic
import Derived.BigQuiet
import Derived.OwnWalk
import Derived.Maps.AppendAt
import Derived.Deep.DeepCutAuto
import Derived.StillTailTactics
import Derived.Lib.ItoaNum
import Derived.Lib.Join
import Derived.RangeFuncNested
import Derived.RangeFuncBound
import Derived.RangeFuncCalls
import Derived.RangeFuncLeaves
import Derived.OwnWalkIn
import Derived.TacticsInMore
import Derived.LoopNIn
import Derived.LoopIn
import Derived.Lib.ItoaLen
import Derived.Laws.IdiomStrings
import Derived.Shelf.Abstract
import Derived.OrdersHeld
import Derived.Deep.RegionHeld
import Derived.Test.YtmknfbfppmkcfaaGreatDoorSg
import Derived.Maps.OwnSet
import Derived.Maps.OwnOps
import Derived.StringKeys
import Derived.Deep.MidRow
import Derived.Deep.LoopGhost
import Derived.WideKeyPair
import Derived.WideKeyArr
import Derived.Test.YtmknfbfppmkcfaaGreatDoorSj
import Derived.Lib.AppendIntMem
import Derived.Test.YtmknfbfppmkcfaaGreatDoorSh
import Derived.RangeFuncBox
import Derived.Lib.AppendStr
import Derived.Lib.Builder
import Derived.WalkMore
import Derived.ChangeKeysEq
import Derived.Deep.CutBlock
import Derived.Test.YtmknfbfppmkcfaaGreatDoorRows
import Derived.ProofKit
import Derived.Deep.Slices
import Derived.Deep.Fields
import Derived.Lib.SmallJoins
import Derived.OpenShut
import Derived.LaidMore
import Derived.Stop.Joined
import Derived.Stop.LaidErr
import Derived.Lay
import Derived.SevenTiedAt
import Derived.Lib.LaidTab
import Derived.Test.YtmknfbfppmkcfaaGreatDoorTie
import Derived.Test.YtmknfbfppmkcfaaGreatDoorCards
import Derived.JoinedOf
import Derived.SizedLaws
namespace Go.Proofs.YtmknfbfppmkcfaaGreatDoor
set_option maxRecDepth 100000
set_option maxHeartbeats 16000000
section
open Go Go.RowKit Go.Maps
theorem xFU {b:Bdy} {bh:BH} {w:World} (H:Rk w b bh) (s:Stm) (A0 A B:Option Addr) (c0 c d:Nat) (hp0:Slc 2 RPj w A0 c0 s.place.proj) (_hl:Slc 4 ROp w B d s.rv.args)
 (hasg:∀W,Below w.heap.size w W->∀t:Nat,t<b.types.length->Calls Tryz.prog 97 #[.agg (bdC b bh).toArray,.agg (rvC s.rv A c B d).toArray,.int .i64 t] W fun e' w'=>e' = .returned (.int .i64 (rvE b s.rv t))/\Below W.heap.size W w'):
 Calls Tryz.prog 55 #[.agg (bdC b bh).toArray,.agg (stC s A0 c0 A c B d).toArray] w fun e' w'=>e' = .returned (.int .i64 (stE b s))/\Below w.heap.size w w':=by
 have HT:=aF (fun W (hb:Below w.heap.size w W)=>xAG b bh s.place A0 c0 W (H.keep hb).at_ (hp0.keep RPj.keeps hb) H.ok.okay);have HM:=aF (fun W (hb:Below w.heap.size w W)=>xCO b bh s.place A0 c0 W (H.keep hb).at_ (hp0.keep RPj.keeps hb) H.ok.okay);have HN:=aF (fun W=>xAF s.place A0 c0 W);have HBK:=aF (fun W=>xFJ s.rv A B c d W);have hlocl:=H.at_.loc.le;have hlocb:=H.at_.loc.big;have hin:=fZ H.ok.okay (l:=s.place.loc) (ps:=s.place.proj);change (tyB b s.place).2=0->0<=(tyB b s.place).1/\(tyB b s.place).1<b.types.length at hin;have HAS0:=aF hasg;obtain ⟨R,hR⟩:∃R,stE b s=R:=⟨_,rfl⟩;rw [hR];have HR:Hid (R=if s.kind=0 then (if s.loc≠0 then 2 else if writE b s.place≠0 then writE b s.place else rvE b s.rv (tyB b s.place).1) else if s.kind=1 then (if zeroP s.place=false\/dM s.rv=false then 2 else if s.loc<0\/(b.locals.length:Int)<=s.loc then 3 else 0) else if s.kind=2 then (if zeroP s.place=false\/dM s.rv=false\/s.loc≠0 then 2 else 0) else 14):=aF hR.symm;have HW:Hid (writE b s.place=if (tyB b s.place).2≠0 then (tyB b s.place).2 else fail22 (!mutB b s.place)):=aF rfl;clear H hp0 _hl hR hasg;generalize writE b s.place=we at HR HW;generalize tyB b s.place=q at HT HR HW hin;generalize mutB b s.place=mu at HM HW;generalize zeroP s.place=z at HN HR;generalize dM s.rv=bl at HBK HR;obtain ⟨t,te⟩:=q;simp only at HR HW hin HT;unfold bdC at *;unfold rvC at HBK HAS0;unfold stC;obtain ⟨k,hk⟩:∃k,s.kind=k:=⟨_,rfl⟩;rw [hk] at HR ⊢;clear hk;by_cases h0:k=0
 ·subst h0;clear HN HBK;by_cases hl0:s.loc=0
  case neg=>
   have HF:Hid (R=2):=aF (by rw [HR.out];simp [hl0]);have e1:(s.loc != 0)=true:=by simp [hl0]
   clear HR HW HM HT HAS0 hl0 hin;go_enter Tryz.func55,Tryz.ntmps55
   go_wp2_with fail
   go_ret;exact ⟨by rw [HF.out];rfl,aH⟩
  have e1:(s.loc != 0)=false:=by simp [hl0]
  by_cases ht:te=0
  case neg=>
   have HF:Hid (R=te):=aF (by rw [HR.out,bA rfl,aZ (by simp [hl0]),HW.out];simp [ht]);have e2:(te != 0)=true:=by simp [ht]
   clear HR HW HM HAS0 hl0 hin ht;go_enter Tryz.func55,Tryz.ntmps55
   go_wp2_with (go_at_call 95;refine (HT.out _ (bel2 _ _ _)).mono ?_;rintro e' w1 ⟨rfl,hb⟩;have HB:=aF ((bel2 _ _ _).trans (hb.mono (bel2 _ _ _).size));obtain ⟨y,z⟩:=cT hb;have HY:=aF y;have HZ:=aF z;obtain ⟨y0,y1,y2,y3,y4,y5,y6⟩:=aS HY.out;obtain ⟨z0,z1,z2,z3,z4,z5,z6,z7,z8,z9,z10⟩:=aW HZ.out;clear y z hb)
   go_ret;exact ⟨by rw [HF.out];rfl,HB.out⟩
  subst ht;obtain ⟨g1,g2⟩:=hin rfl;obtain ⟨i,rfl⟩:=bG g1;have HAS:=aF (fun W hb=>HAS0.out W hb i (by omega));cases mu
  ·have HF:Hid (R=22):=aF (by rw [HR.out,bA rfl,aZ (by simp [hl0]),HW.out];simp [fail22]);clear HR HW HAS HAS0 hl0 hin g1 g2;go_enter Tryz.func55,Tryz.ntmps55
   go_wp2_with (first | (go_at_call 96;refine (HM.out _ HB.out).mono ?_;rintro e' w2 ⟨rfl,hb⟩;have HB2:=aF (HB.out.trans (hb.mono HB.out.size));have HY2:=aF (cK HY.out hb);have HZ2:=aF (cK HZ.out hb);clear y0 y1 y2 y3 y4 y5 y6 z0 z1 z2 z3 z4 z5 z6 z7 z8 z9 z10;clear hb HY HZ;have HY:=HY2;have HZ:=HZ2;obtain ⟨y0,y1,y2,y3,y4,y5,y6⟩:=aS HY.out;obtain ⟨z0,z1,z2,z3,z4,z5,z6,z7,z8,z9,z10⟩:=aW HZ.out) | (go_at_call 95;refine (HT.out _ (bel2 _ _ _)).mono ?_;rintro e' w1 ⟨rfl,hb⟩;have HB:=aF ((bel2 _ _ _).trans (hb.mono (bel2 _ _ _).size));obtain ⟨y,z⟩:=cT hb;have HY:=aF y;have HZ:=aF z;obtain ⟨y0,y1,y2,y3,y4,y5,y6⟩:=aS HY.out;obtain ⟨z0,z1,z2,z3,z4,z5,z6,z7,z8,z9,z10⟩:=aW HZ.out;clear y z hb))
   go_ret;exact ⟨by rw [HF.out];rfl,HB2.out⟩
  ·have HF:Hid (R=rvE b s.rv i):=aF (by rw [HR.out,bA rfl,aZ (by simp [hl0]),HW.out];simp [fail22]);clear HR HW HAS0 hl0 hin g1 g2;go_enter Tryz.func55,Tryz.ntmps55
   go_wp2_with (first | (go_at_call 97;refine (HAS.out _ HB2.out).mono ?_;rintro e' w3 ⟨rfl,hb⟩;have HB3:=aF (HB2.out.trans (hb.mono HB2.out.size));clear hb) | (go_at_call 96;refine (HM.out _ HB.out).mono ?_;rintro e' w2 ⟨rfl,hb⟩;have HB2:=aF (HB.out.trans (hb.mono HB.out.size));have HY2:=aF (cK HY.out hb);have HZ2:=aF (cK HZ.out hb);clear y0 y1 y2 y3 y4 y5 y6 z0 z1 z2 z3 z4 z5 z6 z7 z8 z9 z10;clear hb HY HZ;have HY:=HY2;have HZ:=HZ2;obtain ⟨y0,y1,y2,y3,y4,y5,y6⟩:=aS HY.out;obtain ⟨z0,z1,z2,z3,z4,z5,z6,z7,z8,z9,z10⟩:=aW HZ.out) | (go_at_call 95;refine (HT.out _ (bel2 _ _ _)).mono ?_;rintro e' w1 ⟨rfl,hb⟩;have HB:=aF ((bel2 _ _ _).trans (hb.mono (bel2 _ _ _).size));obtain ⟨y,z⟩:=cT hb;have HY:=aF y;have HZ:=aF z;obtain ⟨y0,y1,y2,y3,y4,y5,y6⟩:=aS HY.out;obtain ⟨z0,z1,z2,z3,z4,z5,z6,z7,z8,z9,z10⟩:=aW HZ.out;clear y z hb))
   go_ret;exact ⟨by rw [HF.out];rfl,HB3.out⟩
 clear HM HT HAS0 HW hin;by_cases h1:k=1
 ·subst h1;cases z
  ·have HF:Hid (R=2):=aF (by rw [HR.out];simp);clear HR HBK h0;go_enter Tryz.func55,Tryz.ntmps55
   go_wp2_with (go_at_call 98;refine (HN.out _).mono ?_;rintro e' w1 ⟨rfl,hb⟩;have HB:=aF ((bel2 _ _ _).trans (hb.mono (bel2 _ _ _).size));obtain ⟨y,z⟩:=cT hb;have HY:=aF y;have HZ:=aF z;obtain ⟨y0,y1,y2,y3,y4,y5,y6⟩:=aS HY.out;obtain ⟨z0,z1,z2,z3,z4,z5,z6,z7,z8,z9,z10⟩:=aW HZ.out;clear y z hb)
   go_ret;exact ⟨by rw [HF.out];rfl,HB.out⟩
  cases bl
  ·have HF:Hid (R=2):=aF (by rw [HR.out];simp);clear HR h0;go_enter Tryz.func55,Tryz.ntmps55
   go_wp2_with (first | (go_at_call 99;refine (HBK.out _).mono ?_;rintro e' w2 ⟨rfl,hb⟩;have HB2:=aF (HB.out.trans (hb.mono HB.out.size));have HY2:=aF (cK HY.out hb);have HZ2:=aF (cK HZ.out hb);clear y0 y1 y2 y3 y4 y5 y6 z0 z1 z2 z3 z4 z5 z6 z7 z8 z9 z10;clear hb HY HZ;have HY:=HY2;have HZ:=HZ2;obtain ⟨y0,y1,y2,y3,y4,y5,y6⟩:=aS HY.out;obtain ⟨z0,z1,z2,z3,z4,z5,z6,z7,z8,z9,z10⟩:=aW HZ.out) | (go_at_call 98;refine (HN.out _).mono ?_;rintro e' w1 ⟨rfl,hb⟩;have HB:=aF ((bel2 _ _ _).trans (hb.mono (bel2 _ _ _).size));obtain ⟨y,z⟩:=cT hb;have HY:=aF y;have HZ:=aF z;obtain ⟨y0,y1,y2,y3,y4,y5,y6⟩:=aS HY.out;obtain ⟨z0,z1,z2,z3,z4,z5,z6,z7,z8,z9,z10⟩:=aW HZ.out;clear y z hb))
   go_ret;exact ⟨by rw [HF.out];rfl,HB2.out⟩
  by_cases hlo:s.loc<0\/(b.locals.length:Int)<=s.loc
  ·have HF:Hid (R=3):=aF (by rw [HR.out,aZ h0,bA rfl,aZ (by simp),bA hlo]);clear HR h0;go_enter Tryz.func55,Tryz.ntmps55
   go_wp2_with (first | (go_at_call 99;refine (HBK.out _).mono ?_;rintro e' w2 ⟨rfl,hb⟩;have HB2:=aF (HB.out.trans (hb.mono HB.out.size));have HY2:=aF (cK HY.out hb);have HZ2:=aF (cK HZ.out hb);clear y0 y1 y2 y3 y4 y5 y6 z0 z1 z2 z3 z4 z5 z6 z7 z8 z9 z10;clear hb HY HZ;have HY:=HY2;have HZ:=HZ2;obtain ⟨y0,y1,y2,y3,y4,y5,y6⟩:=aS HY.out;obtain ⟨z0,z1,z2,z3,z4,z5,z6,z7,z8,z9,z10⟩:=aW HZ.out) | (go_at_call 98;refine (HN.out _).mono ?_;rintro e' w1 ⟨rfl,hb⟩;have HB:=aF ((bel2 _ _ _).trans (hb.mono (bel2 _ _ _).size));obtain ⟨y,z⟩:=cT hb;have HY:=aF y;have HZ:=aF z;obtain ⟨y0,y1,y2,y3,y4,y5,y6⟩:=aS HY.out;obtain ⟨z0,z1,z2,z3,z4,z5,z6,z7,z8,z9,z10⟩:=aW HZ.out;clear y z hb))
   all_goals first
    | (exfalso;omega)
    | (go_ret;exact ⟨by rw [HF.out];rfl,HB2.out⟩)
  ·have HF:Hid (R=0):=aF (by rw [HR.out,aZ h0,bA rfl,aZ (by simp),aZ hlo]);have e5:¬s.loc<0:=by omega
   have e6:¬(b.locals.length:Int)<=s.loc:=by omega
   clear HR h0 hlo;go_enter Tryz.func55,Tryz.ntmps55
   go_wp2_with (first | (go_at_call 99;refine (HBK.out _).mono ?_;rintro e' w2 ⟨rfl,hb⟩;have HB2:=aF (HB.out.trans (hb.mono HB.out.size));have HY2:=aF (cK HY.out hb);have HZ2:=aF (cK HZ.out hb);clear y0 y1 y2 y3 y4 y5 y6 z0 z1 z2 z3 z4 z5 z6 z7 z8 z9 z10;clear hb HY HZ;have HY:=HY2;have HZ:=HZ2;obtain ⟨y0,y1,y2,y3,y4,y5,y6⟩:=aS HY.out;obtain ⟨z0,z1,z2,z3,z4,z5,z6,z7,z8,z9,z10⟩:=aW HZ.out) | (go_at_call 98;refine (HN.out _).mono ?_;rintro e' w1 ⟨rfl,hb⟩;have HB:=aF ((bel2 _ _ _).trans (hb.mono (bel2 _ _ _).size));obtain ⟨y,z⟩:=cT hb;have HY:=aF y;have HZ:=aF z;obtain ⟨y0,y1,y2,y3,y4,y5,y6⟩:=aS HY.out;obtain ⟨z0,z1,z2,z3,z4,z5,z6,z7,z8,z9,z10⟩:=aW HZ.out;clear y z hb))
   all_goals first
    | (exfalso;omega)
    | (go_ret;exact ⟨by rw [HF.out];rfl,HB2.out⟩)
 by_cases h2:k=2
 ·subst h2;cases z
  ·have HF:Hid (R=2):=aF (by rw [HR.out];simp);clear HR HBK h0 h1;go_enter Tryz.func55,Tryz.ntmps55
   go_wp2_with (go_at_call 98;refine (HN.out _).mono ?_;rintro e' w1 ⟨rfl,hb⟩;have HB:=aF ((bel2 _ _ _).trans (hb.mono (bel2 _ _ _).size));obtain ⟨y,z⟩:=cT hb;have HY:=aF y;have HZ:=aF z;obtain ⟨y0,y1,y2,y3,y4,y5,y6⟩:=aS HY.out;obtain ⟨z0,z1,z2,z3,z4,z5,z6,z7,z8,z9,z10⟩:=aW HZ.out;clear y z hb)
   go_ret;exact ⟨by rw [HF.out];rfl,HB.out⟩
  cases bl
  ·have HF:Hid (R=2):=aF (by rw [HR.out];simp);clear HR h0 h1;go_enter Tryz.func55,Tryz.ntmps55
   go_wp2_with (first | (go_at_call 99;refine (HBK.out _).mono ?_;rintro e' w2 ⟨rfl,hb⟩;have HB2:=aF (HB.out.trans (hb.mono HB.out.size));have HY2:=aF (cK HY.out hb);have HZ2:=aF (cK HZ.out hb);clear y0 y1 y2 y3 y4 y5 y6 z0 z1 z2 z3 z4 z5 z6 z7 z8 z9 z10;clear hb HY HZ;have HY:=HY2;have HZ:=HZ2;obtain ⟨y0,y1,y2,y3,y4,y5,y6⟩:=aS HY.out;obtain ⟨z0,z1,z2,z3,z4,z5,z6,z7,z8,z9,z10⟩:=aW HZ.out) | (go_at_call 98;refine (HN.out _).mono ?_;rintro e' w1 ⟨rfl,hb⟩;have HB:=aF ((bel2 _ _ _).trans (hb.mono (bel2 _ _ _).size));obtain ⟨y,z⟩:=cT hb;have HY:=aF y;have HZ:=aF z;obtain ⟨y0,y1,y2,y3,y4,y5,y6⟩:=aS HY.out;obtain ⟨z0,z1,z2,z3,z4,z5,z6,z7,z8,z9,z10⟩:=aW HZ.out;clear y z hb))
   go_ret;exact ⟨by rw [HF.out];rfl,HB2.out⟩
  by_cases hlo:s.loc=0
  ·have HF:Hid (R=0):=aF (by rw [HR.out];simp [hlo]);have e5:(s.loc != 0)=false:=by simp [hlo]
   clear HR h0 h1 hlo;go_enter Tryz.func55,Tryz.ntmps55
   go_wp2_with (first | (go_at_call 99;refine (HBK.out _).mono ?_;rintro e' w2 ⟨rfl,hb⟩;have HB2:=aF (HB.out.trans (hb.mono HB.out.size));have HY2:=aF (cK HY.out hb);have HZ2:=aF (cK HZ.out hb);clear y0 y1 y2 y3 y4 y5 y6 z0 z1 z2 z3 z4 z5 z6 z7 z8 z9 z10;clear hb HY HZ;have HY:=HY2;have HZ:=HZ2;obtain ⟨y0,y1,y2,y3,y4,y5,y6⟩:=aS HY.out;obtain ⟨z0,z1,z2,z3,z4,z5,z6,z7,z8,z9,z10⟩:=aW HZ.out) | (go_at_call 98;refine (HN.out _).mono ?_;rintro e' w1 ⟨rfl,hb⟩;have HB:=aF ((bel2 _ _ _).trans (hb.mono (bel2 _ _ _).size));obtain ⟨y,z⟩:=cT hb;have HY:=aF y;have HZ:=aF z;obtain ⟨y0,y1,y2,y3,y4,y5,y6⟩:=aS HY.out;obtain ⟨z0,z1,z2,z3,z4,z5,z6,z7,z8,z9,z10⟩:=aW HZ.out;clear y z hb))
   go_ret;exact ⟨by rw [HF.out];rfl,HB2.out⟩
  ·have HF:Hid (R=2):=aF (by rw [HR.out];simp [hlo]);have e5:(s.loc != 0)=true:=by simp [hlo]
   clear HR h0 h1 hlo;go_enter Tryz.func55,Tryz.ntmps55
   go_wp2_with (first | (go_at_call 99;refine (HBK.out _).mono ?_;rintro e' w2 ⟨rfl,hb⟩;have HB2:=aF (HB.out.trans (hb.mono HB.out.size));have HY2:=aF (cK HY.out hb);have HZ2:=aF (cK HZ.out hb);clear y0 y1 y2 y3 y4 y5 y6 z0 z1 z2 z3 z4 z5 z6 z7 z8 z9 z10;clear hb HY HZ;have HY:=HY2;have HZ:=HZ2;obtain ⟨y0,y1,y2,y3,y4,y5,y6⟩:=aS HY.out;obtain ⟨z0,z1,z2,z3,z4,z5,z6,z7,z8,z9,z10⟩:=aW HZ.out) | (go_at_call 98;refine (HN.out _).mono ?_;rintro e' w1 ⟨rfl,hb⟩;have HB:=aF ((bel2 _ _ _).trans (hb.mono (bel2 _ _ _).size));obtain ⟨y,z⟩:=cT hb;have HY:=aF y;have HZ:=aF z;obtain ⟨y0,y1,y2,y3,y4,y5,y6⟩:=aS HY.out;obtain ⟨z0,z1,z2,z3,z4,z5,z6,z7,z8,z9,z10⟩:=aW HZ.out;clear y z hb))
   go_ret;exact ⟨by rw [HF.out];rfl,HB2.out⟩
 have HF:Hid (R=14):=aF (by rw [HR.out,aZ h0,aZ h1,aZ h2]);have e0:(k == 0)=false:=by simp [h0]
 have e1:(k == 1)=false:=by simp [h1]
 have e2:(k == 2)=false:=by simp [h2]
 clear HR HBK HN h0 h1 h2;go_enter Tryz.func55,Tryz.ntmps55
 go_wp2_with fail
 go_ret;exact ⟨by rw [HF.out];rfl,aH⟩
end
section
open Go Go.RowKit Go.Maps
theorem xHT {b:Bdy} {bh:BH} {w:World} (H:Rk w b bh) (rv:Rvl) (t:Nat) (ht:t<b.types.length) (A B:Option Addr) (c d:Nat) (hl:Slc 4 ROp w B d rv.args) (h:shapeE rv=0) (hk:rv.kind=2) (hop:0<=rv.op/\rv.op<=1) (hpos:0<rv.args.length):
 Calls Tryz.prog 97 #[.agg (bdC b bh).toArray,.agg (rvC rv A c B d).toArray,.int .i64 t] w fun e' w'=>e' = .returned (.int .i64 (rvE b rv t))/\Below w.heap.size w w':=by
 obtain ⟨op,hope⟩:∃op,rv.op=op:=⟨_,rfl⟩;rw [hope] at hop;obtain ⟨hop0,hop1⟩:=hop;obtain ⟨q1,hq1⟩:∃q:Int,(if op=1 then 1 else 2)=q:=⟨_,rfl⟩;obtain ⟨q2,hq2⟩:∃q:Int,(if op=1 then 1 else 2)=q:=⟨_,rfl⟩;have e10:decide (op<0)=false:=by simp;omega
 have e11:decide (1<op)=false:=by simp;omega
 have HSH:=aF (fun W=>xAH rv A B c d W);have HOP:=aF (fun W (hb:Below w.heap.size w W) (o:Opd) (A:Option Addr) (c:Nat) (hp:Slc 2 RPj w A c o.place.proj)=>xAE (H.keep hb) o A c (hp.keep RPj.keeps hb));have HKK:=aF (fun W (hb:Below w.heap.size w W) (o:Opd) (A:Option Addr) (c:Nat) (hp:Slc 2 RPj w A c o.place.proj) (ho:opE b o=0)=>xBY (H.keep hb).at_ H.ok o q1 A c (hp.keep RPj.keeps hb) ho)
 have HF0:Hid (rvE b rv t=if opsE b rv.args []≠0 then opsE b rv.args [] else if rv.args.all (fun o=>decide (kindO b o=q1))=true then fail22 (decide (b.types[t].kind≠q2)) else 22):=aF (by
  have hkt:kindT b (t:Int)=b.types[t].kind:=by unfold kindT;simp [ht]
  rw [xCM h ht,hk,<- hq1,<- hq2];rcases (show op=0\/op=1 by omega) with e | e
  all_goals
   rw [e] at hope;simp only [operE,hope,hkt,e]
   rfl)
 have HQ1:=aF hq1;have HQ2:=aF hq2;clear hq1 hq2;rw [h] at HSH;obtain ⟨bb,oo,hA3,hbb,hx⟩:=H.at_.typ.sl.at_ ht;have hle3:=H.at_.typ.le;have hbig3:=H.at_.typ.big;obtain ⟨r0,-⟩:=hx;have hle:=hl.le;have hbig:=hl.big;obtain ⟨b5,o5,rfl,hb5,-⟩:=hl.sl.at_ hpos;have HL:=aF hl;obtain ⟨n,hn⟩:∃n,rv.args.length=n:=⟨_,rfl⟩;have HN:=aF hn;generalize rvE b rv t=R at HF0 ⊢;generalize b.types[t].kind=tk at r0 HF0;clear H h hl;unfold bdC at *;unfold rvC at *;rw [hA3] at HOP HKK ⊢;rw [hn] at hle;rw [hk,hope,hn] at HSH ⊢;clear hn hpos hope hk;go_enter Tryz.func97,Tryz.ntmps97
 go_wp2_with (go_at_call 141;refine (HSH.out _).mono ?_;rintro e' w1 ⟨rfl,hb⟩;have HB:=aF ((bel2 _ _ _).trans (hb.mono (bel2 _ _ _).size));obtain ⟨y,z⟩:=cT hb;have HY:=aF y;have HZ:=aF z;obtain ⟨y0,y1,y2,y3,y4,y5,y6⟩:=aS HY.out;obtain ⟨z0,z1,z2,z3,z4,z5,z6⟩:=aS HZ.out;have q0:=cJ HB.out r0;clear y z hb)
 go_quiet (fail)
 all_goals go_wp2_with fail
 go_loopw [9] (fun v wr=>∃j:Nat,j<=n/\v = .int .i64 j/\Hid (aA (bdT b bh bb oo) wr w.heap.size)/\Hid (aA (rvL 2 op rv A c b5 o5 n d) wr (w.heap.size+1))/\Hid (Below w.heap.size w wr)/\Hid (opsE b rv.args []=opsE b (rv.args.drop j) [])) (fun v _=>n - (intOf v).toNat)
 case atStart=>exact ⟨0,by omega,rfl,aF HY.out,aF HZ.out,aF (aG HB.out _),aF rfl⟩
 case round=>
  clear HY HZ HB y0 y1 y2 y3 y4 y5 y6 z0 z1 z2 z3 z4 z5 z6 q0 r0;obtain ⟨j,hj,rfl,HY,HZ,HB,hr⟩:=hrel;have z6:=HZ.out 6 _ rfl;obtain ⟨z0,z1⟩:=aN HZ.out;by_cases hlt:j<n
  next=>
   have hl1:j<rv.args.length:=by rw [HN.out];exact hlt
   obtain ⟨b7,o7,hB7,hb7,hxo⟩:=HL.out.sl.at_ hl1;simp only [xAB,Addr.mk.injEq,and_true] at hB7;obtain ⟨rfl,rfl⟩:=hB7;have hmem:=bN hl1;have hd:=cS hl1;obtain ⟨o,hoo⟩:∃o,rv.args[j]=o:=⟨_,rfl⟩;rw [hoo] at hxo hd hmem;obtain ⟨p0,⟨p1,A2,c2,p2,hc1,hc2,hsl⟩,p3⟩:=hxo;have HPJ:Hid (Slc 2 RPj w A2 c2 o.place.proj):=aF ⟨hsl,hc1,hc2⟩;have P0:=aF p0;have P1:=aF p1;have P2:=aF (show w.cell? ⟨b5,o5+j * 4+2,none⟩=_ from p2);have P3:=aF p3;have HOO:=aF (fun W hb=>HOP.out W hb o A2 c2 HPJ.out);unfold opC at HOO
   have HV2:Hid ((opE b o≠0->R=opE b o)/\(opE b o=0->opsE b rv.args []=opsE b (rv.args.drop (j+1)) [])):=aF ⟨fun he=>by
    have h9:opsE b rv.args []=opE b o:=by rw [hr.out,hd,nW he]
    rw [HF0.out,h9,bA he],fun he=>by rw [hr.out,hd,lN he]⟩
   generalize opE b o=eo at HOO HV2;clear hr hd hmem hoo p0 p1 p2 p3 hsl hc1 hc2 hl1;go_wp2_with fail
   have hS:aB w (bdT b bh bb oo) (rvL 2 op rv A c b5 o5 n d) wr.drew:=⟨HY.out,HZ.out,HB.out.drew⟩;clear z0 z1 z6;refine cQ (S:=fun X=>aB w (bdT b bh bb oo) (rvL 2 op rv A c b5 o5 n d) X) [0,1,2,3,4,5,6,7] (by kernel_rfl) ?_;(iterate 6 (refine cR (v:=?_) ?_ hS ?_;rotate_left;(next=>(rintro X ⟨hX,hY,hZ⟩;obtain ⟨s0,s1,s2,s3,s4,s5,s6⟩:=aS hX;have u6:=hY 6 _ rfl;have u0:=hY 0 _ rfl;have p0:=cJ hZ P0.out;have p1:=cJ hZ P1.out;have p2:=cJ hZ P2.out;have p3:=cJ hZ P3.out;(try simp only [aI]);go_simp;rfl));simp only [aM]));(refine cM (fun K1 hK1=>?_);simp only [aM];rw [bA (by rfl)];go_simp);refine (HOO.out _ hS.2.2).mono ?_;rintro e' w2 ⟨rfl,hb⟩;replace hS:=bJ (cK hS.1 hb) (bJ (cK hS.2.1 hb) (hS.2.2.trans (hb.mono hS.2.2.size)));have HS2:=aF hS;clear hb;refine hK1.out _ _ (fun _=>hS) ?_;clear hK1;((refine cR (v:=?_) ?_ hS ?_;rotate_left;(next=>(rintro X -;(try simp only [aI]);go_simp;rfl));simp only [aM]))
   refine cV ?_;clear hS;by_cases he:eo=0
   ·subst he;have HV3:=aF (HV2.out.2 rfl);clear HV2;go_wp2_with fail
    have hS:aB w (bdT b bh bb oo) (rvL 2 op rv A c b5 o5 n d) w2.drew:=⟨HS2.out.1,HS2.out.2.1,HS2.out.2.2.drew⟩;refine cQ (S:=fun X=>aB w (bdT b bh bb oo) (rvL 2 op rv A c b5 o5 n d) X) [0,1,2,3,4,5,6,7,8,9,10,11,12,13,14,15,16,17,18,19,20,21] (by kernel_rfl) ?_;(iterate 4 (refine cR (v:=?_) ?_ hS ?_;rotate_left;(next=>(rintro X ⟨hX,hY,hZ⟩;obtain ⟨s0,s1,s2,s3,s4,s5,s6⟩:=aS hX;have u6:=hY 6 _ rfl;have u0:=hY 0 _ rfl;have p0:=cJ hZ P0.out;have p1:=cJ hZ P1.out;have p2:=cJ hZ P2.out;have p3:=cJ hZ P3.out;(try simp only [aI]);go_simp;rfl));simp only [aM]));(iterate 17 (refine cU (v:=undef) (by kernel_rfl) (fun _ _ _ h=>h) (Or.inr ⟨by rfl,rfl⟩) hS ?_;simp only [aM]));((refine cR (v:=?_) ?_ hS ?_;rotate_left;(next=>(rintro X -;(try simp only [aI]);go_simp;rfl));simp only [aM]))
    refine cV ?_;clear hS;go_wp2_with fail
    go_roundw
    case rel=>exact ⟨j+1,by omega,by go_num,aF HS2.out.1,aF HS2.out.2.1,aF HS2.out.2.2.drew,HV3⟩
    case measure=>simp [intOf];omega
   ·have HF:=aF (HV2.out.1 he);have e1:(eo != 0)=true:=by simp [he]
    clear he HV2;go_wp2_with fail
    go_ret;exact ⟨by rw [HF.out];rfl,HS2.out.2.2⟩
  next=>
   have hz:opsE b rv.args []=0:=by rw [hr.out,bE (by rw [HN.out];omega),rT]
   have HALL:=aF (nX hz);have HQ:Hid (R=if (rv.args.drop 0).all (fun o=>decide (kindO b o=q1))=true then fail22 (decide (tk≠q2)) else 22):=aF (by rw [HF0.out,aZ (by simp [hz]),bX]);clear hr hz HF0
   have hcs:(q1=1/\q2=1/\(op == 1)=true)\/(q1=2/\q2=2/\(op == 1)=false):=by
    rw [<- HQ1.out,<- HQ2.out];by_cases g:op=1
    ·left;simp [g]
    ·right;simp [g]
   rcases hcs with ⟨g0,g1,e12⟩ | ⟨g0,g1,e12⟩
   all_goals
    have HX1:=aF g0;have HX2:=aF g1;clear g0 g1;go_wp2_with fail
    clear hlt hj;go_loopw [13] (fun v wr=>∃j:Nat,j<=n/\v = .int .i64 j/\Hid (aA (bdT b bh bb oo) wr w.heap.size)/\Hid (aA (rvL 2 op rv A c b5 o5 n d) wr (w.heap.size+1))/\Hid (Below w.heap.size w wr)/\Hid (R=if (rv.args.drop j).all (fun o=>decide (kindO b o=q1))=true then fail22 (decide (tk≠q2)) else 22)) (fun v _=>n - (intOf v).toNat)
    case atStart=>exact ⟨0,by omega,rfl,HY,HZ,HB,HQ⟩
    case round=>
     clear HY HZ HB HQ z0 z1 z6;obtain ⟨j,hj,rfl,HY,HZ,HB,hr⟩:=hrel;have z6:=HZ.out 6 _ rfl;have z0:=HZ.out 0 _ rfl;by_cases hlt:j<n
     next=>
      have hl1:j<rv.args.length:=by rw [HN.out];exact hlt
      obtain ⟨b7,o7,hB7,hb7,hxo⟩:=HL.out.sl.at_ hl1;simp only [xAB,Addr.mk.injEq,and_true] at hB7;obtain ⟨rfl,rfl⟩:=hB7;have hmem:=bN hl1;have hd:=cS hl1;obtain ⟨o,hoo⟩:∃o,rv.args[j]=o:=⟨_,rfl⟩;rw [hoo] at hxo hd hmem;obtain ⟨p0,⟨p1,A2,c2,p2,hc1,hc2,hsl⟩,p3⟩:=hxo;have HPJ:Hid (Slc 2 RPj w A2 c2 o.place.proj):=aF ⟨hsl,hc1,hc2⟩;have P0:=aF p0;have P1:=aF p1;have P2:=aF (show w.cell? ⟨b5,o5+j * 4+2,none⟩=_ from p2);have P3:=aF p3;have HOO:=aF (fun W hb=>HKK.out W hb o A2 c2 HPJ.out (HALL.out o hmem));unfold opC at HOO
      have HV2:Hid ((kindO b o≠q1->R=22)/\(kindO b o=q1->R=if (rv.args.drop (j+1)).all (fun o=>decide (kindO b o=q1))=true then fail22 (decide (tk≠q2)) else 22)):=aF (by
       rw [hr.out,hd,cB];constructor
       ·intro h;simp [h]
       ·intro h;simp [h])
      obtain ⟨kq,hkq⟩:∃q,decide (kindO b o=q1)=q:=⟨_,rfl⟩;rw [hkq] at HOO;rw [HX1.out] at HOO;have HKQ:=aF hkq;clear hr hd hmem hoo p0 p1 p2 p3 hsl hc1 hc2 hl1 hkq;go_wp2_with fail
      have hS:aB w (bdT b bh bb oo) (rvL 2 op rv A c b5 o5 n d) wr.drew:=⟨HY.out,HZ.out,HB.out.drew⟩;clear z0 z6;refine cQ (S:=fun X=>aB w (bdT b bh bb oo) (rvL 2 op rv A c b5 o5 n d) X) [0,1,2,3,4,5,6,7,8] (by kernel_rfl) ?_;(iterate 7 (refine cR (v:=?_) ?_ hS ?_;rotate_left;(next=>(rintro X ⟨hX,hY,hZ⟩;obtain ⟨s0,s1,s2,s3,s4,s5,s6⟩:=aS hX;have u6:=hY 6 _ rfl;have u0:=hY 0 _ rfl;have p0:=cJ hZ P0.out;have p1:=cJ hZ P1.out;have p2:=cJ hZ P2.out;have p3:=cJ hZ P3.out;(try simp only [aI]);go_simp;rfl));simp only [aM]));(refine cM (fun K1 hK1=>?_);simp only [aM];rw [bA (by rfl)];go_simp);refine (HOO.out _ hS.2.2).mono ?_;rintro e' w2 ⟨rfl,hb⟩;replace hS:=bJ (cK hS.1 hb) (bJ (cK hS.2.1 hb) (hS.2.2.trans (hb.mono hS.2.2.size)));have HS2:=aF hS;clear hb;refine hK1.out _ _ (fun _=>hS) ?_;clear hK1;((refine cR (v:=?_) ?_ hS ?_;rotate_left;(next=>(rintro X -;(try simp only [aI]);go_simp;rfl));simp only [aM]))
      refine cV ?_;clear hS;cases kq
      ·have HF:Hid (R=22):=aF (HV2.out.1 (by have:=HKQ.out;simpa using this));clear HV2;go_wp2_with fail
       go_ret;exact ⟨by rw [HF.out];rfl,HS2.out.2.2⟩
      ·have HF:=aF (HV2.out.2 (by have:=HKQ.out;simpa using this));clear HV2;go_wp2_with fail
       go_roundw
       case rel=>exact ⟨j+1,by omega,by go_num,aF HS2.out.1,aF HS2.out.2.1,aF HS2.out.2.2,HF⟩
       case measure=>simp [intOf];omega
     next=>
      have HF:Hid (R=fail22 (decide (tk≠q2))):=aF (by rw [hr.out,bE (by rw [HN.out];omega)];rfl);have e9:(tk != q2)=decide (tk≠q2):=by rw [bR];simp
      clear hr;by_cases h9:tk=q2
      ·have e8:(tk != q2)=false:=by simp [h9]
       rw [HX2.out] at e8;have HF2:Hid (R=0):=aF (by rw [HF.out];simp [h9,fail22]);clear e9 h9;go_wp2_with fail
       go_ret;exact ⟨by rw [HF2.out];rfl,HB.out⟩
      ·have e8:(tk != q2)=true:=by simp [h9]
       rw [HX2.out] at e8;have HF2:Hid (R=22):=aF (by rw [HF.out];simp [h9,fail22]);clear e9 h9;go_wp2_with fail
       go_ret;exact ⟨by rw [HF2.out];rfl,HB.out⟩
theorem xHU {b:Bdy} {bh:BH} {w:World} (H:Rk w b bh) (rv:Rvl) (t:Nat) (ht:t<b.types.length) (A B:Option Addr) (c d:Nat) (hl:Slc 4 ROp w B d rv.args) (h:shapeE rv=0) (hk:rv.kind=3) (hop:0<=rv.op/\rv.op<=5) (hpos:0<rv.args.length):
 Calls Tryz.prog 97 #[.agg (bdC b bh).toArray,.agg (rvC rv A c B d).toArray,.int .i64 t] w fun e' w'=>e' = .returned (.int .i64 (rvE b rv t))/\Below w.heap.size w w':=by
 obtain ⟨op,hope⟩:∃op,rv.op=op:=⟨_,rfl⟩;rw [hope] at hop;obtain ⟨hop0,hop1⟩:=hop;obtain ⟨q1,hq1⟩:∃q:Int,(if op=5 then 1 else 2)=q:=⟨_,rfl⟩;obtain ⟨q2,hq2⟩:∃q:Int,(if 3<=op then 1 else 2)=q:=⟨_,rfl⟩;have e10:decide (op<0)=false:=by simp;omega
 have e11:decide (5<op)=false:=by simp;omega
 have HSH:=aF (fun W=>xAH rv A B c d W);have HOP:=aF (fun W (hb:Below w.heap.size w W) (o:Opd) (A:Option Addr) (c:Nat) (hp:Slc 2 RPj w A c o.place.proj)=>xAE (H.keep hb) o A c (hp.keep RPj.keeps hb));have HKK:=aF (fun W (hb:Below w.heap.size w W) (o:Opd) (A:Option Addr) (c:Nat) (hp:Slc 2 RPj w A c o.place.proj) (ho:opE b o=0)=>xBY (H.keep hb).at_ H.ok o q1 A c (hp.keep RPj.keeps hb) ho)
 have HF0:Hid (rvE b rv t=if opsE b rv.args []≠0 then opsE b rv.args [] else if rv.args.all (fun o=>decide (kindO b o=q1))=true then fail22 (decide (b.types[t].kind≠q2)) else 22):=aF (by
  have hkt:kindT b (t:Int)=b.types[t].kind:=by unfold kindT;simp [ht]
  rw [xCM h ht,hk,<- hq1,<- hq2];rcases (show op=0\/op=1\/op=2\/op=3\/op=4\/op=5 by omega) with e | e | e | e | e | e
  all_goals
   rw [e] at hope;simp only [operE,hope,hkt,e]
   rfl)
 have HQ1:=aF hq1;have HQ2:=aF hq2;clear hq1 hq2;rw [h] at HSH;obtain ⟨bb,oo,hA3,hbb,hx⟩:=H.at_.typ.sl.at_ ht;have hle3:=H.at_.typ.le;have hbig3:=H.at_.typ.big;obtain ⟨r0,-⟩:=hx;have hle:=hl.le;have hbig:=hl.big;obtain ⟨b5,o5,rfl,hb5,-⟩:=hl.sl.at_ hpos;have HL:=aF hl;obtain ⟨n,hn⟩:∃n,rv.args.length=n:=⟨_,rfl⟩;have HN:=aF hn;generalize rvE b rv t=R at HF0 ⊢;generalize b.types[t].kind=tk at r0 HF0;clear H h hl;unfold bdC at *;unfold rvC at *;rw [hA3] at HOP HKK ⊢;rw [hn] at hle;rw [hk,hope,hn] at HSH ⊢;clear hn hpos hope hk;go_enter Tryz.func97,Tryz.ntmps97
 go_wp2_with (go_at_call 141;refine (HSH.out _).mono ?_;rintro e' w1 ⟨rfl,hb⟩;have HB:=aF ((bel2 _ _ _).trans (hb.mono (bel2 _ _ _).size));obtain ⟨y,z⟩:=cT hb;have HY:=aF y;have HZ:=aF z;obtain ⟨y0,y1,y2,y3,y4,y5,y6⟩:=aS HY.out;obtain ⟨z0,z1,z2,z3,z4,z5,z6⟩:=aS HZ.out;have q0:=cJ HB.out r0;clear y z hb)
 go_quiet (fail)
 all_goals go_wp2_with fail
 go_loopw [9] (fun v wr=>∃j:Nat,j<=n/\v = .int .i64 j/\Hid (aA (bdT b bh bb oo) wr w.heap.size)/\Hid (aA (rvL 3 op rv A c b5 o5 n d) wr (w.heap.size+1))/\Hid (Below w.heap.size w wr)/\Hid (opsE b rv.args []=opsE b (rv.args.drop j) [])) (fun v _=>n - (intOf v).toNat)
 case atStart=>exact ⟨0,by omega,rfl,aF HY.out,aF HZ.out,aF (aG HB.out _),aF rfl⟩
 case round=>
  clear HY HZ HB y0 y1 y2 y3 y4 y5 y6 z0 z1 z2 z3 z4 z5 z6 q0 r0;obtain ⟨j,hj,rfl,HY,HZ,HB,hr⟩:=hrel;have z6:=HZ.out 6 _ rfl;obtain ⟨z0,z1⟩:=aN HZ.out;by_cases hlt:j<n
  next=>
   have hl1:j<rv.args.length:=by rw [HN.out];exact hlt
   obtain ⟨b7,o7,hB7,hb7,hxo⟩:=HL.out.sl.at_ hl1;simp only [xAB,Addr.mk.injEq,and_true] at hB7;obtain ⟨rfl,rfl⟩:=hB7;have hmem:=bN hl1;have hd:=cS hl1;obtain ⟨o,hoo⟩:∃o,rv.args[j]=o:=⟨_,rfl⟩;rw [hoo] at hxo hd hmem;obtain ⟨p0,⟨p1,A2,c2,p2,hc1,hc2,hsl⟩,p3⟩:=hxo;have HPJ:Hid (Slc 2 RPj w A2 c2 o.place.proj):=aF ⟨hsl,hc1,hc2⟩;have P0:=aF p0;have P1:=aF p1;have P2:=aF (show w.cell? ⟨b5,o5+j * 4+2,none⟩=_ from p2);have P3:=aF p3;have HOO:=aF (fun W hb=>HOP.out W hb o A2 c2 HPJ.out);unfold opC at HOO
   have HV2:Hid ((opE b o≠0->R=opE b o)/\(opE b o=0->opsE b rv.args []=opsE b (rv.args.drop (j+1)) [])):=aF ⟨fun he=>by
    have h9:opsE b rv.args []=opE b o:=by rw [hr.out,hd,nW he]
    rw [HF0.out,h9,bA he],fun he=>by rw [hr.out,hd,lN he]⟩
   generalize opE b o=eo at HOO HV2;clear hr hd hmem hoo p0 p1 p2 p3 hsl hc1 hc2 hl1;go_wp2_with fail
   have hS:aB w (bdT b bh bb oo) (rvL 3 op rv A c b5 o5 n d) wr.drew:=⟨HY.out,HZ.out,HB.out.drew⟩;clear z0 z1 z6;refine cQ (S:=fun X=>aB w (bdT b bh bb oo) (rvL 3 op rv A c b5 o5 n d) X) [0,1,2,3,4,5,6,7] (by kernel_rfl) ?_;(iterate 6 (refine cR (v:=?_) ?_ hS ?_;rotate_left;(next=>(rintro X ⟨hX,hY,hZ⟩;obtain ⟨s0,s1,s2,s3,s4,s5,s6⟩:=aS hX;have u6:=hY 6 _ rfl;have u0:=hY 0 _ rfl;have p0:=cJ hZ P0.out;have p1:=cJ hZ P1.out;have p2:=cJ hZ P2.out;have p3:=cJ hZ P3.out;(try simp only [aI]);go_simp;rfl));simp only [aM]));(refine cM (fun K1 hK1=>?_);simp only [aM];rw [bA (by rfl)];go_simp);refine (HOO.out _ hS.2.2).mono ?_;rintro e' w2 ⟨rfl,hb⟩;replace hS:=bJ (cK hS.1 hb) (bJ (cK hS.2.1 hb) (hS.2.2.trans (hb.mono hS.2.2.size)));have HS2:=aF hS;clear hb;refine hK1.out _ _ (fun _=>hS) ?_;clear hK1;((refine cR (v:=?_) ?_ hS ?_;rotate_left;(next=>(rintro X -;(try simp only [aI]);go_simp;rfl));simp only [aM]))
   refine cV ?_;clear hS;by_cases he:eo=0
   ·subst he;have HV3:=aF (HV2.out.2 rfl);clear HV2;go_wp2_with fail
    have hS:aB w (bdT b bh bb oo) (rvL 3 op rv A c b5 o5 n d) w2.drew:=⟨HS2.out.1,HS2.out.2.1,HS2.out.2.2.drew⟩;refine cQ (S:=fun X=>aB w (bdT b bh bb oo) (rvL 3 op rv A c b5 o5 n d) X) [0,1,2,3,4,5,6,7,8,9,10,11,12,13,14,15,16,17,18,19,20,21] (by kernel_rfl) ?_;(iterate 4 (refine cR (v:=?_) ?_ hS ?_;rotate_left;(next=>(rintro X ⟨hX,hY,hZ⟩;obtain ⟨s0,s1,s2,s3,s4,s5,s6⟩:=aS hX;have u6:=hY 6 _ rfl;have u0:=hY 0 _ rfl;have p0:=cJ hZ P0.out;have p1:=cJ hZ P1.out;have p2:=cJ hZ P2.out;have p3:=cJ hZ P3.out;(try simp only [aI]);go_simp;rfl));simp only [aM]));(iterate 17 (refine cU (v:=undef) (by kernel_rfl) (fun _ _ _ h=>h) (Or.inr ⟨by rfl,rfl⟩) hS ?_;simp only [aM]));((refine cR (v:=?_) ?_ hS ?_;rotate_left;(next=>(rintro X -;(try simp only [aI]);go_simp;rfl));simp only [aM]))
    refine cV ?_;clear hS;go_wp2_with fail
    go_roundw
    case rel=>exact ⟨j+1,by omega,by go_num,aF HS2.out.1,aF HS2.out.2.1,aF HS2.out.2.2.drew,HV3⟩
    case measure=>simp [intOf];omega
   ·have HF:=aF (HV2.out.1 he);have e1:(eo != 0)=true:=by simp [he]
    clear he HV2;go_wp2_with fail
    go_ret;exact ⟨by rw [HF.out];rfl,HS2.out.2.2⟩
  next=>
   have hz:opsE b rv.args []=0:=by rw [hr.out,bE (by rw [HN.out];omega),rT]
   have HALL:=aF (nX hz);have HQ:Hid (R=if (rv.args.drop 0).all (fun o=>decide (kindO b o=q1))=true then fail22 (decide (tk≠q2)) else 22):=aF (by rw [HF0.out,aZ (by simp [hz]),bX]);clear hr hz HF0
   have hcs:(q1=2/\q2=2/\(op == 5)=false/\decide (3<=op)=false)\/(q1=2/\q2=1/\(op == 5)=false/\decide (3<=op)=true)\/(q1=1/\q2=1/\(op == 5)=true/\decide (3<=op)=true):=by
    rw [<- HQ1.out,<- HQ2.out];by_cases g:op=5
    ·right;right;simp [g]
    ·by_cases g2:3<=op
     ·right;left;simp [g,g2]
     ·left;simp [g,g2]
   rcases hcs with ⟨g0,g1,e12,e13⟩ | ⟨g0,g1,e12,e13⟩ | ⟨g0,g1,e12,e13⟩
   all_goals
    have HX1:=aF g0;have HX2:=aF g1;clear g0 g1;go_wp2_with fail
    clear hlt hj;go_loopw [13] (fun v wr=>∃j:Nat,j<=n/\v = .int .i64 j/\Hid (aA (bdT b bh bb oo) wr w.heap.size)/\Hid (aA (rvL 3 op rv A c b5 o5 n d) wr (w.heap.size+1))/\Hid (Below w.heap.size w wr)/\Hid (R=if (rv.args.drop j).all (fun o=>decide (kindO b o=q1))=true then fail22 (decide (tk≠q2)) else 22)) (fun v _=>n - (intOf v).toNat)
    case atStart=>exact ⟨0,by omega,rfl,HY,HZ,HB,HQ⟩
    case round=>
     clear HY HZ HB HQ z0 z1 z6;obtain ⟨j,hj,rfl,HY,HZ,HB,hr⟩:=hrel;have z6:=HZ.out 6 _ rfl;have z0:=HZ.out 0 _ rfl;by_cases hlt:j<n
     next=>
      have hl1:j<rv.args.length:=by rw [HN.out];exact hlt
      obtain ⟨b7,o7,hB7,hb7,hxo⟩:=HL.out.sl.at_ hl1;simp only [xAB,Addr.mk.injEq,and_true] at hB7;obtain ⟨rfl,rfl⟩:=hB7;have hmem:=bN hl1;have hd:=cS hl1;obtain ⟨o,hoo⟩:∃o,rv.args[j]=o:=⟨_,rfl⟩;rw [hoo] at hxo hd hmem;obtain ⟨p0,⟨p1,A2,c2,p2,hc1,hc2,hsl⟩,p3⟩:=hxo;have HPJ:Hid (Slc 2 RPj w A2 c2 o.place.proj):=aF ⟨hsl,hc1,hc2⟩;have P0:=aF p0;have P1:=aF p1;have P2:=aF (show w.cell? ⟨b5,o5+j * 4+2,none⟩=_ from p2);have P3:=aF p3;have HOO:=aF (fun W hb=>HKK.out W hb o A2 c2 HPJ.out (HALL.out o hmem));unfold opC at HOO
      have HV2:Hid ((kindO b o≠q1->R=22)/\(kindO b o=q1->R=if (rv.args.drop (j+1)).all (fun o=>decide (kindO b o=q1))=true then fail22 (decide (tk≠q2)) else 22)):=aF (by
       rw [hr.out,hd,cB];constructor
       ·intro h;simp [h]
       ·intro h;simp [h])
      obtain ⟨kq,hkq⟩:∃q,decide (kindO b o=q1)=q:=⟨_,rfl⟩;rw [hkq] at HOO;rw [HX1.out] at HOO;have HKQ:=aF hkq;clear hr hd hmem hoo p0 p1 p2 p3 hsl hc1 hc2 hl1 hkq;go_wp2_with fail
      have hS:aB w (bdT b bh bb oo) (rvL 3 op rv A c b5 o5 n d) wr.drew:=⟨HY.out,HZ.out,HB.out.drew⟩;clear z0 z6;refine cQ (S:=fun X=>aB w (bdT b bh bb oo) (rvL 3 op rv A c b5 o5 n d) X) [0,1,2,3,4,5,6,7,8] (by kernel_rfl) ?_;(iterate 7 (refine cR (v:=?_) ?_ hS ?_;rotate_left;(next=>(rintro X ⟨hX,hY,hZ⟩;obtain ⟨s0,s1,s2,s3,s4,s5,s6⟩:=aS hX;have u6:=hY 6 _ rfl;have u0:=hY 0 _ rfl;have p0:=cJ hZ P0.out;have p1:=cJ hZ P1.out;have p2:=cJ hZ P2.out;have p3:=cJ hZ P3.out;(try simp only [aI]);go_simp;rfl));simp only [aM]));(refine cM (fun K1 hK1=>?_);simp only [aM];rw [bA (by rfl)];go_simp);refine (HOO.out _ hS.2.2).mono ?_;rintro e' w2 ⟨rfl,hb⟩;replace hS:=bJ (cK hS.1 hb) (bJ (cK hS.2.1 hb) (hS.2.2.trans (hb.mono hS.2.2.size)));have HS2:=aF hS;clear hb;refine hK1.out _ _ (fun _=>hS) ?_;clear hK1;((refine cR (v:=?_) ?_ hS ?_;rotate_left;(next=>(rintro X -;(try simp only [aI]);go_simp;rfl));simp only [aM]))
      refine cV ?_;clear hS;cases kq
      ·have HF:Hid (R=22):=aF (HV2.out.1 (by have:=HKQ.out;simpa using this));clear HV2;go_wp2_with fail
       go_ret;exact ⟨by rw [HF.out];rfl,HS2.out.2.2⟩
      ·have HF:=aF (HV2.out.2 (by have:=HKQ.out;simpa using this));clear HV2;go_wp2_with fail
       go_roundw
       case rel=>exact ⟨j+1,by omega,by go_num,aF HS2.out.1,aF HS2.out.2.1,aF HS2.out.2.2,HF⟩
       case measure=>simp [intOf];omega
     next=>
      have HF:Hid (R=fail22 (decide (tk≠q2))):=aF (by rw [hr.out,bE (by rw [HN.out];omega)];rfl);have e9:(tk != q2)=decide (tk≠q2):=by rw [bR];simp
      clear hr;by_cases h9:tk=q2
      ·have e8:(tk != q2)=false:=by simp [h9]
       rw [HX2.out] at e8;have HF2:Hid (R=0):=aF (by rw [HF.out];simp [h9,fail22]);clear e9 h9;go_wp2_with fail
       go_ret;exact ⟨by rw [HF2.out];rfl,HB.out⟩
      ·have e8:(tk != q2)=true:=by simp [h9]
       rw [HX2.out] at e8;have HF2:Hid (R=22):=aF (by rw [HF.out];simp [h9,fail22]);clear e9 h9;go_wp2_with fail
       go_ret;exact ⟨by rw [HF2.out];rfl,HB.out⟩
end
section
open Go Go.RowKit
theorem xHB {b:Bdy} {bh:BH} {w:World} (H:Rk w b bh) (rv:Rvl) (t:Nat) (ht:t<b.types.length) (A B:Option Addr) (c d:Nat) (hp:Slc 2 RPj w A c rv.place.proj) (hl:Slc 4 ROp w B d rv.args):
 Calls Tryz.prog 97 #[.agg (bdC b bh).toArray,.agg (rvC rv A c B d).toArray,.int .i64 t] w fun e' w'=>e' = .returned (.int .i64 (rvE b rv t))/\Below w.heap.size w w':=by
 by_cases h:shapeE rv=0
 case neg=>exact xFL rv t A B c d h
 obtain ⟨⟨h0,h1⟩,hu⟩:=xCL h;rcases (show rv.kind=0\/rv.kind=1\/rv.kind=2\/rv.kind=3\/rv.kind=4 by omega) with hk | hk | hk | hk | hk
 ·exact xGY H rv t ht A B c d hl h hk
 ·exact xHA H rv t ht A B c d hp h hk
 ·by_cases hr:rv.op<0\/1<rv.op
  ·exact xDC H rv t ht A B c d h (Or.inl ⟨hk,hr⟩)
  ·have hpos:0<rv.args.length:=by
    unfold unusedR at hu;rw [aZ (by omega),aZ (by omega),bA hk] at hu;simp only [bQ,decide_eq_true_eq] at hu;omega
   exact xHT H rv t ht A B c d hl h hk (by omega) hpos
 ·by_cases hr:rv.op<0\/5<rv.op
  ·exact xDC H rv t ht A B c d h (Or.inr ⟨hk,hr⟩)
  ·have hpos:0<rv.args.length:=by
    unfold unusedR at hu;rw [aZ (by omega),aZ (by omega),aZ (by omega),bA hk] at hu;simp only [bQ,decide_eq_true_eq] at hu;omega
   exact xHU H rv t ht A B c d hl h hk (by omega) hpos
 ·exact xFZ H rv t ht A B c d hl h hk
theorem xHS {b:Bdy} {bh:BH} {w:World} (H:Rk w b bh) (s:Stm) (A0 A B:Option Addr) (c0 c d:Nat) (hp0:Slc 2 RPj w A0 c0 s.place.proj) (hp:Slc 2 RPj w A c s.rv.place.proj) (hl:Slc 4 ROp w B d s.rv.args):
 Calls Tryz.prog 55 #[.agg (bdC b bh).toArray,.agg (stC s A0 c0 A c B d).toArray] w fun e' w'=>e' = .returned (.int .i64 (stE b s))/\Below w.heap.size w w':=
 xFU H s A0 A B c0 c d hp0 hl (fun _W hb t ht=>xHB (H.keep hb) s.rv t ht A B c d (hp.keep RPj.keeps hb) (hl.keep ROp.keeps hb))
end
section
open Go Go.RowKit Go.Maps
theorem xFB {b:Bdy} {bh:BH} {w:World} (_H:Rk w b bh) (t:Trm) (A B C:Option Addr) (c d f:Nat) (ht:Slc 1 RInt w A c t.targets) (hl:Slc 4 ROp w B d t.args) (_hp:Slc 2 RPj w C f t.place.proj) (hk:t.kind=0) (hfd:fieldsT t=false):
 Calls Tryz.prog 56 #[.agg (bdC b bh).toArray,.agg (tmC t A c B d C f).toArray] w fun e' w'=>e' = .returned (.int .i64 (tmE b t))/\Below w.heap.size w w':=by
 have HZ:=aF (fun W=>xAF t.place C f W);have HF:Hid (tmE b t=2):=aF (by rw [tmE,aZ (by omega),bA hfd]);generalize tmE b t=R at HF ⊢;have hfd2:=hfd;unfold fieldsT at hfd2;rw [hk] at hfd2;simp only [reduceIte,Int.reduceEq] at hfd2;obtain ⟨n,hn⟩:∃n,t.targets.length=n:=⟨_,rfl⟩;obtain ⟨m,hm⟩:∃m,t.args.length=m:=⟨_,rfl⟩;obtain ⟨z,hzz⟩:∃z,zeroP t.place=z:=⟨_,rfl⟩;have hmb:m<=9223372036854775807:=by have h1:=hl.le;have h2:=hl.big;omega
 have hnb:n<=9223372036854775807:=by have h1:=ht.le;have h2:=ht.big;omega
 obtain ⟨u,hu⟩:∃u,decide (t.name.size=0)=u:=⟨_,rfl⟩;have hne:=nH t.name;rw [hu] at hne;try rw [hu] at hfd2
 rw [hn] at hfd2;try rw [hm] at hfd2
 try rw [hzz] at hfd2
 rw [hzz] at HZ;clear _H ht hl _hp hfd hzz;unfold bdC tmC;rw [hk,hn,hm];clear hk hn hm;by_cases hn:n=1
 case neg=>
  have e1:((n:Int) != 1)=true:=by simp;omega
  clear hfd2 hne HZ hu;go_enter Tryz.func56,Tryz.ntmps56
  go_wp2_with fail
  go_quiet (fail)
  all_goals go_wp2_with fail
  all_goals first
   | (exfalso;omega)
   | (go_ret;exact ⟨by rw [HF.out];rfl,by first | exact aG aH _ | exact aH⟩)
 subst hn;cases u
 case false=>
  clear hfd2 HZ hu;go_enter Tryz.func56,Tryz.ntmps56
  go_wp2_with fail
  go_quiet (fail)
  all_goals go_wp2_with fail
  all_goals first
   | (exfalso;omega)
   | (go_ret;exact ⟨by rw [HF.out];rfl,by first | exact aG aH _ | exact aH⟩)
 have hnm:t.name={ data:= #[] }:=by
  have h:=of_decide_eq_true hu;cases hh:t.name with
  | mk dd=>
    rw [hh] at h;exact congrArg ByteArray.mk (Array.eq_empty_of_size_eq_zero (show dd.size=0 from h))
 rw [hnm];clear hu hne hnm;cases z
 case false=>
  clear hfd2;go_enter Tryz.func56,Tryz.ntmps56
  go_wp2_with fail
  have hS:=xBJ w (bdC b bh) (tmL 0 1 A c B m d t C f { data:= #[] }) arT 28 61 157;refine cQ (S:=fun X=>aD w (bdC b bh) (tmL 0 1 A c B m d t C f { data:= #[] }) arT X) [0,1,2,3,4,5,6,7,8,9,10,11,12,13,14,15,16,17,18,19,20,21,22,23,24,25,26,27,28,29,30,31,32,33,34,35,36,37,38,39,40,41,42,43,44,45,46,47,48,49,50,51,52,53,54,55,56,57] (by kernel_rfl) ?_;(iterate 28 (refine cR (v:=?_) ?_ hS ?_;rotate_left;(next=>(rintro X ⟨hX,hY,hA,hZ⟩;obtain ⟨s0,s1,s2,s3,s4,s5⟩:=aR hY;have a0:=hA 0 _ rfl;(try simp only [aI]);go_simp;rfl));simp only [aM]));(refine cM (fun K1 hK1=>?_);simp only [aM];rw [bA (by rfl)];go_simp);refine (HZ.out _).mono ?_;rintro e' w1 ⟨rfl,hb⟩;replace hS:=bJ (cK hS.1 hb) (bJ (cK hS.2.1 hb) (bJ (cK hS.2.2.1 hb) (hS.2.2.2.trans (hb.mono hS.2.2.2.size))));have HS2:=aF hS;clear hb;refine hK1.out _ _ (fun _=>hS) ?_;clear hK1;(iterate 4 (refine cR (v:=?_) ?_ hS ?_;rotate_left;(next=>(rintro X ⟨hX,hY,hA,hZ⟩;obtain ⟨s0,s1,s2,s3,s4,s5⟩:=aR hY;have a0:=hA 0 _ rfl;(try simp only [aI]);go_simp;rfl));simp only [aM]));(iterate 9 (refine cU (v:=undef) (by kernel_rfl) (fun _ _ _ h=>h) (Or.inr ⟨by rfl,rfl⟩) hS ?_;simp only [aM]));(iterate 2 (refine cR (v:=?_) ?_ hS ?_;rotate_left;(next=>(rintro X ⟨hX,hY,hA,hZ⟩;obtain ⟨s0,s1,s2,s3,s4,s5⟩:=aR hY;have a0:=hA 0 _ rfl;(try simp only [aI]);go_simp;rfl));simp only [aM]));(iterate 13 (refine cU (v:=undef) (by kernel_rfl) (fun _ _ _ h=>h) (Or.inr ⟨by rfl,rfl⟩) hS ?_;simp only [aM]));((refine cR (v:=?_) ?_ hS ?_;rotate_left;(next=>(rintro X ⟨hX,hY,hA,hZ⟩;obtain ⟨s0,s1,s2,s3,s4,s5⟩:=aR hY;have a0:=hA 0 _ rfl;(try simp only [aI]);go_simp;rfl));simp only [aM]))
  refine cV ?_;clear hS;go_wp2_with fail
  all_goals first
   | (exfalso;omega)
   | (go_ret;exact ⟨by rw [HF.out];rfl,HS2.out.2.2.2⟩)
 have hm0:0<m:=by simp at hfd2;omega
 have e3:decide (0<(m:Int))=true:=by simp;omega
 clear hfd2;go_enter Tryz.func56,Tryz.ntmps56
 go_wp2_with fail
 have hS:=xBJ w (bdC b bh) (tmL 0 1 A c B m d t C f { data:= #[] }) arT 28 61 157;refine cQ (S:=fun X=>aD w (bdC b bh) (tmL 0 1 A c B m d t C f { data:= #[] }) arT X) [0,1,2,3,4,5,6,7,8,9,10,11,12,13,14,15,16,17,18,19,20,21,22,23,24,25,26,27,28,29,30,31,32,33,34,35,36,37,38,39,40,41,42,43,44,45,46,47,48,49,50,51,52,53,54,55,56,57] (by kernel_rfl) ?_;(iterate 28 (refine cR (v:=?_) ?_ hS ?_;rotate_left;(next=>(rintro X ⟨hX,hY,hA,hZ⟩;obtain ⟨s0,s1,s2,s3,s4,s5⟩:=aR hY;have a0:=hA 0 _ rfl;(try simp only [aI]);go_simp;rfl));simp only [aM]));(refine cM (fun K1 hK1=>?_);simp only [aM];rw [bA (by rfl)];go_simp);refine (HZ.out _).mono ?_;rintro e' w1 ⟨rfl,hb⟩;replace hS:=bJ (cK hS.1 hb) (bJ (cK hS.2.1 hb) (bJ (cK hS.2.2.1 hb) (hS.2.2.2.trans (hb.mono hS.2.2.2.size))));have HS2:=aF hS;clear hb;refine hK1.out _ _ (fun _=>hS) ?_;clear hK1;(iterate 8 (refine cR (v:=?_) ?_ hS ?_;rotate_left;(next=>(rintro X ⟨hX,hY,hA,hZ⟩;obtain ⟨s0,s1,s2,s3,s4,s5⟩:=aR hY;have a0:=hA 0 _ rfl;(try simp only [aI]);go_simp;rfl));simp only [aM]));(iterate 4 (refine cU (v:=undef) (by kernel_rfl) (fun _ _ _ h=>h) (Or.inr ⟨by rfl,rfl⟩) hS ?_;simp only [aM]));(iterate 17 (refine cR (v:=?_) ?_ hS ?_;rotate_left;(next=>(rintro X ⟨hX,hY,hA,hZ⟩;obtain ⟨s0,s1,s2,s3,s4,s5⟩:=aR hY;have a0:=hA 0 _ rfl;(try simp only [aI]);go_simp;rfl));simp only [aM]));refine cV ?_;clear hS;go_wp2_with fail
 all_goals first
  | (exfalso;omega)
  | (go_ret;exact ⟨by rw [HF.out];rfl,HS2.out.2.2.2⟩)
theorem xEC {b:Bdy} {bh:BH} {w:World} (H:Rk w b bh) (t:Trm) (A B C:Option Addr) (c d f:Nat) (ht:Slc 1 RInt w A c t.targets) (hl:Slc 4 ROp w B d t.args) (_hp:Slc 2 RPj w C f t.place.proj) (hk:t.kind=0) (hfd:fieldsT t=true):
 Calls Tryz.prog 56 #[.agg (bdC b bh).toArray,.agg (tmC t A c B d C f).toArray] w fun e' w'=>e' = .returned (.int .i64 (tmE b t))/\Below w.heap.size w w':=by
 have HZ:=aF (fun W=>xAF t.place C f W);have HOP:=aF (fun W (hb:Below w.heap.size w W) (o:Opd) (A:Option Addr) (c:Nat) (hp:Slc 2 RPj w A c o.place.proj)=>xAE (H.keep hb) o A c (hp.keep RPj.keeps hb));have hfd2:=hfd;unfold fieldsT at hfd2;rw [hk] at hfd2;simp only [reduceIte,Int.reduceEq,bQ,decide_eq_true_eq] at hfd2;obtain ⟨⟨⟨hn,hm⟩,hzz⟩,hnm0⟩:=hfd2;obtain ⟨Q,hQ⟩:∃Q,(if opsE b t.args []≠0 then opsE b t.args [] else 0)=Q:=⟨_,rfl⟩;have HQ:=aF hQ
 have HF:Hid (tmE b t=if (t.targets.drop 0).all (fun k=>decide (0<=k/\k<(b.blocks.length:Int)))=true then Q else 3):=aF (by
  rw [bX,tmE,aZ (by omega),aZ (by rw [hfd];simp),<- hQ];cases t.targets.all (fun k=>decide (0<=k/\k<(b.blocks.length:Int)))
  ·simp
  ·rw [bV hm,rT]
   simp [hk])
 generalize tmE b t=R at HF ⊢;have hblkl:=H.at_.blk.le;have hblkb:=H.at_.blk.big;have hle2:=ht.le;have hbig2:=ht.big;have hle:=hl.le;have hbig:=hl.big;have HTG:=aF ht;have HL:=aF hl
 have hnm:t.name={ data:= #[] }:=by
  have h:=hnm0;cases hh:t.name with
  | mk dd=>
    rw [hh] at h;exact congrArg ByteArray.mk (Array.eq_empty_of_size_eq_zero (show dd.size=0 from h))
 rw [hzz] at HZ;obtain ⟨m,hmm⟩:∃m,t.args.length=m:=⟨_,rfl⟩;have HN:=aF hmm;clear hQ H ht hl _hp hfd hnm0;unfold bdC at *;unfold tmC;rw [hk,hn,hmm,hnm];rw [hmm] at hle;obtain rfl:m=0:=by omega
 have HTN:=aF hn;clear hn hk hmm hnm hm;clear hzz;go_enter Tryz.func56,Tryz.ntmps56
 go_wp2_with fail
 have hS:=xBJ w (bdC b bh) (tmL 0 1 A c B 0 d t C f { data:= #[] }) arT 28 61 157;refine cQ (S:=fun X=>aD w (bdC b bh) (tmL 0 1 A c B 0 d t C f { data:= #[] }) arT X) [0,1,2,3,4,5,6,7,8,9,10,11,12,13,14,15,16,17,18,19,20,21,22,23,24,25,26,27,28,29,30,31,32,33,34,35,36,37,38,39,40,41,42,43,44,45,46,47,48,49,50,51,52,53,54,55,56,57] (by kernel_rfl) ?_;(iterate 28 (refine cR (v:=?_) ?_ hS ?_;rotate_left;(next=>(rintro X ⟨hX,hY,hA,hZ⟩;obtain ⟨s0,s1,s2,s3,s4,s5⟩:=aR hY;have a0:=hA 0 _ rfl;(try simp only [aI]);go_simp;rfl));simp only [aM]));(refine cM (fun K1 hK1=>?_);simp only [aM];rw [bA (by rfl)];go_simp);refine (HZ.out _).mono ?_;rintro e' w1 ⟨rfl,hb⟩;replace hS:=bJ (cK hS.1 hb) (bJ (cK hS.2.1 hb) (bJ (cK hS.2.2.1 hb) (hS.2.2.2.trans (hb.mono hS.2.2.2.size))));have HS2:=aF hS;clear hb;refine hK1.out _ _ (fun _=>hS) ?_;clear hK1;(iterate 8 (refine cR (v:=?_) ?_ hS ?_;rotate_left;(next=>(rintro X ⟨hX,hY,hA,hZ⟩;obtain ⟨s0,s1,s2,s3,s4,s5⟩:=aR hY;have a0:=hA 0 _ rfl;(try simp only [aI]);go_simp;rfl));simp only [aM]));(iterate 4 (refine cU (v:=undef) (by kernel_rfl) (fun _ _ _ h=>h) (Or.inr ⟨by rfl,rfl⟩) hS ?_;simp only [aM]));(iterate 17 (refine cR (v:=?_) ?_ hS ?_;rotate_left;(next=>(rintro X ⟨hX,hY,hA,hZ⟩;obtain ⟨s0,s1,s2,s3,s4,s5⟩:=aR hY;have a0:=hA 0 _ rfl;(try simp only [aI]);go_simp;rfl));simp only [aM]));refine cV ?_;clear hS;go_wp2_with fail
 have HY:=aF HS2.out.1;have HZZ:=aF HS2.out.2.1;have HB:=aF HS2.out.2.2.2;clear HS2;go_loopw [7] (fun v wr=>∃k:Nat,k<=1/\v = .int .i64 k/\Hid (aA (bdC b bh) wr w.heap.size)/\Hid (aA (tmL 0 1 A c B 0 d t C f { data:= #[] }) wr (w.heap.size+1))/\Hid (Below w.heap.size w wr)/\Hid (R=if (t.targets.drop k).all (fun k=>decide (0<=k/\k<(b.blocks.length:Int)))=true then Q else 3)) (fun v _=>1 - (intOf v).toNat)
 case atStart=>exact ⟨0,by omega,rfl,HY,HZZ,HB,HF⟩
 case round=>
  clear HY HZZ HB HF;obtain ⟨k,hk2,rfl,HY,HZ,HB,hr⟩:=hrel;obtain ⟨y0,y1,y2,y3,y4,y5,y6⟩:=aS HY.out;obtain ⟨z0,z1,z2,z3,z4,z5⟩:=aR HZ.out;by_cases hlt:k<1
  next=>
   have hlt2:k<t.targets.length:=by rw [HTN.out];exact hlt
   have hd:=cS hlt2;obtain ⟨b5,o5,rfl,hb5,hx⟩:=HTG.out.sl.at_ hlt2;obtain ⟨x,hxx⟩:∃x,t.targets[k]=x:=⟨_,rfl⟩;rw [hxx] at hd hx;have x0:wr.cell? ⟨b5,o5+k,none⟩=some (.int .i64 x):=cJ HB.out (by simpa [RInt] using hx);by_cases hin:0<=x/\x<(b.blocks.length:Int)
   ·have HF2:Hid (R=if (t.targets.drop (k+1)).all (fun k=>decide (0<=k/\k<(b.blocks.length:Int)))=true then Q else 3):=aF (by rw [hr.out,hd,cB];simp [hin]);have e1:decide (x<0)=false:=by simp;omega
    have e2:decide ((b.blocks.length:Int)<=x)=false:=by simp;omega
    clear hd hx hxx hr hin;go_wp2_with fail
    go_quiet (fail)
    all_goals go_wp2_with fail
    go_roundw
    case rel=>exact ⟨k+1,by omega,by go_num,aF HY.out,aF HZ.out,aF (aG HB.out _),HF2⟩
    case measure=>simp [intOf];omega
   ·have HF2:Hid (R=3):=aF (by rw [hr.out,hd,cB];simp;intro h1 h2;exact absurd ⟨h1,h2⟩ hin);clear hd hx hxx hr;by_cases hx0:x<0
    ·have e1:decide (x<0)=true:=by simp;omega
     clear hin hx0;go_wp2_with fail
     go_quiet (fail)
     all_goals go_wp2_with fail
     go_ret;exact ⟨by rw [HF2.out];rfl,aG HB.out _⟩
    ·have e1:decide (x<0)=false:=by simp;omega
     have e2:decide ((b.blocks.length:Int)<=x)=true:=by simp;omega
     clear hin hx0;go_wp2_with fail
     go_quiet (fail)
     all_goals go_wp2_with fail
     go_ret;exact ⟨by rw [HF2.out];rfl,aG HB.out _⟩
  next=>
   have HR:Hid (R=Q):=aF (by rw [hr.out,bE (by rw [HTN.out];omega)];rfl);clear hr;have HOPS:Hid (R=if opsE b t.args []≠0 then opsE b t.args [] else 0):=aF (by rw [HR.out,<- HQ.out]);clear HR HQ;go_wp2_with fail
   clear hlt hk2;go_loopw [8] (fun v wr=>∃j:Nat,j<=0/\v = .int .i64 j/\Hid (aA (bdC b bh) wr w.heap.size)/\Hid (aA (tmL 0 1 A c B 0 d t C f { data:= #[] }) wr (w.heap.size+1))/\Hid (Below w.heap.size w wr)/\Hid (opsE b t.args []=opsE b (t.args.drop j) [])) (fun v _=>0 - (intOf v).toNat)
   case atStart=>exact ⟨0,by omega,rfl,aF HY.out,aF HZ.out,HB,aF rfl⟩
   case round=>
    clear HY HZ HB y0 y1 y2 y3 y4 y5 y6 z0 z1 z2 z3 z4 z5;obtain ⟨j,hj,rfl,HY,HZ,HB,hr⟩:=hrel;obtain ⟨y0,y1,y2,y3,y4,y5,y6⟩:=aS HY.out;obtain ⟨z0,z1,z2,z3,z4,z5⟩:=aR HZ.out;by_cases hlt:j<0
    next=>exact absurd hlt (by omega)
    next=>
     have hz0:opsE b t.args []=0:=(by rw [hr.out,bE (by rw [HN.out];omega),rT]);have HQ2:Hid (R=0):=aF (by rw [HOPS.out,aZ (by simp [hz0])]);clear hr hz0;go_wp2_with fail
     go_quiet (fail)
     all_goals go_wp2_with fail
     go_ret;exact ⟨by rw [HQ2.out];rfl,aG HB.out _⟩
theorem xFA {b:Bdy} {bh:BH} {w:World} (_H:Rk w b bh) (t:Trm) (A B C:Option Addr) (c d f:Nat) (ht:Slc 1 RInt w A c t.targets) (hl:Slc 4 ROp w B d t.args) (_hp:Slc 2 RPj w C f t.place.proj) (hk:t.kind=1) (hfd:fieldsT t=false):
 Calls Tryz.prog 56 #[.agg (bdC b bh).toArray,.agg (tmC t A c B d C f).toArray] w fun e' w'=>e' = .returned (.int .i64 (tmE b t))/\Below w.heap.size w w':=by
 have HZ:=aF (fun W=>xAF t.place C f W);have HF:Hid (tmE b t=2):=aF (by rw [tmE,aZ (by omega),bA hfd]);generalize tmE b t=R at HF ⊢;have hfd2:=hfd;unfold fieldsT at hfd2;rw [hk] at hfd2;simp only [reduceIte,Int.reduceEq] at hfd2;obtain ⟨n,hn⟩:∃n,t.targets.length=n:=⟨_,rfl⟩;obtain ⟨m,hm⟩:∃m,t.args.length=m:=⟨_,rfl⟩;obtain ⟨z,hzz⟩:∃z,zeroP t.place=z:=⟨_,rfl⟩;have hmb:m<=9223372036854775807:=by have h1:=hl.le;have h2:=hl.big;omega
 have hnb:n<=9223372036854775807:=by have h1:=ht.le;have h2:=ht.big;omega
 obtain ⟨u,hu⟩:∃u,decide (t.name.size=0)=u:=⟨_,rfl⟩;have hne:=nH t.name;rw [hu] at hne;try rw [hu] at hfd2
 rw [hn] at hfd2;try rw [hm] at hfd2
 try rw [hzz] at hfd2
 rw [hzz] at HZ;clear _H ht hl _hp hfd hzz;unfold bdC tmC;rw [hk,hn,hm];clear hk hn hm;by_cases hn:n=2
 case neg=>
  have e1:((n:Int) != 2)=true:=by simp;omega
  clear hfd2 hne HZ hu;go_enter Tryz.func56,Tryz.ntmps56
  go_wp2_with fail
  go_quiet (fail)
  all_goals go_wp2_with fail
  all_goals first
   | (exfalso;omega)
   | (go_ret;exact ⟨by rw [HF.out];rfl,by first | exact aG aH _ | exact aH⟩)
 subst hn;cases u
 case false=>
  clear hfd2 HZ hu;go_enter Tryz.func56,Tryz.ntmps56
  go_wp2_with fail
  go_quiet (fail)
  all_goals go_wp2_with fail
  all_goals first
   | (exfalso;omega)
   | (go_ret;exact ⟨by rw [HF.out];rfl,by first | exact aG aH _ | exact aH⟩)
 have hnm:t.name={ data:= #[] }:=by
  have h:=of_decide_eq_true hu;cases hh:t.name with
  | mk dd=>
    rw [hh] at h;exact congrArg ByteArray.mk (Array.eq_empty_of_size_eq_zero (show dd.size=0 from h))
 rw [hnm];clear hu hne hnm;cases z
 case false=>
  clear hfd2;go_enter Tryz.func56,Tryz.ntmps56
  go_wp2_with fail
  have hS:=xBJ w (bdC b bh) (tmL 1 2 A c B m d t C f { data:= #[] }) arT 28 61 157;refine cQ (S:=fun X=>aD w (bdC b bh) (tmL 1 2 A c B m d t C f { data:= #[] }) arT X) [0,1,2,3,4,5,6,7,8,9,10,11,12,13,14,15,16,17,18,19,20,21,22,23,24,25,26,27,28,29,30,31,32,33,34,35,36,37,38,39,40,41,42,43,44,45,46,47,48,49,50,51,52,53,54,55,56,57] (by kernel_rfl) ?_;(iterate 28 (refine cR (v:=?_) ?_ hS ?_;rotate_left;(next=>(rintro X ⟨hX,hY,hA,hZ⟩;obtain ⟨s0,s1,s2,s3,s4,s5⟩:=aR hY;have a0:=hA 1 _ rfl;(try simp only [aI]);go_simp;rfl));simp only [aM]));(refine cM (fun K1 hK1=>?_);simp only [aM];rw [bA (by rfl)];go_simp);refine (HZ.out _).mono ?_;rintro e' w1 ⟨rfl,hb⟩;replace hS:=bJ (cK hS.1 hb) (bJ (cK hS.2.1 hb) (bJ (cK hS.2.2.1 hb) (hS.2.2.2.trans (hb.mono hS.2.2.2.size))));have HS2:=aF hS;clear hb;refine hK1.out _ _ (fun _=>hS) ?_;clear hK1;(iterate 4 (refine cR (v:=?_) ?_ hS ?_;rotate_left;(next=>(rintro X ⟨hX,hY,hA,hZ⟩;obtain ⟨s0,s1,s2,s3,s4,s5⟩:=aR hY;have a0:=hA 1 _ rfl;(try simp only [aI]);go_simp;rfl));simp only [aM]));(iterate 9 (refine cU (v:=undef) (by kernel_rfl) (fun _ _ _ h=>h) (Or.inr ⟨by rfl,rfl⟩) hS ?_;simp only [aM]));(iterate 2 (refine cR (v:=?_) ?_ hS ?_;rotate_left;(next=>(rintro X ⟨hX,hY,hA,hZ⟩;obtain ⟨s0,s1,s2,s3,s4,s5⟩:=aR hY;have a0:=hA 1 _ rfl;(try simp only [aI]);go_simp;rfl));simp only [aM]));(iterate 13 (refine cU (v:=undef) (by kernel_rfl) (fun _ _ _ h=>h) (Or.inr ⟨by rfl,rfl⟩) hS ?_;simp only [aM]));((refine cR (v:=?_) ?_ hS ?_;rotate_left;(next=>(rintro X ⟨hX,hY,hA,hZ⟩;obtain ⟨s0,s1,s2,s3,s4,s5⟩:=aR hY;have a0:=hA 1 _ rfl;(try simp only [aI]);go_simp;rfl));simp only [aM]))
  refine cV ?_;clear hS;go_wp2_with fail
  all_goals first
   | (exfalso;omega)
   | (go_ret;exact ⟨by rw [HF.out];rfl,HS2.out.2.2.2⟩)
 have hm0:m≠1:=by simp at hfd2;omega
 have e3:((m:Int) != 1)=true:=by simp;omega
 clear hfd2;go_enter Tryz.func56,Tryz.ntmps56
 go_wp2_with fail
 have hS:=xBJ w (bdC b bh) (tmL 1 2 A c B m d t C f { data:= #[] }) arT 28 61 157;refine cQ (S:=fun X=>aD w (bdC b bh) (tmL 1 2 A c B m d t C f { data:= #[] }) arT X) [0,1,2,3,4,5,6,7,8,9,10,11,12,13,14,15,16,17,18,19,20,21,22,23,24,25,26,27,28,29,30,31,32,33,34,35,36,37,38,39,40,41,42,43,44,45,46,47,48,49,50,51,52,53,54,55,56,57] (by kernel_rfl) ?_;(iterate 28 (refine cR (v:=?_) ?_ hS ?_;rotate_left;(next=>(rintro X ⟨hX,hY,hA,hZ⟩;obtain ⟨s0,s1,s2,s3,s4,s5⟩:=aR hY;have a0:=hA 1 _ rfl;(try simp only [aI]);go_simp;rfl));simp only [aM]));(refine cM (fun K1 hK1=>?_);simp only [aM];rw [bA (by rfl)];go_simp);refine (HZ.out _).mono ?_;rintro e' w1 ⟨rfl,hb⟩;replace hS:=bJ (cK hS.1 hb) (bJ (cK hS.2.1 hb) (bJ (cK hS.2.2.1 hb) (hS.2.2.2.trans (hb.mono hS.2.2.2.size))));have HS2:=aF hS;clear hb;refine hK1.out _ _ (fun _=>hS) ?_;clear hK1;(iterate 8 (refine cR (v:=?_) ?_ hS ?_;rotate_left;(next=>(rintro X ⟨hX,hY,hA,hZ⟩;obtain ⟨s0,s1,s2,s3,s4,s5⟩:=aR hY;have a0:=hA 1 _ rfl;(try simp only [aI]);go_simp;rfl));simp only [aM]));(iterate 4 (refine cR (v:=?_) ?_ hS ?_;rotate_left;(next=>(rintro X ⟨hX,hY,hA,hZ⟩;obtain ⟨s0,s1,s2,s3,s4,s5⟩:=aR hY;have a0:=hA 1 _ rfl;(try simp only [aI]);go_simp;rfl));simp only [aM]));(iterate 3 (refine cR (v:=?_) ?_ hS ?_;rotate_left;(next=>(rintro X ⟨hX,hY,hA,hZ⟩;obtain ⟨s0,s1,s2,s3,s4,s5⟩:=aR hY;have a0:=hA 1 _ rfl;(try simp only [aI]);go_simp;rfl));simp only [aM]));(iterate 13 (refine cU (v:=undef) (by kernel_rfl) (fun _ _ _ h=>h) (Or.inr ⟨by rfl,rfl⟩) hS ?_;simp only [aM]));((refine cR (v:=?_) ?_ hS ?_;rotate_left;(next=>(rintro X ⟨hX,hY,hA,hZ⟩;obtain ⟨s0,s1,s2,s3,s4,s5⟩:=aR hY;have a0:=hA 1 _ rfl;(try simp only [aI]);go_simp;rfl));simp only [aM]))
 refine cV ?_;clear hS;go_wp2_with fail
 all_goals first
  | (exfalso;omega)
  | (go_ret;exact ⟨by rw [HF.out];rfl,HS2.out.2.2.2⟩)
end
end Go.Proofs.YtmknfbfppmkcfaaGreatDoor
