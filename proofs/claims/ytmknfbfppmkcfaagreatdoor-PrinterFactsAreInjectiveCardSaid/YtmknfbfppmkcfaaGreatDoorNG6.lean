/-
  PrinterFactsAreInjective: the texts that this claim has beyond those of PrinterPlaces. (part 6)
-/
import Derived.Test.YtmknfbfppmkcfaaGreatDoorNG5
import Derived.Lib.Hide
import Derived.Below
import Derived.WalkSmall
import Derived.Laws.World
import Derived.Test.YtmknfbfppmkcfaaGreatDoorProg
import Derived.WalkKit
import Derived.WalkSpells
import Derived.WalkLawsBesides
import Derived.Deep.RegionHeld3
import Derived.Deep.DeepFit
import Derived.Deep.QuietTactic
import Derived.BigQuiet
import Derived.OwnWalk
import Derived.Maps.AppendAt
import Derived.Deep.DeepCutAuto
import Derived.StillTailTactics
import Derived.Lib.ItoaNum
import Derived.Lib.Join
import Derived.RangeFuncNested
import Derived.RangeFuncBound
import Derived.RangeFuncCalls
import Derived.RangeFuncLeaves
import Derived.OwnWalkIn
import Derived.TacticsInMore
import Derived.LoopNIn
import Derived.LoopIn
import Derived.Lib.ItoaLen
import Derived.Laws.IdiomStrings
import Derived.Shelf.Abstract
import Derived.OrdersHeld
import Derived.Deep.RegionHeld
import Derived.Test.YtmknfbfppmkcfaaGreatDoorSg
import Derived.Maps.OwnSet
import Derived.Maps.OwnOps
import Derived.StringKeys
import Derived.Deep.MidRow
import Derived.Deep.LoopGhost
import Derived.WideKeyPair
import Derived.WideKeyArr
import Derived.Test.YtmknfbfppmkcfaaGreatDoorSj
import Derived.Lib.AppendIntMem
import Derived.Test.YtmknfbfppmkcfaaGreatDoorSh
import Derived.RangeFuncBox
import Derived.Lib.AppendStr
import Derived.Lib.Builder
import Derived.WalkMore
import Derived.ChangeKeysEq
import Derived.Deep.CutBlock
import Derived.Test.YtmknfbfppmkcfaaGreatDoorRows
import Derived.ProofKit
import Derived.Deep.Slices
import Derived.Deep.Fields
import Derived.Lib.SmallJoins
import Derived.OpenShut
import Derived.LaidMore
import Derived.Stop.Joined
import Derived.Stop.LaidErr
import Derived.Lay
import Derived.SevenTiedAt
import Derived.Lib.LaidTab
import Derived.Test.YtmknfbfppmkcfaaGreatDoorTie
import Derived.Test.YtmknfbfppmkcfaaGreatDoorCards
import Derived.JoinedOf
import Derived.SizedLaws
namespace Go.Proofs.YtmknfbfppmkcfaaGreatDoor
set_option maxRecDepth 100000
set_option maxHeartbeats 16000000
section
open Go Go.RowKit
theorem xGD:(Tryz.prog.info? 9).map (fun i=>(i.zero,i.size,i.bytes))=some (some (.string { data:= #[] }),1,16):=by kernel_rfl
def dR6 (b:Bdy):Int:=if b.blocks.length=0\/65535<b.blocks.length then 15 else 0
def dR5 (b:Bdy):Int:=if b.args<0\/(b.locals.length:Int)<b.args then 3 else dR6 b
def dR4 (b:Bdy):Int:=if 65535<b.locals.length then 15 else if localsE b.types.length [] b.locals=0 then dR5 b else localsE b.types.length [] b.locals
def dR3 (b:Bdy):Int:=if typesC b.regions.length b.types=0 then dR4 b else typesC b.regions.length b.types
def dR2 (b:Bdy):Int:=if pairsC b.regions.length b.outl=0 then dR3 b else pairsC b.regions.length b.outl
theorem xIH (b:Bdy):dR4 b=if localsC b=0 then dR6 b else localsC b:=by
 unfold dR4 dR5 localsC;by_cases h1:65535<b.locals.length
 ·simp [h1]
 ·rw [aZ h1,aZ h1];by_cases h2:localsE b.types.length [] b.locals=0
  ·rw [bA h2,bA h2];by_cases h3:b.args<0\/(b.locals.length:Int)<b.args
   ·simp [h3]
   ·simp [h3]
  ·rw [aZ h2,aZ h2,aZ h2]
theorem xFO (b:Bdy):declC b=if isIdent b.name=false then 12 else if namesC b.regions=0 then dR2 b else namesC b.regions:=by
 unfold declC;by_cases h0:isIdent b.name=false
 ·rw [bA h0,bA h0]
 rw [aZ h0,aZ h0];obtain ⟨q,hq⟩:∃q,firstE [namesC b.regions,pairsC b.regions.length b.outl,typesC b.regions.length b.types,localsC b]=q:=⟨_,rfl⟩;rw [hq];simp only [firstE] at hq;subst hq;by_cases h1:namesC b.regions=0
 ·rw [bA h1,bA h1];unfold dR2;by_cases h2:pairsC b.regions.length b.outl=0
  ·rw [bA h2,bA h2];unfold dR3;by_cases h3:typesC b.regions.length b.types=0
   ·rw [bA h3,bA h3,xIH];unfold dR6;by_cases h4:localsC b=0
    ·simp [h4]
    ·simp [h4]
   ·simp [h3]
  ·simp [h2]
 ·simp [h1]
theorem xEP (s:ByteArray) (l:List ByteArray):memN s l.reverse=memN s l:=by
 simp [memN]
theorem xFY (b:Bdy) (bh:BH) (w:World) (H:BdAt w b bh) (hz:NmOk b):
 Calls Tryz.prog 54 #[.agg (bdC b bh).toArray] w fun e' w'=>e' = .returned (.int .i64 (declC b))/\Below w.heap.size w w':=by
 obtain ⟨A1,c1,A2,c2,A3,c3,A4,c4,A5,c5⟩:=bh;obtain ⟨iS,iS0,iS1,iS2,iS3⟩:=info_parts xGD;have HH:=aF H;have HZ:=aF hz;have r1:=H.reg.le;have r2:=H.reg.big;have l1:=H.loc.le;have l2:=H.loc.big;have t1:=H.typ.le;have t2:=H.typ.big;have b1:=H.blk.le;have b2:=H.blk.big;simp only at r1 r2 l1 l2 t1 t2 b1 b2;obtain ⟨R,hR⟩:∃R,declC b=R:=⟨_,rfl⟩;rw [hR];rw [xFO] at hR;have HR:=aF hR.symm;have HI:=aF (fun W=>xBX b.name W hz.name);clear hR H hz;unfold bdC;simp only;have HCW:=aF (cP w [Value.string b.name,.slice A1 b.regions.length c1,.slice A2 b.outl.length c2,.slice A3 b.types.length c3,.slice A4 b.locals.length c4,.int .i64 b.args,.slice A5 b.blocks.length c5] 28);have HBW:=aF ((aX w.heap.size w).alloc (aY _) (.cells ([Value.string b.name,.slice A1 b.regions.length c1,.slice A2 b.outl.length c2,.slice A3 b.types.length c3,.slice A4 b.locals.length c4,.int .i64 b.args,.slice A5 b.blocks.length c5]).toArray 28));have HSZ:w.heap.size<(w.alloc (.cells ([Value.string b.name,.slice A1 b.regions.length c1,.slice A2 b.outl.length c2,.slice A3 b.types.length c3,.slice A4 b.locals.length c4,.int .i64 b.args,.slice A5 b.blocks.length c5]).toArray 28)).heap.size:=by simp
 cases hid:isIdent b.name
 ·rw [hid] at HI HR;have HF:Hid (R=12):=aF HR.out;clear hid HR;go_enter Tryz.func54,Tryz.ntmps54
  go_wp2_with (go_at_call 92;refine (HI.out _).mono ?_;rintro e' w9 ⟨rfl,hw⟩;obtain rfl:=hw.symm)
  go_ret;exact ⟨by rw [HF.out];rfl,HBW.out⟩
 rw [hid] at HI HR;have HQ:Hid (R=if namesC b.regions=0 then dR2 b else namesC b.regions):=aF HR.out;clear hid HR;by_cases hrl:65535<b.regions.length
 ·have HF:Hid (R=15):=aF (by rw [HQ.out];unfold namesC;simp [hrl]);clear HQ;go_enter Tryz.func54,Tryz.ntmps54
  go_wp2_with (go_at_call 92;refine (HI.out _).mono ?_;rintro e' w9 ⟨rfl,hw⟩;obtain rfl:=hw.symm)
  go_ret;exact ⟨by rw [HF.out];rfl,HBW.out⟩
 have HQ2:Hid (R=if namesE (b.regions.take 0).reverse (b.regions.drop 0)=0 then dR2 b else namesE (b.regions.take 0).reverse (b.regions.drop 0)):=aF (by
  rw [HQ.out];unfold namesC;rw [aZ hrl];rfl)
 clear HQ;go_enter Tryz.func54,Tryz.ntmps54
 go_wp2_with (go_at_call 92;refine (HI.out _).mono ?_;rintro e' w9 ⟨rfl,hw⟩;obtain rfl:=hw.symm)
 clear HI;go_loopw [3] (fun v wr=>∃k:Nat,k<=b.regions.length/\v = .int .i64 k/\Hid (aA (bdM b A1 c1 A2 c2 A3 c3 A4 c4 A5 c5 []) wr w.heap.size)/\Hid (Below w.heap.size w wr)/\w.heap.size<wr.heap.size/\Hid (R=if namesE (b.regions.take k).reverse (b.regions.drop k)=0 then dR2 b else namesE (b.regions.take k).reverse (b.regions.drop k))) (fun v _=>b.regions.length - (intOf v).toNat)
 case atStart=>exact ⟨0,by omega,rfl,HCW,HBW,HSZ,HQ2⟩
 case round=>
  clear HCW HBW HSZ HQ2;obtain ⟨k,hk,rfl,HCC,HB,hsz,hr⟩:=hrel;obtain ⟨y0,y1,y2,y3,y4,y5,y6⟩:=aS HCC.out;by_cases hlt:k<b.regions.length
  ·obtain ⟨b3,o3,hA1,hb3,hx⟩:=HH.out.reg.sl.at_ hlt;simp only at hA1;subst hA1;have hd:=cS hlt;have hss:=HZ.out.regs _ (bN hlt);have htk:b.regions.take (k+1)=b.regions.take k ++ [b.regions[k]]:=bF hlt;obtain ⟨s,hsx⟩:∃s,b.regions[k]=s:=⟨_,rfl⟩;rw [hsx] at hx hd hss htk;have P0:=aF (show w.cell? ⟨b3,o3+k,none⟩=some (.string s) by simpa [RN] using hx);have x0:=cJ HB.out P0.out;have HIS:=aF (fun W=>xBX s W hss)
   have HN:Hid (R=if isIdent s=false then 12 else if memN s (b.regions.take k)=true then 21 else if namesE (b.regions.take (k+1)).reverse (b.regions.drop (k+1))=0 then dR2 b else namesE (b.regions.take (k+1)).reverse (b.regions.drop (k+1))):=aF (by
    rw [hr.out,hd,namesE,xEP,htk,List.reverse_append,List.reverse_singleton,List.singleton_append];by_cases h1:isIdent s=false
    ·simp [h1]
    ·rw [aZ h1,aZ h1];by_cases h2:memN s (b.regions.take k)=true
     ·simp [h2]
     ·rw [aZ h2,aZ h2])
   clear hx hd htk hsx hr;cases hid:isIdent s
   ·rw [hid] at HIS HN;have HF:Hid (R=12):=aF HN.out;clear hid HN;go_wp2_with (go_at_call 92;refine (HIS.out _).mono ?_;rintro e' w9 ⟨rfl,hw⟩;obtain rfl:=hw.symm)
    go_ret;exact ⟨by rw [HF.out];rfl,HB.out⟩
   rw [hid] at HIS HN;have HX:=aF (fun W (hb:Below w.heap.size w W)=>xDS (b.regions.take k) s (some ⟨b3,o3,none⟩) c1 W ((HH.out.reg.takeN k).keep RN.keeps hb));rw [List.length_take,Nat.min_eq_left hk] at HX
   have HCUT:Hid (∀W,(Instr.slice 22 (.slice (some ⟨b3,o3,none⟩) b.regions.length c1) none (some (.int .i64 (k:Int))) none).run Tryz.prog W = .ok (.slice (some ⟨b3,o3,none⟩) k c1) W):=aF (fun W=>by
    have:=uS (P:=Tryz.prog) 22 9 (some ⟨b3,o3,none⟩) b.regions.length c1 k 1 Tryz.underlying22 Tryz.sizeOf9 (by omega) r1 W
    simpa [cutA,Addr.add] using this)
   have HNG:=xDH s 0 (b.regions.take k)
   have HN2:Hid ((0<=idxN s 0 (b.regions.take k)->R=21)/\(¬0<=idxN s 0 (b.regions.take k)->R=if namesE (b.regions.take (k+1)).reverse (b.regions.drop (k+1))=0 then dR2 b else namesE (b.regions.take (k+1)).reverse (b.regions.drop (k+1)))):=aF (by
    have h:=HN.out;simp only [Bool.true_eq_false,if_false] at h;constructor
    ·intro h1;rw [h,bA (HNG.1 h1)]
    ·intro h1
     rw [h,aZ (fun hc=>h1 (HNG.2 hc))])
   generalize idxN s 0 (b.regions.take k)=q at HX HN2;clear hid HN HNG;go_wp2_with (go_at_call 92;refine (HIS.out _).mono ?_;rintro e' w9 ⟨rfl,hw⟩;obtain rfl:=hw.symm)
   clear y0 y1 y2 y3 y4 y5 y6;clear x0;have hS:(aA (bdM b (some ⟨b3,o3,none⟩) c1 A2 c2 A3 c3 A4 c4 A5 c5 []) wr.drew w.heap.size)/\Below w.heap.size w wr.drew:=⟨HCC.out,HB.out.drew⟩;refine cQ (S:=fun X=>(aA (bdM b (some ⟨b3,o3,none⟩) c1 A2 c2 A3 c3 A4 c4 A5 c5 []) X w.heap.size)/\Below w.heap.size w X) [0,1,2,3,4,5,6,7,8,9,10] (by kernel_rfl) ?_;(iterate 3 (refine cR (v:=?_) ?_ hS ?_;rotate_left;(next=>(rintro X ⟨hX,hZ⟩;obtain ⟨s0,s1,s2,s3,s4,s5,s6⟩:=aS hX;have x0:=cJ hZ P0.out;(try simp only [aI]);go_simp;rfl));simp only [aM]));refine cU (v:= .slice (some ⟨b3,o3,none⟩) k c1) (by kernel_rfl) (fun _ _ _ h=>h) (Or.inl ⟨by rfl,?_⟩) hS ?_
   next=>
    rintro X ⟨hX,hZ⟩;(try simp only [aI]);have hcut:=HCUT.out X;go_simp
   (simp only [aM]);(iterate 5 (refine cR (v:=?_) ?_ hS ?_;rotate_left;(next=>(rintro X ⟨hX,hZ⟩;obtain ⟨s0,s1,s2,s3,s4,s5,s6⟩:=aS hX;have x0:=cJ hZ P0.out;(try simp only [aI]);go_simp;rfl));simp only [aM]));(refine cM (fun K1 hK1=>?_);simp only [aM];rw [bA (by rfl)];go_simp);refine (HX.out _ hS.2).mono ?_;rintro e' w2 ⟨rfl,hw⟩;obtain rfl:=hw.symm;refine hK1.out _ _ (fun _=>hS) ?_;clear hK1;((refine cR (v:=?_) ?_ hS ?_;rotate_left;(next=>(rintro X -;(try simp only [aI]);go_simp;rfl));simp only [aM]))
   refine cV ?_;have HC2:=aF hS.1;have HB2:=aF hS.2;have hsz2:w.heap.size<wr.drew.heap.size:=hsz;clear hS;by_cases hq:0<=q
   ·have HF:=aF (HN2.out.1 hq);have e1:decide (0<=q)=true:=(by simp [hq]);clear HN2;go_wp2_with fail
    all_goals first
     | (exfalso;omega)
     | (go_ret;exact ⟨by rw [HF.out];rfl,HB2.out⟩)
   ·have HF:=aF (HN2.out.2 (by omega));have e1:decide (0<=q)=false:=(by simp [hq]);clear HN2;go_wp2_with fail
    all_goals try (exfalso;omega)
    go_roundw
    case rel=>exact ⟨k+1,by omega,by go_num,HC2,HB2,hsz2,HF⟩
    case measure=>simp [intOf];omega
  ·have HR2:Hid (R=dR2 b):=aF (by rw [hr.out,bE (by omega:b.regions.length<=k)];rfl);have HP:=aF (fun W (hb:Below w.heap.size w W)=>xFC b.outl (b.regions.length:Int) A2 c2 W (HH.out.keep hb).out);have HT:=aF (fun W (hb:Below w.heap.size w W)=>xCQ b.types (b.regions.length:Int) A3 c3 W (HH.out.keep hb).typ);unfold dR2 dR3 at HR2;obtain ⟨q4,hq4⟩:∃q4,dR4 b=q4:=⟨_,rfl⟩;rw [hq4] at HR2;have HQ4:=aF hq4;generalize pairsC (b.regions.length:Int) b.outl=q2 at HP HR2;generalize typesC (b.regions.length:Int) b.types=q3 at HT HR2;clear hr hq4;by_cases h2:q2=0
   case neg=>
    have HF:Hid (R=q2):=aF (by rw [HR2.out,aZ h2]);have e1:(q2 != 0)=true:=by simp [h2]
    clear HR2 h2;go_wp2_with (go_at_call 94;refine (HP.out _ HB.out).mono ?_;rintro e' w9 ⟨rfl,hw⟩;obtain rfl:=hw.symm)
    go_ret;exact ⟨by rw [HF.out];rfl,HB.out⟩
   subst h2;by_cases h3:q3=0
   case neg=>
    have HF:Hid (R=q3):=aF (by rw [HR2.out,bA rfl,aZ h3]);have e1:(q3 != 0)=true:=by simp [h3]
    clear HR2 h3;go_wp2_with (first | (go_at_call 25;refine (HT.out _ HB.out).mono ?_;rintro e' w2 ⟨rfl,hb2⟩;have HB2:=aF (HB.out.trans (hb2.mono HB.out.size));clear hb2) | (go_at_call 94;refine (HP.out _ HB.out).mono ?_;rintro e' w9 ⟨rfl,hw⟩;obtain rfl:=hw.symm))
    go_ret;exact ⟨by rw [HF.out];rfl,HB2.out⟩
   subst h3;have HR4:Hid (R=q4):=aF (by rw [HR2.out];rfl);clear HR2;by_cases hll:65535<b.locals.length
   ·have HF:Hid (R=15):=aF (by rw [HR4.out,<- HQ4.out,dR4,bA hll]);clear HR4 HQ4;go_wp2_with (first | (go_at_call 25;refine (HT.out _ HB.out).mono ?_;rintro e' w2 ⟨rfl,hb2⟩;have HB2:=aF (HB.out.trans (hb2.mono HB.out.size));have HC2:=aF (cK HCC.out hb2);have hsz2:=bO hsz hb2.size;clear hb2 y0 y1 y2 y3 y4 y5 y6;have y4:=HC2.out 4 _ rfl) | (go_at_call 94;refine (HP.out _ HB.out).mono ?_;rintro e' w9 ⟨rfl,hw⟩;obtain rfl:=hw.symm))
    all_goals first
     | (exfalso;omega)
     | (go_ret;exact ⟨by rw [HF.out];rfl,HB2.out⟩)
   have HRL:Hid (R=if localsE b.types.length (((b.locals.take 0).map (·.name)).reverse) (b.locals.drop 0)=0 then dR5 b else localsE b.types.length (((b.locals.take 0).map (·.name)).reverse) (b.locals.drop 0)):=aF (by rw [HR4.out,<- HQ4.out,dR4,aZ hll];rfl);clear HR4 HQ4;go_wp2_with (first | (go_at_call 25;refine (HT.out _ HB.out).mono ?_;rintro e' w2 ⟨rfl,hb2⟩;have HB2:=aF (HB.out.trans (hb2.mono HB.out.size));have HC2:=aF (cK HCC.out hb2);have hsz2:=bO hsz hb2.size;clear hb2 y0 y1 y2 y3 y4 y5 y6;have y4:=HC2.out 4 _ rfl) | (go_at_call 94;refine (HP.out _ HB.out).mono ?_;rintro e' w9 ⟨rfl,hw⟩;obtain rfl:=hw.symm))
   all_goals try (exfalso;omega)
   clear y4 HB HCC hsz;go_loopw [5,6] (fun v i wr=>∃k:Nat,k<=b.locals.length/\i = .int .i64 k/\Hid (aA (bdM b A1 c1 A2 c2 A3 c3 A4 c4 A5 c5 []) wr w.heap.size)/\Hid (Below w.heap.size w wr)/\w.heap.size<wr.heap.size/\Hid (wr.ownsRow (w.heap.size+1) 9 1 v k (((b.locals.take k).map (·.name)).map Value.string))/\Hid (R=if localsE b.types.length (((b.locals.take k).map (·.name)).reverse) (b.locals.drop k)=0 then dR5 b else localsE b.types.length (((b.locals.take k).map (·.name)).reverse) (b.locals.drop k))) (fun _ i _=>b.locals.length - (intOf i).toNat)
   case atStart=>exact ⟨0,by omega,rfl,HC2,HB2,hsz2,aF (World.ownsRow_nil _ _ _ _),HRL⟩
   case round=>
    clear HC2 HB2 hsz2 HRL;obtain ⟨k,hk,rfl,HCC,HB,hsz,HO,hr⟩:=hrel;have hxl:((b.locals.take k).map (·.name)).length=k:=by simp;omega
    obtain ⟨B',d',hv,hsl,-⟩:=xG (R:=RN) (fun w B b o x h=>h) HO.out hxl;subst hv;have HSL:=aF hsl;clear hsl;have y4:=HCC.out 4 _ rfl;have y3:=HCC.out 3 _ rfl;by_cases hlt:k<b.locals.length
    ·obtain ⟨b3,o3,hA4,hb3,hx⟩:=HH.out.loc.sl.at_ hlt;simp only at hA4;subst hA4;have hd:=cS hlt;have hss:=HZ.out.locs _ (bN hlt);have htk:b.locals.take (k+1)=b.locals.take k ++ [b.locals[k]]:=bF hlt;obtain ⟨s,hsx⟩:∃s,b.locals[k]=s:=⟨_,rfl⟩;rw [hsx] at hx hd hss htk;obtain ⟨h0,h1⟩:=hx;have P0:=aF h0;have P1:=aF h1;have x0:=cJ HB.out P0.out;have x1:=cJ HB.out P1.out;have HIS:=aF (fun W=>xBX s.name W hss);have HIX:=aF (xDS _ s.name B' d' wr HSL.out);rw [hxl] at HIX;have HNG:=xDH s.name 0 ((b.locals.take k).map (·.name))
     have HN:Hid (R=if isIdent s.name=false then 12 else if 0<=idxN s.name 0 ((b.locals.take k).map (·.name)) then 21 else if s.type<0\/(b.types.length:Int)<=s.type then 3 else if localsE b.types.length (((b.locals.take (k+1)).map (·.name)).reverse) (b.locals.drop (k+1))=0 then dR5 b else localsE b.types.length (((b.locals.take (k+1)).map (·.name)).reverse) (b.locals.drop (k+1))):=aF (by
      rw [hr.out,hd,localsE,xEP,htk,bU,xAC,List.map_nil,List.reverse_append,List.reverse_singleton,List.singleton_append];by_cases h1:isIdent s.name=false
      ·simp [h1]
      ·rw [aZ h1,aZ h1];by_cases h2:memN s.name ((b.locals.take k).map (·.name))=true
       ·rw [bA h2,bA (HNG.2 h2)];rfl
       ·rw [aZ h2,aZ (fun hc=>h2 (HNG.1 hc))];by_cases h3:s.type<0\/(b.types.length:Int)<=s.type
        ·rw [bA h3,bA h3];rfl
        ·rw [aZ h3,aZ h3])
     have HTK:Hid ((((b.locals.take (k+1)).map (·.name)).map Value.string)=(((b.locals.take k).map (·.name)).map Value.string) ++ [Value.string s.name]):=aF (by rw [htk];simp);generalize idxN s.name 0 ((b.locals.take k).map (·.name))=q at HIX HN;clear h0 h1 hd htk hsx hr HNG hss;cases hid:isIdent s.name
     ·rw [hid] at HIS HN;have HF:Hid (R=12):=aF HN.out;clear hid HN;go_wp2_with (go_at_call 92;refine (HIS.out _).mono ?_;rintro e' w9 ⟨rfl,hw⟩;obtain rfl:=hw.symm)
      go_ret;exact ⟨by rw [HF.out];rfl,HB.out⟩
     rw [hid] at HIS HN;by_cases hq:0<=q
     ·have HF:Hid (R=21):=aF (by rw [HN.out,aZ (by simp),bA hq]);have e1:decide (0<=q)=true:=(by simp [hq]);clear hid HN;go_wp2_with (first | (go_at_call 93;refine HIX.out.mono ?_;rintro e' w9 ⟨rfl,hw⟩;obtain rfl:=hw.symm) | (go_at_call 92;refine (HIS.out _).mono ?_;rintro e' w9 ⟨rfl,hw⟩;obtain rfl:=hw.symm))
      all_goals first
       | (exfalso;omega)
       | (go_ret;exact ⟨by rw [HF.out];rfl,HB.out⟩)
     have e1:decide (0<=q)=false:=by simp;omega
     by_cases ht:s.type<0\/(b.types.length:Int)<=s.type
     ·have HF:Hid (R=3):=aF (by rw [HN.out,aZ (by simp),aZ hq,bA ht]);clear hid HN;by_cases ht0:s.type<0
      ·have e2:decide (s.type<0)=true:=(by simp [ht0]);clear ht;go_wp2_with (first | (go_at_call 93;refine HIX.out.mono ?_;rintro e' w9 ⟨rfl,hw⟩;obtain rfl:=hw.symm) | (go_at_call 92;refine (HIS.out _).mono ?_;rintro e' w9 ⟨rfl,hw⟩;obtain rfl:=hw.symm))
       all_goals try (exfalso;omega)
       go_quiet (fail)
       all_goals go_wp2_with fail
       all_goals first
        | (exfalso;omega)
        | (go_ret;exact ⟨by rw [HF.out];rfl,aG HB.out _⟩)
      ·have e2:decide (s.type<0)=false:=by simp;omega
       have e3:decide ((b.types.length:Int)<=s.type)=true:=by simp;omega
       clear ht;go_wp2_with (first | (go_at_call 93;refine HIX.out.mono ?_;rintro e' w9 ⟨rfl,hw⟩;obtain rfl:=hw.symm) | (go_at_call 92;refine (HIS.out _).mono ?_;rintro e' w9 ⟨rfl,hw⟩;obtain rfl:=hw.symm))
       all_goals try (exfalso;omega)
       go_quiet (fail)
       all_goals go_wp2_with fail
       all_goals first
        | (exfalso;omega)
        | (go_ret;exact ⟨by rw [HF.out];rfl,aG HB.out _⟩)
     ·have HF:=aF (show R=_ by rw [HN.out,aZ (by simp),aZ hq,aZ ht]);have e2:decide (s.type<0)=false:=by simp;omega
      have e3:decide ((b.types.length:Int)<=s.type)=false:=by simp;omega
      clear hid HN ht;go_wp2_with (first | (go_at_call 93;refine HIX.out.mono ?_;rintro e' w9 ⟨rfl,hw⟩;obtain rfl:=hw.symm) | (go_at_call 92;refine (HIS.out _).mono ?_;rintro e' w9 ⟨rfl,hw⟩;obtain rfl:=hw.symm))
      all_goals try (exfalso;omega)
      go_quiet (fail)
      obtain ⟨W,hW⟩:∃W,wr.drewN nq=W:=⟨_,rfl⟩;have HB2:Hid (Below w.heap.size w W):=aF (by rw [<- hW];exact aG HB.out _);have HO2:Hid (W.ownsRow (w.heap.size+1) 9 1 (.slice B' k d') k (((b.locals.take k).map (·.name)).map Value.string)):=aF (by rw [<- hW];exact HO.out);have HC2:Hid (aA (bdM b A1 c1 A2 c2 A3 c3 (some ⟨b3,o3,none⟩) c4 A5 c5 []) W w.heap.size):=aF (by rw [<- hW];exact HCC.out);have hsz2:w.heap.size<W.heap.size:=by rw [<- hW];exact hsz
      rw [hW];clear hW HO HB HCC y3 y4 x0 x1 hsz;have y4:=HC2.out 4 _ rfl;have x0:=cJ HB2.out P0.out;obtain ⟨L,hL⟩:∃L,((b.locals.take k).map (·.name)).map Value.string=L:=⟨_,rfl⟩;rw [hL] at HO2 HTK;clear hL;have hown2:=HO2.out.alloc (.cells #[.string s.name] 9);go_wp2_with (at_builtin;refine wpList_append_own _ rfl _ _ 22 rfl (w.heap.size+1) 9 iS (.string { data:= #[] }) 1 16 Tryz.underlying22 iS0 iS1 iS2 iS3 rfl (by decide) _ _ _ rfl hown2 ⟨W.heap.size,0,none⟩ 1 1 [.string s.name] rfl rfl (xIN _ _) (xIM _) (by unfold maxLen;omega) (by omega) (by simp;omega) ?_)
      intro v' w2 hown' hgrow _;have HO3:Hid (w2.ownsRow (w.heap.size+1) 9 1 v' (k+1) (((b.locals.take (k+1)).map (·.name)).map Value.string)):=aF (by rw [HTK.out];exact hown');have hb3':Below (w.heap.size+1) W w2:=((aX _ _).alloc (by omega) _).grown hgrow (by simp;omega) (fun g hg=>(hown2.lt g hg).1);have HC3:Hid (aA (bdM b A1 c1 A2 c2 A3 c3 (some ⟨b3,o3,none⟩) c4 A5 c5 []) w2 w.heap.size):=aF (fun i v hi=>(hb3'.cell (p:=⟨w.heap.size,i,none⟩) (by simp)).trans (HC2.out i v hi));have HB3:Hid (Below w.heap.size w w2):=aF (HB2.out.trans (hb3'.mono (by omega)));have hsz3:w.heap.size<w2.heap.size:=bO hsz2 hb3'.size;clear hown' hgrow hown2 hb3' y4 x0;go_wp2_with fail
      go_roundw
      case rel=>exact ⟨k+1,by omega,by go_num,HC3,HB3,hsz3,HO3,HF⟩
      case measure=>simp [intOf];omega
    ·have HR5:Hid (R=dR5 b):=aF (by rw [hr.out,bE (by omega:b.locals.length<=k)];rfl);obtain ⟨-,-,-,-,-,y5,y6⟩:=aS HCC.out;clear hr HO HSL hxl;by_cases ha:b.args<0\/(b.locals.length:Int)<b.args
     ·have HF:Hid (R=3):=aF (by rw [HR5.out,dR5,bA ha]);clear HR5;go_wp2_with fail
      all_goals first
       | (exfalso;omega)
       | (go_ret;exact ⟨by rw [HF.out];rfl,HB.out⟩)
     have HR6:Hid (R=dR6 b):=aF (by rw [HR5.out,dR5,aZ ha]);clear HR5;unfold dR6 at HR6;obtain ⟨nb,hnb⟩:∃n,b.blocks.length=n:=⟨_,rfl⟩;rw [hnb] at HR6 y6 b1;clear hnb;by_cases hb0:nb=0
     ·subst hb0;have HF:Hid (R=15):=aF (by rw [HR6.out];rfl);clear HR6;go_wp2_with fail
      all_goals first
       | (exfalso;omega)
       | (go_ret;exact ⟨by rw [HF.out];rfl,HB.out⟩)
     have e1:((nb:Int) == 0)=false:=by simp;omega
     by_cases hb:65535<nb
     ·have HF:Hid (R=15):=aF (by rw [HR6.out,bA (.inr hb)]);clear HR6;go_wp2_with fail
      all_goals first
       | (exfalso;omega)
       | (go_ret;exact ⟨by rw [HF.out];rfl,HB.out⟩)
     ·have HF:Hid (R=0):=aF (by rw [HR6.out,aZ (by omega)]);clear HR6;go_wp2_with fail
      all_goals first
       | (exfalso;omega)
       | (go_ret;exact ⟨by rw [HF.out];rfl,HB.out⟩)
end
section
open Go Go.RowKit Go.Maps
theorem xEE (b:Bdy) (bh:BH) (w:World) (H:BdAt w b bh) (hz:∀x∈b.blocks,x.term.name.size<=9223372036854775807)
 (hdecl:∀W,Below w.heap.size w W->Calls Tryz.prog 54 #[.agg (bdC b bh).toArray] W fun e' w'=>e' = .returned (.int .i64 (declC b))/\Below W.heap.size W w')
 (hstm:declC b=0->∀W,Below w.heap.size w W->∀(s:Stm) (A0 A B:Option Addr) (c0 c d:Nat),Slc 2 RPj w A0 c0 s.place.proj->Slc 2 RPj w A c s.rv.place.proj->Slc 4 ROp w B d s.rv.args->
   Calls Tryz.prog 55 #[.agg (bdC b bh).toArray,.agg (stC s A0 c0 A c B d).toArray] W fun e' w'=>e' = .returned (.int .i64 (stE b s))/\Below W.heap.size W w')
 (htm:declC b=0->∀W,Below w.heap.size w W->∀(t:Trm) (A B C:Option Addr) (c d f:Nat),Slc 1 RInt w A c t.targets->Slc 4 ROp w B d t.args->Slc 2 RPj w C f t.place.proj->t.name.size<=9223372036854775807->
   Calls Tryz.prog 56 #[.agg (bdC b bh).toArray,.agg (tmC t A c B d C f).toArray] W fun e' w'=>e' = .returned (.int .i64 (tmE b t))/\Below W.heap.size W w'):
 Calls Tryz.prog 17 #[.agg (bdC b bh).toArray] w fun e' w'=>e' = .returned (.int .i64 (chkB b))/\Below w.heap.size w w':=by
 have HZ:=aF hz;have HD:=aF hdecl;have HST:=aF hstm;have HTM:=aF htm;have HBLK:=aF H.blk;have hbl:=H.blk.le;have hbg:=H.blk.big;obtain ⟨R,hR⟩:∃R,chkB b=R:=⟨_,rfl⟩;rw [hR];have HR:Hid (R=if declC b=0 then bksE b b.blocks else declC b):=aF hR.symm;have HNB:=aF (fun h=>(eK (b:=b) h).nblk.1);clear hR H hdecl hstm htm hz;unfold bdC at *;by_cases hd:declC b=0
 case neg=>
  have HF:Hid (R=declC b):=aF (by rw [HR.out,aZ hd]);generalize declC b=de at HD HF hd;have e1:(de != 0)=true:=by simp [hd]
  clear HR HST HTM HNB hd;go_enter Tryz.func17,Tryz.ntmps17
  go_wp2_with (go_at_call 54;refine (HD.out _ ((aX _ _).alloc (aY _) _)).mono ?_;rintro e' w1 ⟨rfl,hb1⟩;have HB:=aF (((aX _ _).alloc (aY _) _).trans (hb1.mono ((aX _ _).alloc (aY _) _).size));clear hb1)
  go_ret;exact ⟨by rw [HF.out];rfl,HB.out⟩
 case pos=>
 have HF:Hid (R=bksE b b.blocks):=aF (by rw [HR.out,bA hd]);have HSM:=aF (HST.out hd);have HTT0:=aF (HTM.out hd);obtain ⟨bb,oo,hA5,hbb,hel⟩:=HBLK.out.sl (HNB.out hd);have HEL:=aF hel;rw [hd] at HD;clear HR HST HTM HNB hd hel;rw [hA5] at HD HSM HTT0 ⊢;have HCW:=aF (cP w [Value.string b.name,.slice bh.A1 b.regions.length bh.c1,.slice bh.A2 b.outl.length bh.c2,.slice bh.A3 b.types.length bh.c3,.slice bh.A4 b.locals.length bh.c4,.int .i64 b.args,.slice (some ⟨bb,oo,none⟩) b.blocks.length bh.c5] 28);go_enter Tryz.func17,Tryz.ntmps17
 go_wp2_with (go_at_call 54;refine (HD.out _ ((aX _ _).alloc (aY _) _)).mono ?_;rintro e' w1 ⟨rfl,hb1⟩;have HB:=aF (((aX _ _).alloc (aY _) _).trans (hb1.mono ((aX _ _).alloc (aY _) _).size));have HC1:=aF (cK HCW.out hb1);have hsz1:w.heap.size<w1.heap.size:=bO (by simp) hb1.size;clear hb1)
 go_loopg [4] b.blocks.length (fun gk i wr=>∃k:Nat,gk=b.blocks.length - k/\k<=b.blocks.length/\i = .int .i64 k/\Hid (aA (bdM b bh.A1 bh.c1 bh.A2 bh.c2 bh.A3 bh.c3 bh.A4 bh.c4 (some ⟨bb,oo,none⟩) bh.c5 []) wr w.heap.size)/\Hid (Below w.heap.size w wr)/\w.heap.size<wr.heap.size/\Hid (R=bksE b (b.blocks.drop k)))
 case atStart=>exact ⟨0,by omega,by omega,rfl,HC1,HB,hsz1,HF⟩
 case round=>
  clear HC1 HB HF HCW;obtain ⟨k,hgk,hk,rfl,HCC,HB3,hlw3,hr⟩:=hrel;obtain ⟨y0,y1,y2,y3,y4,y5,y6⟩:=aS HCC.out;by_cases hlt:k<b.blocks.length
  ·have hd:=cS hlt;have hx:=HEL.out k _ (bD hlt);have hxz:=HZ.out _ (bN hlt);obtain ⟨x,hxx⟩:∃x,b.blocks[k]=x:=⟨_,rfl⟩;rw [hxx] at hd hx hxz;obtain ⟨A1,c1,A2,c2,A3,c3,A4,c4,p0,p1,p2,p3,p4,p5,p6,hs1,hs2,hs3,hs4⟩:=nI hx;have HQ:Hid (R=if bkE b x=0 then bksE b (b.blocks.drop (k+1)) else bkE b x):=aF (by rw [hr.out,hd,bksE]);have HS1:=aF hs1;have hl1:=hs1.le;have hg1:=hs1.big;have HTT:=aF (fun W hb=>HTT0.out W hb x.term A2 A3 A4 c2 c3 c4 hs2 hs3 hs4 hxz);unfold tmC at HTT;replace p0:=cJ HB3.out p0;replace p1:=cJ HB3.out p1;replace p2:=cJ HB3.out p2;replace p3:=cJ HB3.out p3;replace p4:=cJ HB3.out p4;replace p5:=cJ HB3.out p5;replace p6:=cJ HB3.out p6;clear hd hx hxx hr hs1 hs2 hs3 hs4 hxz;by_cases hln:65535<x.stmts.length
   ·have HF:Hid (R=15):=aF (by rw [HQ.out];unfold bkE;rw [bA hln];rfl);clear HQ;go_wp2_with fail
    go_ret;exact ⟨by rw [HF.out];rfl,HB3.out.alloc (Nat.le_of_lt hlw3) _⟩
   have HQ2:Hid (R=if stsE b (x.stmts.drop 0)=0 then (if tmE b x.term=0 then bksE b (b.blocks.drop (k+1)) else tmE b x.term) else stsE b (x.stmts.drop 0)):=aF (by
    rw [HQ.out,bX];unfold bkE;rw [aZ hln]
    by_cases h:stsE b x.stmts=0 <;> simp [h])
   have HBK:=aF (cP wr (bkL x A1 c1 A2 c2 A3 c3 A4 c4) 64);have HCC2:Hid (∀i v,[Value.string b.name,.slice bh.A1 b.regions.length bh.c1,.slice bh.A2 b.outl.length bh.c2,.slice bh.A3 b.types.length bh.c3,.slice bh.A4 b.locals.length bh.c4,.int .i64 b.args,.slice (some ⟨bb,oo,none⟩) b.blocks.length bh.c5][i]?=some v->(wr.alloc (.cells (bkL x A1 c1 A2 c2 A3 c3 A4 c4).toArray 64)).cell? ⟨w.heap.size,i,none⟩=some v):=aF (fun i v hi=>cJ ((aX _ _).alloc (aY _) _) (HCC.out i v hi));have HB4:=aF (HB3.out.alloc (Nat.le_of_lt hlw3) (.cells (bkL x A1 c1 A2 c2 A3 c3 A4 c4).toArray 64));obtain ⟨gx,hgx⟩:∃g,wr.heap.size=g:=⟨_,rfl⟩;clear HQ;go_wp2_with fail
   go_loopg [6] x.stmts.length (fun gj i wr2=>∃j:Nat,gj=x.stmts.length - j/\j<=x.stmts.length/\i = .int .i64 j/\Hid (aA (bdM b bh.A1 bh.c1 bh.A2 bh.c2 bh.A3 bh.c3 bh.A4 bh.c4 (some ⟨bb,oo,none⟩) bh.c5 []) wr2 w.heap.size)/\Hid (aA (bkL x A1 c1 A2 c2 A3 c3 A4 c4) wr2 wr.heap.size)/\Hid (Below w.heap.size w wr2)/\wr.heap.size+1<=wr2.heap.size/\Hid (R=if stsE b (x.stmts.drop j)=0 then (if tmE b x.term=0 then bksE b (b.blocks.drop (k+1)) else tmE b x.term) else stsE b (x.stmts.drop j)))
   case atStart=>exact ⟨0,by omega,by omega,rfl,HCC2,HBK,HB4,by simp,HQ2⟩
   case round=>
    clear HCC2 HBK HB4 HQ2 p0 p1 p2 p3 p4 p5 p6 HCC HB3 y0 y1 y2 y3 y4 y5 y6;obtain ⟨j,hgj,hj,rfl,HCC,HBK,HB5,hsz5,hr⟩:=hrel;have hlw5:=Nat.lt_of_succ_le hsz5;have hlw6:=Nat.lt_trans hlw3 hlw5;rw [hgx] at HBK hlw5 hsz5;by_cases hjl:j<x.stmts.length
    ·have hd:=cS hjl;obtain ⟨b3,o3,hA1,hb3,hy⟩:=HS1.out.sl.at_ hjl;have HA1:=aF hA1;clear hA1;obtain ⟨s,hss⟩:∃s,x.stmts[j]=s:=⟨_,rfl⟩;rw [hss] at hd hy;obtain ⟨B0,d0,B1,d1,B2,d2,m0,m1,m2,m3,m4,m5,m6,m7,m8,m9,m10,hp0,hp,hl⟩:=qY hy;have HSS:=aF (fun W hb=>HSM.out W hb s B0 B1 B2 d0 d1 d2 hp0 hp hl);unfold stC at HSS
     have hmm:∀X,Below w.heap.size w X->∀i v,(stC s B0 d0 B1 d1 B2 d2)[i]?=some v->X.cell? ⟨b3,o3+j * 11+i,none⟩=some v:=fun X hX i v hi=>by
      refine cJ hX ?_;match i,hi with
      | 0,hi=>simp [stC] at hi;subst hi;exact m0
      | 1,hi=>simp [stC] at hi;subst hi;exact m1
      | 2,hi=>simp [stC] at hi;subst hi;exact m2
      | 3,hi=>simp [stC] at hi;subst hi;exact m3
      | 4,hi=>simp [stC] at hi;subst hi;exact m4
      | 5,hi=>simp [stC] at hi;subst hi;exact m5
      | 6,hi=>simp [stC] at hi;subst hi;exact m6
      | 7,hi=>simp [stC] at hi;subst hi;exact m7
      | 8,hi=>simp [stC] at hi;subst hi;exact m8
      | 9,hi=>simp [stC] at hi;subst hi;exact m9
      | 10,hi=>simp [stC] at hi;subst hi;exact m10
      | i+11,hi=>simp [stC] at hi
     have HMM:=aF hmm
     have HQ3:Hid ((stE b s=0->R=if stsE b (x.stmts.drop (j+1))=0 then (if tmE b x.term=0 then bksE b (b.blocks.drop (k+1)) else tmE b x.term) else stsE b (x.stmts.drop (j+1)))/\(stE b s≠0->R=stE b s)):=aF (by
      rw [hr.out,hd];constructor
      ·intro h;rw [show stsE b (s :: x.stmts.drop (j+1))=stsE b (x.stmts.drop (j+1)) from by rw [stsE,bA h]]
      ·intro h;rw [show stsE b (s :: x.stmts.drop (j+1))=stE b s from by rw [stsE,aZ h],aZ h])
     generalize stE b s=es at HSS HQ3;clear hd hy hss hp0 hp hl hr hmm m0 m1 m2 m3 m4 m5 m6 m7 m8 m9 m10;have k0:=HBK.out 0 _ rfl;go_wp2_with fail
     have hS:(aA (bdM b bh.A1 bh.c1 bh.A2 bh.c2 bh.A3 bh.c3 bh.A4 bh.c4 (some ⟨bb,oo,none⟩) bh.c5 []) wr.drew w.heap.size)/\(aA (bkL x A1 c1 A2 c2 A3 c3 A4 c4) wr.drew gx)/\Below w.heap.size w wr.drew:=⟨HCC.out,HBK.out,HB5.out.drew⟩;clear k0;refine cQ (S:=fun X=>(aA (bdM b bh.A1 bh.c1 bh.A2 bh.c2 bh.A3 bh.c3 bh.A4 bh.c4 (some ⟨bb,oo,none⟩) bh.c5 []) X w.heap.size)/\(aA (bkL x A1 c1 A2 c2 A3 c3 A4 c4) X gx)/\Below w.heap.size w X) [0,1,2,3,4,5,6,7] (by kernel_rfl) ?_;(iterate 6 (refine cR (v:=?_) ?_ hS ?_;rotate_left;(next=>(rintro X ⟨hX,hY,hZ⟩;obtain ⟨s0,s1,s2,s3,s4,s5,s6⟩:=aS hX;have t0:=hY 0 _ rfl;rw [HA1.out] at t0;have m0:=HMM.out X hZ 0 _ rfl;have m1:=HMM.out X hZ 1 _ rfl;have m2:=HMM.out X hZ 2 _ rfl;have m3:=HMM.out X hZ 3 _ rfl;have m4:=HMM.out X hZ 4 _ rfl;have m5:=HMM.out X hZ 5 _ rfl;have m6:=HMM.out X hZ 6 _ rfl;have m7:=HMM.out X hZ 7 _ rfl;have m8:=HMM.out X hZ 8 _ rfl;have m9:=HMM.out X hZ 9 _ rfl;have m10:=HMM.out X hZ 10 _ rfl;rw [Nat.add_zero] at m0;(try simp only [aI]);go_simp;rfl));simp only [aM]));(refine cM (fun K1 hK1=>?_);simp only [aM];rw [bA (by rfl)];go_simp);refine (HSS.out _ hS.2.2).mono ?_;rintro e' w5 ⟨rfl,hb5⟩;replace hS:=bJ (cK hS.1 hb5) (bJ (cK hS.2.1 hb5) (hS.2.2.trans (hb5.mono hS.2.2.size)));have HS5:=aF hS;have hsz7:wr.heap.size<=w5.heap.size:=hb5.size;clear hb5;refine hK1.out _ _ (fun _=>hS) ?_;clear hK1;((refine cR (v:=?_) ?_ hS ?_;rotate_left;(next=>(rintro X -;(try simp only [aI]);go_simp;rfl));simp only [aM]))
     refine cV ?_;clear hS;by_cases he:es=0
     ·subst he;have HF:=aF (HQ3.out.1 rfl);clear HQ3;go_wp2_with fail
      go_roundg (x.stmts.length - (j+1))
      case measure=>omega
      case rel=>exact ⟨j+1,rfl,by omega,by go_num,aF HS5.out.1,aF (by rw [hgx];exact HS5.out.2.1),aF HS5.out.2.2,by omega,HF⟩
     ·have HF:=aF (HQ3.out.2 he);have e1:(es != 0)=true:=by simp [he]
      clear HQ3 he;go_wp2_with fail
      go_ret;exact ⟨by rw [HF.out];rfl,HS5.out.2.2⟩
    ·have HQ3:Hid (R=if tmE b x.term=0 then bksE b (b.blocks.drop (k+1)) else tmE b x.term):=aF (by rw [hr.out,bE (by omega:x.stmts.length<=j)];rfl);obtain ⟨y0,y1,y2,y3,y4,y5,y6⟩:=aS HCC.out;obtain ⟨k0,k1,k2,k3,k4,k5,k6⟩:=aS HBK.out;generalize tmE b x.term=et at HTT HQ3;clear hr;by_cases he:et=0
     ·subst he;have HF:Hid (R=bksE b (b.blocks.drop (k+1))):=aF (by rw [HQ3.out];rfl);clear HQ3;go_wp2_with (go_at_call 56;refine (HTT.out _ HB5.out).mono ?_;rintro e' w5 ⟨rfl,hb5⟩;have HB7:=aF (HB5.out.trans (hb5.mono HB5.out.size));have HC7:=aF (cK HCC.out hb5);have hsz7:=hb5.size;clear hb5)
      go_roundg (b.blocks.length - (k+1))
      case measure=>omega
      case rel=>exact ⟨k+1,rfl,by omega,by go_num,HC7,HB7,by omega,HF⟩
     ·have HF:Hid (R=et):=aF (by rw [HQ3.out,aZ he]);have e1:(et != 0)=true:=by simp [he]
      clear HQ3 he;go_wp2_with (go_at_call 56;refine (HTT.out _ HB5.out).mono ?_;rintro e' w5 ⟨rfl,hb5⟩;have HB7:=aF (HB5.out.trans (hb5.mono HB5.out.size));clear hb5)
      go_ret;exact ⟨by rw [HF.out];rfl,HB7.out⟩
  ·have HF:Hid (R=0):=aF (by rw [hr.out,bE (by omega:b.blocks.length<=k)];rfl);clear hr;go_wp2_with fail
   go_ret;exact ⟨by rw [HF.out];rfl,HB3.out⟩
end
section
open Go Go.RowKit
theorem xBU {n:Int} (h1 : -9223372036854775808<=n) (h2:n<=9223372036854775807):wrap64 n=n:=by unfold wrap64;omega
theorem xGN (l:List Ty) (t:Ty):tyZ (l ++ [t])=tyZ l+(1+min t.flds.length 9000):=by simp [tyZ]
def namesZ (b:Bdy):Nat:=szN b.name+b.outl.length+sumN b.regions+tyZ b.types+sumN (b.locals.map (·.name))+sumN (b.blocks.map (·.term.name))
theorem xIA (b:Bdy):z4 b b.blocks.length=namesZ b:=by
 unfold z4 z3 z2 z1 namesZ;simp only [cA]
theorem xCG {α : Type} {l:List α} {k:Nat} (h:k<l.length):l.take (k+1)=l.take k ++ [l[k]]:=bF h
theorem xHM (b:Bdy) (k:Nat) (h:k<b.regions.length):z1 b (k+1)=z1 b k+(1+min b.regions[k].size 9000):=by
 unfold z1;rw [xCG h,xCK];unfold szN;omega
theorem xHL (b:Bdy) (k:Nat) (h:k<b.types.length):z2 b (k+1)=z2 b k+(1+min b.types[k].flds.length 9000):=by
 unfold z2;rw [xCG h,xGN];omega
theorem xHJ (b:Bdy) (k:Nat) (h:k<b.locals.length):z3 b (k+1)=z3 b k+(1+min b.locals[k].name.size 9000):=by
 unfold z3;rw [xCG h,bU,xAC,List.map_nil,xCK];unfold szN;omega
theorem xHH (b:Bdy) (k:Nat) (h:k<b.blocks.length):z4 b (k+1)=z4 b k+(1+min b.blocks[k].term.name.size 9000):=by
 unfold z4;rw [xCG h,bU,xAC,List.map_nil,xCK];unfold szN;omega
theorem xIC {m a b c d:Int} (hm:0<=m/\m<=23000) (ha:0<=a/\a<=65535) (hb:0<=b/\b<=2) (hc:0<=c/\c<=32) (hd:0<=d/\d<=9000):wrap64 (m+wrap64 (wrap64 (wrap64 (wrap64 (1+a)+b)+c)+d))=m+(1+a+b+c+d):=by
 rw [xBU (n:=1+a) (by omega) (by omega),xBU (n:=1+a+b) (by omega) (by omega),xBU (n:=1+a+b+c) (by omega) (by omega),xBU (n:=1+a+b+c+d) (by omega) (by omega),xBU (by omega) (by omega)]
theorem xIB {m a b q:Int} (hm:0<=m/\m<=3000) (ha:0<=a/\a<=32) (hb:0<=b/\b<=32) (hq:0<=q/\q<=20000):wrap64 (m+wrap64 (wrap64 (a+b)+q))=m+(a+b+q):=by
 rw [xBU (n:=a+b) (by omega) (by omega),xBU (n:=a+b+q) (by omega) (by omega),xBU (by omega) (by omega)]
theorem xHK (b:Bdy):z2 b 0=z1 b b.regions.length:=by unfold z2;simp [tyZ]
theorem xHI (b:Bdy):z3 b 0=z2 b b.types.length:=by unfold z3;simp [sumN]
theorem xHG (b:Bdy):z4 b 0=z3 b b.locals.length:=by unfold z4;simp [sumN]
theorem xDR (b:Bdy) (bh:BH) (w:World) (H:BdAt w b bh) (hz:NmOk b):
 Calls Tryz.prog 23 #[.agg (bdC b bh).toArray] w fun e' w'=>(∃q:Int,e' = .returned (.int .i64 q)/\(q<=0->ShortB b->namesZ b<=3000))/\Below w.heap.size w w':=by
 obtain ⟨A1,c1,A2,c2,A3,c3,A4,c4,A5,c5⟩:=bh;have HH:=aF H;have HZ:=aF hz;have r1:=H.reg.le;have r2:=H.reg.big;have o1:=H.out.le;have o2:=H.out.big;have l1:=H.loc.le;have l2:=H.loc.big;have t1:=H.typ.le;have t2:=H.typ.big;have b1:=H.blk.le;have b2:=H.blk.big;have n1:=hz.name;simp only at r1 r2 o1 o2 l1 l2 t1 t2 b1 b2;clear H hz;unfold bdC;simp only;have HCW:=aF (cP w [Value.string b.name,.slice A1 b.regions.length c1,.slice A2 b.outl.length c2,.slice A3 b.types.length c3,.slice A4 b.locals.length c4,.int .i64 b.args,.slice A5 b.blocks.length c5] 28);have HBW:=aF ((aX w.heap.size w).alloc (aY _) (.cells ([Value.string b.name,.slice A1 b.regions.length c1,.slice A2 b.outl.length c2,.slice A3 b.types.length c3,.slice A4 b.locals.length c4,.int .i64 b.args,.slice A5 b.blocks.length c5]).toArray 28));have HSZ:w.heap.size<(w.alloc (.cells ([Value.string b.name,.slice A1 b.regions.length c1,.slice A2 b.outl.length c2,.slice A3 b.types.length c3,.slice A4 b.locals.length c4,.int .i64 b.args,.slice A5 b.blocks.length c5]).toArray 28)).heap.size:=by simp
 go_enter Tryz.func23,Tryz.ntmps23
 go_wp2_with fail
 go_loopw [3,25] (fun v i wr=>∃(k:Nat) (m:Int),k<=b.regions.length/\i = .int .i64 k/\v = .int .i64 m/\Hid (aA (bdM b A1 c1 A2 c2 A3 c3 A4 c4 A5 c5 []) wr w.heap.size)/\Hid (Below w.heap.size w wr)/\w.heap.size<wr.heap.size/\Hid (ShortB b->((z1 b k:Nat):Int)<=m/\m<=80000+9001 * k)) (fun _ i _=>b.regions.length - (intOf i).toNat)
 case atStart=>
  refine ⟨0,_,by omega,rfl,rfl,HCW,HBW,HSZ,aF (fun hS=>?_)⟩;have h1:=hS.outl;have h2:z1 b 0=min b.name.size 9000+b.outl.length:=by unfold z1 szN;simp [sumN]
  rw [h2];try unfold wrap64
  omega
 case round=>
  obtain ⟨k,m,hk,rfl,rfl,HCC,HB,hlw,HR⟩:=hrel;clear HCW HBW HSZ;by_cases hlt:k<b.regions.length
  ·have HST:=aF (xHM b k hlt);obtain ⟨b5,o5,rfl,hb5,y⟩:=HH.out.reg.sl.at_ hlt;have hzs:=HZ.out.regs _ (bN hlt);generalize b.regions[k]=x at *;have p0:wr.cell? ⟨b5,o5+k,none⟩=some (.string x):=cJ HB.out (by simpa [RN] using y);clear y;go_wp2_with fail
   go_roundw
   case rel=>
    refine ⟨k+1,_,by omega,by go_num,rfl,HCC,HB,hlw,aF (fun hS=>?_)⟩;have h1:=HR.out hS;have h2:=HST.out;have h3:=hS.regs;try unfold wrap64
    omega
   case measure=>simp [intOf];omega
  ·have HR2:Hid (ShortB b->((z2 b 0:Nat):Int)<=m/\m<=600000000):=aF (fun hS=>by
    have h1:=HR.out hS;have h3:=hS.regs;have h4:k=b.regions.length:=(by omega);rw [xHK,<- h4]
    omega)
   obtain ⟨y0,y1,y2,y3,y4,y5,y6⟩:=aS HCC.out;clear HR;go_wp2_with fail
   clear hlt hk;clear y0 y1 y2 y3 y4 y5 y6;go_loopw [3,39] (fun v i wr=>∃(k:Nat) (m:Int),k<=b.types.length/\i = .int .i64 k/\v = .int .i64 m/\Hid (aA (bdM b A1 c1 A2 c2 A3 c3 A4 c4 A5 c5 []) wr w.heap.size)/\Hid (Below w.heap.size w wr)/\w.heap.size<wr.heap.size/\Hid (ShortB b->((z2 b k:Nat):Int)<=m/\m<=600000000+9001 * k)) (fun _ i _=>b.types.length - (intOf i).toNat)
   case atStart=>exact ⟨0,m,by omega,rfl,rfl,HCC,HB,hlw,aF (fun hS=>by have:=HR2.out hS;omega)⟩
   case round=>
    clear HCC HB hlw HR2;obtain ⟨k,m,hk,rfl,rfl,HCC,HB,hlw,HR⟩:=hrel;by_cases hlt:k<b.types.length
    ·have HST:=aF (xHL b k hlt);obtain ⟨b5,o5,rfl,hb5,y⟩:=HH.out.typ.sl.at_ hlt;obtain ⟨p0,p1,p2,p3,A6,c6,p4,p5,p6,_⟩:=RTy.keeps _ _ _ w.heap.size _ _ _ (aY _) hb5 HB.out y;generalize b.types[k]=x at *;have HCC2:=aF (fun o i v hi=>cJ (alF wr o) (HCC.out i v hi));have HB2:=aF (fun o=>HB.out.alloc (Nat.le_of_lt hlw) o);clear y;go_wp2_with fail
     go_roundw
     case rel=>
      refine ⟨k+1,_,by omega,by go_num,rfl,aF (HCC2.out _),aF (HB2.out _),by simp;omega,aF (fun hS=>?_)⟩;have h1:=HR.out hS;have h2:=HST.out;have h3:=hS.typs;try unfold wrap64
      omega
     case measure=>simp [intOf];omega
    ·have HR2:Hid (ShortB b->((z3 b 0:Nat):Int)<=m/\m<=1200000000):=aF (fun hS=>by
      have h1:=HR.out hS;have h3:=hS.typs;have h4:k=b.types.length:=(by omega);rw [xHI,<- h4]
      omega)
     obtain ⟨y0,y1,y2,y3,y4,y5,y6⟩:=aS HCC.out;clear HR;go_wp2_with fail
     clear hlt hk;clear y0 y1 y2 y3 y4 y5 y6;go_loopw [3,54] (fun v i wr=>∃(k:Nat) (m:Int),k<=b.locals.length/\i = .int .i64 k/\v = .int .i64 m/\Hid (aA (bdM b A1 c1 A2 c2 A3 c3 A4 c4 A5 c5 []) wr w.heap.size)/\Hid (Below w.heap.size w wr)/\w.heap.size<wr.heap.size/\Hid (ShortB b->((z3 b k:Nat):Int)<=m/\m<=1200000000+9001 * k)) (fun _ i _=>b.locals.length - (intOf i).toNat)
     case atStart=>exact ⟨0,m,by omega,rfl,rfl,HCC,HB,hlw,aF (fun hS=>by have:=HR2.out hS;omega)⟩
     case round=>
      clear HCC HB hlw HR2;obtain ⟨k,m,hk,rfl,rfl,HCC,HB,hlw,HR⟩:=hrel;by_cases hlt:k<b.locals.length
      ·have HST:=aF (xHJ b k hlt);have hzs:=HZ.out.locs _ (bN hlt);obtain ⟨b5,o5,rfl,hb5,y⟩:=HH.out.loc.sl.at_ hlt;obtain ⟨p0,p1⟩:=RLc.keeps _ _ _ w.heap.size _ _ _ (aY _) hb5 HB.out y;generalize b.locals[k]=x at *;have HCC2:=aF (fun o i v hi=>cJ (alF wr o) (HCC.out i v hi));have HB2:=aF (fun o=>HB.out.alloc (Nat.le_of_lt hlw) o);clear y;go_wp2_with fail
       go_roundw
       case rel=>
        refine ⟨k+1,_,by omega,by go_num,rfl,aF (HCC2.out _),aF (HB2.out _),by simp;omega,aF (fun hS=>?_)⟩;have h1:=HR.out hS;have h2:=HST.out;have h3:=hS.locs;try unfold wrap64
        omega
       case measure=>simp [intOf];omega
      ·have HR2:Hid (ShortB b->((z4 b 0:Nat):Int)<=m):=aF (fun hS=>by
        have h1:=HR.out hS;have h4:k=b.locals.length:=(by omega);rw [xHG,<- h4]
        omega)
       obtain ⟨y0,y1,y2,y3,y4,y5,y6⟩:=aS HCC.out;clear HR;by_cases hm:3000<m
       ·go_wp2_with fail
        go_ret;exact ⟨⟨1,rfl,fun h=>absurd h (by omega)⟩,HB.out⟩
       go_wp2_with fail
       clear hlt hk;clear y0 y1 y2 y3 y4 y5 y6;go_loopw [3,71] (fun v i wr=>∃(k:Nat) (m:Int),k<=b.blocks.length/\i = .int .i64 k/\v = .int .i64 m/\Hid (aA (bdM b A1 c1 A2 c2 A3 c3 A4 c4 A5 c5 []) wr w.heap.size)/\Hid (Below w.heap.size w wr)/\w.heap.size<wr.heap.size/\Hid (ShortB b->((z4 b k:Nat):Int)<=m/\m<=23000)) (fun _ i _=>b.blocks.length - (intOf i).toNat)
       case atStart=>exact ⟨0,m,by omega,rfl,rfl,HCC,HB,hlw,aF (fun hS=>by have:=HR2.out hS;omega)⟩
       case round=>
        clear HCC HB hlw HR2 hm;obtain ⟨k,m,hk,rfl,rfl,HCC,HB,hlw,HR⟩:=hrel;by_cases hlt:k<b.blocks.length
        ·have HST:=aF (xHH b k hlt);have hzs:=HZ.out.blks _ (bN hlt);have HSB:=aF (fun (hS:ShortB b)=>hS.blks _ (bN hlt));obtain ⟨b5,o5,rfl,hb5,y⟩:=HH.out.blk.sl.at_ hlt;generalize b.blocks[k]=x at *;obtain ⟨B1,d1,B2,d2,B3,d3,B4,d4,p0,p1,p2,p3,p4,p5,p6,hs1,hs2,hs3,hs4⟩:=nI y;have HS1:=aF hs1;have HS3:=aF (fun W hb=>xDF x.term.args B3 d3 W (hs3.keep ROp.keeps hb));have q1:=hs1.le;have q2:=hs1.big;have q3:=hs2.le;have q4:=hs2.big;have q5:=hs4.le;have q6:=hs4.big;replace p0:=cJ HB.out p0;replace p1:=cJ HB.out p1;replace p2:=cJ HB.out p2;replace p3:=cJ HB.out p3;replace p4:=cJ HB.out p4;replace p5:=cJ HB.out p5;replace p6:=cJ HB.out p6;clear y hs1 hs2 hs3 hs4;have HBK:=aF (cP wr (bkL x B1 d1 B2 d2 B3 d3 B4 d4) 64);have HCC2:=aF (fun i v hi=>cJ (alF wr (.cells (bkL x B1 d1 B2 d2 B3 d3 B4 d4).toArray 64)) (HCC.out i v hi));have HB2:=aF (HB.out.alloc (Nat.le_of_lt hlw) (.cells (bkL x B1 d1 B2 d2 B3 d3 B4 d4).toArray 64));obtain ⟨gx,hgx⟩:∃g,wr.heap.size=g:=⟨_,rfl⟩;have HGX:=aF hgx;have hgl:w.heap.size<gx:=(by omega);obtain ⟨m2,hm2⟩:∃m2,wrap64 (m+wrap64 (wrap64 (wrap64 (wrap64 (1+(x.stmts.length:Int))+(x.term.targets.length:Int))+(x.term.place.proj.length:Int))+min (x.term.name.size:Int) 9000))=m2:=⟨_,rfl⟩
         have HR2:Hid (ShortB b->((z4 b (k+1):Nat):Int)<=m2):=aF (fun hS=>by
          have h1:=HR.out hS;have h2:=HST.out;obtain ⟨g1,g2,g3,_⟩:=HSB.out hS;rw [<- hm2,xIC (by omega) (by omega) (by omega) (by omega) (by omega)]
          omega)
         by_cases h3:3000<m2
         ·go_wp2_with fail
          go_ret;exact ⟨⟨1,rfl,fun h=>absurd h (by omega)⟩,HB2.out⟩
         go_wp2_with fail
         clear p0 p1 p2 p3 p4 p5 p6 hm2;go_loopw [3,103] (fun v i wr2=>∃(j:Nat) (m:Int),j<=x.stmts.length/\i = .int .i64 j/\v = .int .i64 m/\m<=3000/\Hid (aA (bdM b A1 c1 A2 c2 A3 c3 A4 c4 (some ⟨b5,o5,none⟩) c5 []) wr2 w.heap.size)/\Hid (aA (bkL x B1 d1 B2 d2 B3 d3 B4 d4) wr2 gx)/\Hid (Below w.heap.size w wr2)/\gx<wr2.heap.size/\Hid (ShortB b->((z4 b (k+1):Nat):Int)<=m)) (fun _ i _=>x.stmts.length - (intOf i).toNat)
         case atStart=>exact ⟨0,m2,by omega,rfl,rfl,by omega,HCC2,aF (by rw [<- HGX.out];exact HBK.out),HB2,by rw [<- HGX.out];simp,HR2⟩
         case round=>
          clear HCC2 HBK HB2 HR2 h3 HCC HB HR;obtain ⟨j,m,hj,rfl,rfl,hm,HCC,HBK,HB,hgw,HR⟩:=hrel;have hlw:w.heap.size<wr.heap.size:=(by omega);by_cases hjl:j<x.stmts.length
          ·have HSM:=aF (fun (hS:ShortB b)=>(HSB.out hS).2.2.2 _ (bN hjl));obtain ⟨b3,o3,rfl,hb3,hy⟩:=HS1.out.sl.at_ hjl;generalize x.stmts[j]=s at *;obtain ⟨C0,e0,C1,e1,C2,e2,n0,n1,n2,n3,n4,n5,n6,n7,n8,n9,n10,hp0,hp,hl⟩:=qY hy;have f1:=hp0.le;have f2:=hp0.big;have f3:=hp.le;have f4:=hp.big;have HOP:=aF (fun W hb=>xDF s.rv.args C2 e2 W (hl.keep ROp.keeps hb));replace n0:=cJ HB.out n0;replace n1:=cJ HB.out n1;replace n2:=cJ HB.out n2;replace n3:=cJ HB.out n3;replace n4:=cJ HB.out n4;replace n5:=cJ HB.out n5;replace n6:=cJ HB.out n6;replace n7:=cJ HB.out n7;replace n8:=cJ HB.out n8;replace n9:=cJ HB.out n9;replace n10:=cJ HB.out n10;clear hy hp0 hp hl;obtain ⟨W1,hW1⟩:∃W1,wr.alloc (.cells #[Value.int .i64 s.kind,.int .i64 s.place.loc,.slice C0 s.place.proj.length e0,.int .i64 s.rv.kind,.int .i64 s.rv.op,.int .i64 s.rv.reg,.bool s.rv.mu,.int .i64 s.rv.place.loc,.slice C1 s.rv.place.proj.length e1,.slice C2 s.rv.args.length e2,.int .i64 s.loc] 87)=W1:=⟨_,rfl⟩;have hST:∀i v,(stC s C0 e0 C1 e1 C2 e2)[i]?=some v->W1.cell? ⟨wr.heap.size,i,none⟩=some v:=by rw [<- hW1];exact cP wr (stC s C0 e0 C1 e1 C2 e2) 87
           have hb1:Below wr.heap.size wr W1:=by rw [<- hW1];exact alF _ _
           have hb1d:Below wr.heap.size wr W1.drew:=hb1.drew;have HS0:Hid ((aA (stC s C0 e0 C1 e1 C2 e2) W1.drew wr.heap.size)/\(aA (bdM b A1 c1 A2 c2 A3 c3 A4 c4 (some ⟨b5,o5,none⟩) c5 []) W1.drew w.heap.size)/\(aA (bkL x (some ⟨b3,o3,none⟩) d1 B2 d2 B3 d3 B4 d4) W1.drew gx)/\Below w.heap.size w W1.drew):=aF ⟨hST,cK HCC.out hb1d,cK HBK.out hb1d,keep0 hb1d HB.out⟩;have hsz1:gx<W1.heap.size:=bO hgw hb1.size;clear hST hb1 hb1d;go_wp2_with fail
           clear n0 n1 n2 n3 n4 n5 n6 n7 n8 n9 n10;have hS:=HS0.out;refine cQ (S:=fun X=>(aA (stC s C0 e0 C1 e1 C2 e2) X wr.heap.size)/\(aA (bdM b A1 c1 A2 c2 A3 c3 A4 c4 (some ⟨b5,o5,none⟩) c5 []) X w.heap.size)/\(aA (bkL x (some ⟨b3,o3,none⟩) d1 B2 d2 B3 d3 B4 d4) X gx)/\Below w.heap.size w X) [0,1,2,3,4,5,6,7,8,9,10,11,12,13,14,15,16,17] (by kernel_rfl) ?_;(iterate 14 (refine cR (v:=?_) ?_ hS ?_;rotate_left;(next=>(rintro X ⟨hX,_,_,_⟩;obtain ⟨-,-,s2,-,-,-,-,-,s8,s9⟩:=aV hX;(try simp only [aI]);go_simp;rfl));simp only [aM]));(refine cM (fun K1 hK1=>?_);simp only [aM];rw [bA (by rfl)];go_simp);refine (HOP.out _ hS.2.2.2).mono ?_;rintro e' w5 ⟨⟨q,rfl,hq0,hq1⟩,hb5⟩;replace hS:=bJ (cK hS.1 hb5) (bJ (cK hS.2.1 hb5) (bJ (cK hS.2.2.1 hb5) (hS.2.2.2.trans (hb5.mono hS.2.2.2.size))));have HS5:=aF hS;have hsz7:gx<w5.heap.size:=bO hsz1 hb5.size;clear hb5;refine hK1.out _ _ (fun _=>hS) ?_;clear hK1;(iterate 3 (refine cR (v:=?_) ?_ hS ?_;rotate_left;(next=>(rintro X -;(try simp only [aI]);go_simp;rfl));simp only [aM]));refine cV ?_;clear hS;obtain ⟨m3,hm3⟩:∃m3,IntKind.i64.wrap (m+IntKind.i64.wrap (IntKind.i64.wrap ((s.place.proj.length:Int)+(s.rv.place.proj.length:Int))+q))=m3:=⟨_,rfl⟩
           have hm4:wrap64 (m+wrap64 (wrap64 ((s.place.proj.length:Int)+(s.rv.place.proj.length:Int))+q))=m3:=by
            rw [<- IntWalk.i64_left,<- IntWalk.i64_left,<- IntWalk.i64_left];exact hm3
           have HR3:Hid (ShortB b->((z4 b (k+1):Nat):Int)<=m3):=aF (fun hS=>by
            have h1:=HR.out hS;obtain ⟨g1,g2⟩:=HSM.out hS;rw [<- hm4,xIB (by omega) (by omega) (by omega) (by omega)]
            omega)
           clear hm4;by_cases h3:3000<m3
           ·go_wp2_with fail
            go_ret;exact ⟨⟨1,rfl,fun h=>absurd h (by omega)⟩,HS5.out.2.2.2⟩
           go_wp2_with fail
           go_roundw
           case rel=>exact ⟨j+1,m3,by omega,by go_num,congrArg (Value.int .i64) hm3,by omega,aF HS5.out.2.1,aF HS5.out.2.2.1,aF HS5.out.2.2.2,hsz7,HR3⟩
           case measure=>simp [intOf];omega
          ·obtain ⟨y0,y1,y2,y3,y4,y5,y6⟩:=aS HCC.out;have k3:=HBK.out 3 _ rfl;go_wp2_with (go_at_call 64;refine (HS3.out _ HB.out).mono ?_;rintro e' w5 ⟨⟨q,rfl,hq0,hq1⟩,hb5⟩;have HB7:=aF (HB.out.trans (hb5.mono HB.out.size));have HC7:=aF (cK HCC.out hb5);have hsz7:=hb5.size;clear hb5)
           go_roundw
           case rel=>
            refine ⟨k+1,_,by omega,by go_num,rfl,HC7,HB7,by omega,aF (fun hS=>?_)⟩;have h1:=HR.out hS;try unfold wrap64
            omega
           case measure=>simp [intOf];omega
        ·have HZF:Hid (ShortB b->((namesZ b:Nat):Int)<=m):=aF (fun hS=>by
          have h1:=HR.out hS;have h4:k=b.blocks.length:=(by omega);rw [<- xIA,<- h4]
          omega)
         clear HR;by_cases h3:3000<m
         ·go_wp2_with fail
          go_ret;exact ⟨⟨1,rfl,fun h=>absurd h (by omega)⟩,HB.out⟩
         ·go_wp2_with fail
          go_ret;exact ⟨⟨0,rfl,fun _ hS=>by have:=HZF.out hS;omega⟩,HB.out⟩
structure OkLn (nl nr:Nat) (l:Ln):Prop where
 reg:okI nr l.reg
 pt:0<=l.pt
 ck:chk l.place.loc l.place.proj=0
 can:canP nl l
theorem xHX {m m':Bool} {a b:List UInt8} (h:mutP m ++ 37 :: a=mutP m' ++ 37 :: b):m=m'/\a=b:=by
 cases m <;> cases m' <;> simp [mutP] at h ⊢ <;> exact h
theorem xIK {ls:List Lc} {rs:List ByteArray} (H:NmLs ls) (G:NmRs rs) {x y:Ln} {r s:List UInt8} (hx:OkLn ls.length rs.length x) (hy:OkLn ls.length rs.length y) (h:oH ls rs x ++ r=oH ls rs y ++ s):x=y/\r=s:=by
 simp only [oH,lnP,placeP,semP,bM,List.cons_append,List.nil_append,List.cons.injEq,true_and] at h;obtain ⟨e1,h⟩:=xHF G hx.reg hy.reg (sti (by decide)) (sti (by decide)) h;simp only [List.cons.injEq,true_and] at h;obtain ⟨e2,h⟩:=xHX h;have okp:∀z:Ln,OkLn ls.length rs.length z->OkPl ls z.place:=fun z hz=>⟨⟨by have:=hz.ck;unfold chk at this;split at this;cases this;omega,hz.can.1⟩,yS hz.ck⟩
 have h2:placeP ls x.place ++ (32 :: 97 :: 116 :: 32 :: (Lib.itoa x.pt ++ 59 :: 10 :: r))=placeP ls y.place ++ (32 :: 97 :: 116 :: 32 :: (Lib.itoa y.pt ++ 59 :: 10 :: s)):=by
  simp only [placeP,bM,List.cons_append];rw [h]
 obtain ⟨e3,h⟩:=xGJ H (okp x hx) (okp y hy) (sti (by decide)) (sti (by decide)) h2;simp only [List.cons.injEq,true_and] at h;obtain ⟨e4,h⟩:=xCD (Stop.cons (by decide) _) (Stop.cons (by decide) _) h;simp only [List.cons.injEq,true_and] at h;refine ⟨?_,h⟩;clear h h2;obtain ⟨xr,xp,xm,xl⟩:=x;obtain ⟨yr,yp,ym,yl⟩:=y;simp only at e1 e2 e3 e4;rw [e1,e2,e3,e4]
theorem xGI (wd:List UInt8) {x y:Int × Int} {r s:List UInt8} (h:prLine wd x ++ r=prLine wd y ++ s):x=y/\r=s:=by
 simp only [prLine,prP,semP,bM,List.cons_append,List.nil_append,List.cons.injEq,true_and] at h;have h:=List.append_cancel_left h;simp only [List.cons.injEq,true_and] at h;obtain ⟨e1,h⟩:=xCD (Stop.cons (by decide) _) (Stop.cons (by decide) _) h;simp only [List.cons.injEq,true_and] at h;obtain ⟨e2,h⟩:=xCD (Stop.cons (by decide) _) (Stop.cons (by decide) _) h;simp only [List.cons.injEq,true_and] at h;exact ⟨Prod.ext e1 e2,h⟩
theorem xIJ {rs:List ByteArray} (G:NmRs rs) {x y:Int × Int} {r s:List UInt8} (hx:okI rs.length x.1) (hy:okI rs.length y.1) (h:oE rs x ++ r=oE rs y ++ s):x=y/\r=s:=by
 simp only [oE,lvP,semP,bM,List.cons_append,List.nil_append,List.cons.injEq,true_and] at h;obtain ⟨e1,h⟩:=xHF G hx hy (sti (by decide)) (sti (by decide)) h;simp only [List.cons.injEq,true_and] at h;obtain ⟨e2,h⟩:=xCD (Stop.cons (by decide) _) (Stop.cons (by decide) _) h;simp only [List.cons.injEq,true_and] at h;exact ⟨Prod.ext e1 e2,h⟩
def fourth:List UInt8->Option UInt8
 | _ :: _ :: _ :: c :: _=>some c
 | _=>none
theorem xCE {α : Type} {f : α -> List UInt8} {c d:UInt8} {r:List UInt8} (hf:∀x t,third (f x ++ t)=some d) (hcd:d≠c) (hr:third r≠some c) (xs:List α):third (xs.flatMap f ++ r)≠some c:=by
 cases xs with
 | nil=>exact hr
 | cons x xs=>rw [List.flatMap_cons,bM,hf];exact fun e=>hcd (Option.some.inj e)
theorem xBI {α : Type} {f : α -> List UInt8} {c d:UInt8} {r:List UInt8} (hf:∀x t,fourth (f x ++ t)=some d) (hcd:d≠c) (hr:fourth r≠some c) (xs:List α):fourth (xs.flatMap f ++ r)≠some c:=by
 cases xs with
 | nil=>exact hr
 | cons x xs=>rw [List.flatMap_cons,bM,hf];exact fun e=>hcd (Option.some.inj e)
theorem xFM {b:Bdy} (H:NmLs b.locals) (G:NmRs b.regions) {p:Int} {f g:Fct} (hf:OkFct f p b.regions.length) (hg:OkFct g p b.regions.length) (cf:∀l∈f.loans,canP b.locals.length l) (cg:∀l∈g.loans,canP b.locals.length l) (h:printF b f=printF b g):f=g:=by
 obtain ⟨fl,fe,fk,fi,fv⟩:=f;obtain ⟨gl,ge,gk,gi,gv⟩:=g;have okl:∀(f:Fct),OkFct f p b.regions.length->(∀l∈f.loans,canP b.locals.length l)->∀l∈f.loans,OkLn b.locals.length b.regions.length l:=fun f hf cf l hl=>⟨(hf.ln l hl).1,(hf.ln l hl).2.1,(hf.ln l hl).2.2.2,cf l hl⟩
 have hl1:=okl _ hf cf;have hl2:=okl _ hg cg;unfold printF at h;replace h:=List.append_cancel_left h;simp only at h;have tl:∀(c:UInt8) (v:List (Int × Int)),c≠108->third (v.flatMap (oE b.regions) ++ [125,10])≠some c:=fun c v hc=>xCE (d:=108) (fun _ _=>rfl) (fun e=>hc e.symm) (by simp [third]) v
 have ti:∀(c:UInt8) (i v:List (Int × Int)),c≠108->c≠105->third (i.flatMap (prLine wInv) ++ (v.flatMap (oE b.regions) ++ [125,10]))≠some c:=fun c i v hc hi=>xCE (d:=105) (fun _ _=>rfl) (fun e=>hi e.symm) (tl c v hc) i
 have tk:∀(c:UInt8) (k i v:List (Int × Int)),c≠108->c≠105->c≠107->third (k.flatMap (prLine wKill) ++ (i.flatMap (prLine wInv) ++ (v.flatMap (oE b.regions) ++ [125,10])))≠some c:=fun c k i v hc hi hk=>xCE (d:=107) (fun _ _=>rfl) (fun e=>hk e.symm) (ti c i v hc hi) k
 have t4:∀(e k i v:List (Int × Int)),fourth (e.flatMap (prLine wEdge) ++ (k.flatMap (prLine wKill) ++ (i.flatMap (prLine wInv) ++ (v.flatMap (oE b.regions) ++ [125,10]))))≠some 111:=fun e k i v=>
  xBI (d:=100) (fun _ _=>rfl) (by decide) (xBI (d:=105) (fun _ _=>rfl) (by decide) (xBI (d:=110) (fun _ _=>rfl) (by decide) (xBI (d:=105) (fun _ _=>rfl) (by decide) (by simp [fourth]) v) i) k) e
 have ne:∀{α : Type} {f : α -> List UInt8} {r:List UInt8} {c:UInt8} (_:third r≠some c) (_:∀x t,third (f x ++ t)=some c) (x : α) (t:List UInt8),f x ++ t≠r:=fun hr hx x t e=>hr (by rw [<- e];exact hx x t)
 obtain ⟨e1,h⟩:=xBZ (f:=oH b.locals b.regions) (ok:=OkLn b.locals.length b.regions.length) (fun x y r s hx hy h=>xIK H G hx hy h) fl gl _ _ hl1 hl2
  (fun x t _ e=>t4 fe fk fi fv (by rw [<- e];rfl)) (fun x t _ e=>t4 ge gk gi gv (by rw [<- e];rfl)) h
 obtain ⟨e2,h⟩:=xBZ (f:=prLine wEdge) (ok:=fun _=>True) (fun x y r s _ _ h=>xGI _ h) fe ge _ _ (fun _ _=>trivial) (fun _ _=>trivial)
  (fun x t _=>ne (tk 101 fk fi fv (by decide) (by decide) (by decide)) (fun _ _=>rfl) x t) (fun x t _=>ne (tk 101 gk gi gv (by decide) (by decide) (by decide)) (fun _ _=>rfl) x t) h
 obtain ⟨e3,h⟩:=xBZ (f:=prLine wKill) (ok:=fun _=>True) (fun x y r s _ _ h=>xGI _ h) fk gk _ _ (fun _ _=>trivial) (fun _ _=>trivial)
  (fun x t _=>ne (ti 107 fi fv (by decide) (by decide)) (fun _ _=>rfl) x t) (fun x t _=>ne (ti 107 gi gv (by decide) (by decide)) (fun _ _=>rfl) x t) h
 obtain ⟨e4,h⟩:=xBZ (f:=prLine wInv) (ok:=fun _=>True) (fun x y r s _ _ h=>xGI _ h) fi gi _ _ (fun _ _=>trivial) (fun _ _=>trivial)
  (fun x t _=>ne (tl 105 fv (by decide)) (fun _ _=>rfl) x t) (fun x t _=>ne (tl 105 gv (by decide)) (fun _ _=>rfl) x t) h
 obtain ⟨e5,_⟩:=xBZ (f:=oE b.regions) (ok:=fun x=>okI b.regions.length x.1) (fun x y r s hx hy h=>xIJ G hx hy h) fv gv _ _
  (fun x hx=>⟨(hf.li x hx).1,(hf.li x hx).2.1⟩) (fun x hx=>⟨(hg.li x hx).1,(hg.li x hx).2.1⟩)
  (fun x t _=>ne (c:=108) (by simp [third]) (fun _ _=>rfl) x t) (fun x t _=>ne (c:=108) (by simp [third]) (fun _ _=>rfl) x t) h
 rw [e1,e2,e3,e4,e5]
end
end Go.Proofs.YtmknfbfppmkcfaaGreatDoor
