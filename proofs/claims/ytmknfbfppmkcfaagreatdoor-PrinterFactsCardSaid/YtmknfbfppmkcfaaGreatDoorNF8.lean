/-
  PrinterFacts: the texts that this claim has beyond those of PrinterPlaces. (part 8)
-/
import Derived.Test.YtmknfbfppmkcfaaGreatDoorNF7
import Derived.Lib.Hide
import Derived.Below
import Derived.WalkSmall
import Derived.Laws.World
import Derived.Test.YtmknfbfppmkcfaaGreatDoorProg
import Derived.WalkKit
import Derived.WalkSpells
import Derived.WalkLawsBesides
import Derived.Deep.RegionHeld3
import Derived.Deep.DeepFit
import Derived.Deep.QuietTactic
import Derived.BigQuiet
import Derived.OwnWalk
import Derived.Maps.AppendAt
import Derived.Deep.DeepCutAuto
import Derived.StillTailTactics
import Derived.Lib.ItoaNum
import Derived.Lib.Join
import Derived.RangeFuncNested
import Derived.RangeFuncBound
import Derived.RangeFuncCalls
import Derived.RangeFuncLeaves
import Derived.OwnWalkIn
import Derived.TacticsInMore
import Derived.LoopNIn
import Derived.LoopIn
import Derived.Shelf.Abstract
import Derived.OrdersHeld
import Derived.Deep.RegionHeld
import Derived.Test.YtmknfbfppmkcfaaGreatDoorSg
import Derived.Maps.OwnSet
import Derived.Maps.OwnOps
import Derived.StringKeys
import Derived.Lib.ItoaLen
import Derived.Deep.LoopGhost
import Derived.WideKeyPair
import Derived.WideKeyArr
import Derived.Deep.MidRow
import Derived.Test.YtmknfbfppmkcfaaGreatDoorSh
import Derived.Laws.IdiomStrings
import Derived.RangeFuncBox
import Derived.Test.YtmknfbfppmkcfaaGreatDoorSj
import Derived.Lib.AppendIntMem
import Derived.Lib.AppendStr
import Derived.Lib.Builder
import Derived.Deep.CutBlock
import Derived.Test.YtmknfbfppmkcfaaGreatDoorRows
import Derived.WalkMore
import Derived.ProofKit
import Derived.Deep.Slices
import Derived.Deep.Fields
import Derived.Lib.SmallJoins
import Derived.OpenShut
import Derived.LaidMore
import Derived.Stop.Joined
import Derived.Stop.LaidErr
import Derived.Lay
import Derived.SevenTiedAt
import Derived.Lib.LaidTab
import Derived.Test.YtmknfbfppmkcfaaGreatDoorTie
import Derived.Test.YtmknfbfppmkcfaaGreatDoorCards
import Derived.JoinedOf
import Derived.SizedLaws
namespace Go.Proofs.YtmknfbfppmkcfaaGreatDoor
set_option maxRecDepth 100000
set_option maxHeartbeats 16000000
section
open Go Go.RowKit Go.Maps
theorem xEG {b:Bdy} {bh:BH} {w:World} (H:Rk w b bh) (t:Trm) (A B C:Option Addr) (c d f:Nat) (ht:Slc 1 RInt w A c t.targets) (hl:Slc 4 ROp w B d t.args) (hp:Slc 2 RPj w C f t.place.proj) (hk:t.kind=0) (hfd:fieldsT t=false):
 Calls Tryz.prog 56 #[.agg (bdC b bh).toArray,.agg (tmC t A c B d C f).toArray] w fun e' w'=>e' = .returned (.int .i64 (tmE b t))/\Below w.heap.size w w':=by
 have HZ:=aF (fun W=>xAF t.place C f W);have HF:Hid (tmE b t=2):=aF (by rw [tmE,aZ (by omega),bA hfd]);generalize tmE b t=R at HF ⊢;have hfd2:=hfd;unfold fieldsT at hfd2;rw [hk] at hfd2;simp only [reduceIte,Int.reduceEq] at hfd2;obtain ⟨n,hn⟩:∃n,t.targets.length=n:=⟨_,rfl⟩;obtain ⟨m,hm⟩:∃m,t.args.length=m:=⟨_,rfl⟩;obtain ⟨z,hzz⟩:∃z,zeroP t.place=z:=⟨_,rfl⟩;have hmb:m<=9223372036854775807:=by have h1:=hl.le;have h2:=hl.big;omega
 have hnb:n<=9223372036854775807:=by have h1:=ht.le;have h2:=ht.big;omega
 obtain ⟨u,hu⟩:∃u,decide (t.name.size=0)=u:=⟨_,rfl⟩;have hne:=nH t.name;rw [hu] at hne;try rw [hu] at hfd2
 rw [hn] at hfd2;try rw [hm] at hfd2
 try rw [hzz] at hfd2
 rw [hzz] at HZ;clear H ht hl hp hfd hzz;unfold bdC tmC;rw [hk,hn,hm];clear hk hn hm;by_cases hn:n=1
 case neg=>
  have e1:((n:Int) != 1)=true:=by simp;omega
  clear hfd2 hne HZ hu;go_enter Tryz.func56,Tryz.ntmps56
  go_wp2_with fail
  go_quiet (fail)
  all_goals go_wp2_with fail
  all_goals first
   | (exfalso;omega)
   | (go_ret;exact ⟨by rw [HF.out];rfl,by first | exact aG aH _ | exact aH⟩)
 subst hn;cases u
 case false=>
  clear hfd2 HZ hu;go_enter Tryz.func56,Tryz.ntmps56
  go_wp2_with fail
  go_quiet (fail)
  all_goals go_wp2_with fail
  all_goals first
   | (exfalso;omega)
   | (go_ret;exact ⟨by rw [HF.out];rfl,by first | exact aG aH _ | exact aH⟩)
 have hnm:t.name={ data:= #[] }:=by
  have h:=of_decide_eq_true hu;cases hh:t.name with
  | mk dd=>
    rw [hh] at h;exact congrArg ByteArray.mk (Array.eq_empty_of_size_eq_zero (show dd.size=0 from h))
 rw [hnm];clear hu hne hnm;cases z
 case false=>
  clear hfd2;go_enter Tryz.func56,Tryz.ntmps56
  go_wp2_with fail
  have hS:=xAJ w (bdC b bh) (tmL 0 1 A c B m d t C f { data:= #[] }) arT 28 61 157;refine cQ (S:=fun X=>aD w (bdC b bh) (tmL 0 1 A c B m d t C f { data:= #[] }) arT X) [0,1,2,3,4,5,6,7,8,9,10,11,12,13,14,15,16,17,18,19,20,21,22,23,24,25,26,27,28,29,30,31,32,33,34,35,36,37,38,39,40,41,42,43,44,45,46,47,48,49,50,51,52,53,54,55,56,57] (by kernel_rfl) ?_;(iterate 28 (refine cR (v:=?_) ?_ hS ?_;rotate_left;(next=>(rintro X ⟨hX,hY,hA,hZ⟩;obtain ⟨s0,s1,s2,s3,s4,s5⟩:=aR hY;have a0:=hA 0 _ rfl;(try simp only [aI]);go_simp;rfl));simp only [aM]));(refine cM (fun K1 hK1=>?_);simp only [aM];rw [bA (by rfl)];go_simp);refine (HZ.out _).mono ?_;rintro e' w1 ⟨rfl,hb⟩;replace hS:=bJ (cK hS.1 hb) (bJ (cK hS.2.1 hb) (bJ (cK hS.2.2.1 hb) (hS.2.2.2.trans (hb.mono hS.2.2.2.size))));have HS2:=aF hS;clear hb;refine hK1.out _ _ (fun _=>hS) ?_;clear hK1;(iterate 4 (refine cR (v:=?_) ?_ hS ?_;rotate_left;(next=>(rintro X ⟨hX,hY,hA,hZ⟩;obtain ⟨s0,s1,s2,s3,s4,s5⟩:=aR hY;have a0:=hA 0 _ rfl;(try simp only [aI]);go_simp;rfl));simp only [aM]));(iterate 9 (refine cU (v:=undef) (by kernel_rfl) (fun _ _ _ h=>h) (Or.inr ⟨by rfl,rfl⟩) hS ?_;simp only [aM]));(iterate 2 (refine cR (v:=?_) ?_ hS ?_;rotate_left;(next=>(rintro X ⟨hX,hY,hA,hZ⟩;obtain ⟨s0,s1,s2,s3,s4,s5⟩:=aR hY;have a0:=hA 0 _ rfl;(try simp only [aI]);go_simp;rfl));simp only [aM]));(iterate 13 (refine cU (v:=undef) (by kernel_rfl) (fun _ _ _ h=>h) (Or.inr ⟨by rfl,rfl⟩) hS ?_;simp only [aM]));((refine cR (v:=?_) ?_ hS ?_;rotate_left;(next=>(rintro X ⟨hX,hY,hA,hZ⟩;obtain ⟨s0,s1,s2,s3,s4,s5⟩:=aR hY;have a0:=hA 0 _ rfl;(try simp only [aI]);go_simp;rfl));simp only [aM]))
  refine cV ?_;clear hS;go_wp2_with fail
  all_goals first
   | (exfalso;omega)
   | (go_ret;exact ⟨by rw [HF.out];rfl,HS2.out.2.2.2⟩)
 have hm0:0<m:=by simp at hfd2;omega
 have e3:decide (0<(m:Int))=true:=by simp;omega
 clear hfd2;go_enter Tryz.func56,Tryz.ntmps56
 go_wp2_with fail
 have hS:=xAJ w (bdC b bh) (tmL 0 1 A c B m d t C f { data:= #[] }) arT 28 61 157;refine cQ (S:=fun X=>aD w (bdC b bh) (tmL 0 1 A c B m d t C f { data:= #[] }) arT X) [0,1,2,3,4,5,6,7,8,9,10,11,12,13,14,15,16,17,18,19,20,21,22,23,24,25,26,27,28,29,30,31,32,33,34,35,36,37,38,39,40,41,42,43,44,45,46,47,48,49,50,51,52,53,54,55,56,57] (by kernel_rfl) ?_;(iterate 28 (refine cR (v:=?_) ?_ hS ?_;rotate_left;(next=>(rintro X ⟨hX,hY,hA,hZ⟩;obtain ⟨s0,s1,s2,s3,s4,s5⟩:=aR hY;have a0:=hA 0 _ rfl;(try simp only [aI]);go_simp;rfl));simp only [aM]));(refine cM (fun K1 hK1=>?_);simp only [aM];rw [bA (by rfl)];go_simp);refine (HZ.out _).mono ?_;rintro e' w1 ⟨rfl,hb⟩;replace hS:=bJ (cK hS.1 hb) (bJ (cK hS.2.1 hb) (bJ (cK hS.2.2.1 hb) (hS.2.2.2.trans (hb.mono hS.2.2.2.size))));have HS2:=aF hS;clear hb;refine hK1.out _ _ (fun _=>hS) ?_;clear hK1;(iterate 8 (refine cR (v:=?_) ?_ hS ?_;rotate_left;(next=>(rintro X ⟨hX,hY,hA,hZ⟩;obtain ⟨s0,s1,s2,s3,s4,s5⟩:=aR hY;have a0:=hA 0 _ rfl;(try simp only [aI]);go_simp;rfl));simp only [aM]));(iterate 4 (refine cU (v:=undef) (by kernel_rfl) (fun _ _ _ h=>h) (Or.inr ⟨by rfl,rfl⟩) hS ?_;simp only [aM]));(iterate 17 (refine cR (v:=?_) ?_ hS ?_;rotate_left;(next=>(rintro X ⟨hX,hY,hA,hZ⟩;obtain ⟨s0,s1,s2,s3,s4,s5⟩:=aR hY;have a0:=hA 0 _ rfl;(try simp only [aI]);go_simp;rfl));simp only [aM]));refine cV ?_;clear hS;go_wp2_with fail
 all_goals first
  | (exfalso;omega)
  | (go_ret;exact ⟨by rw [HF.out];rfl,HS2.out.2.2.2⟩)
theorem xCN {b:Bdy} {bh:BH} {w:World} (H:Rk w b bh) (t:Trm) (A B C:Option Addr) (c d f:Nat) (ht:Slc 1 RInt w A c t.targets) (hl:Slc 4 ROp w B d t.args) (hp:Slc 2 RPj w C f t.place.proj) (hk:t.kind=0) (hfd:fieldsT t=true):
 Calls Tryz.prog 56 #[.agg (bdC b bh).toArray,.agg (tmC t A c B d C f).toArray] w fun e' w'=>e' = .returned (.int .i64 (tmE b t))/\Below w.heap.size w w':=by
 have HZ:=aF (fun W=>xAF t.place C f W);have HOP:=aF (fun W (hb:Below w.heap.size w W) (o:Opd) (A:Option Addr) (c:Nat) (hp:Slc 2 RPj w A c o.place.proj)=>xAE (H.keep hb) o A c (hp.keep RPj.keeps hb));have hfd2:=hfd;unfold fieldsT at hfd2;rw [hk] at hfd2;simp only [reduceIte,Int.reduceEq,bQ,decide_eq_true_eq] at hfd2;obtain ⟨⟨⟨hn,hm⟩,hzz⟩,hnm0⟩:=hfd2;obtain ⟨Q,hQ⟩:∃Q,(if opsE b t.args []≠0 then opsE b t.args [] else 0)=Q:=⟨_,rfl⟩;have HQ:=aF hQ
 have HF:Hid (tmE b t=if (t.targets.drop 0).all (fun k=>decide (0<=k/\k<(b.blocks.length:Int)))=true then Q else 3):=aF (by
  rw [bX,tmE,aZ (by omega),aZ (by rw [hfd];simp),<- hQ];cases t.targets.all (fun k=>decide (0<=k/\k<(b.blocks.length:Int)))
  ·simp
  ·rw [bV hm,rT]
   simp [hk])
 generalize tmE b t=R at HF ⊢;have hblkl:=H.at_.blk.le;have hblkb:=H.at_.blk.big;have hle2:=ht.le;have hbig2:=ht.big;have hle:=hl.le;have hbig:=hl.big;have HTG:=aF ht;have HL:=aF hl
 have hnm:t.name={ data:= #[] }:=by
  have h:=hnm0;cases hh:t.name with
  | mk dd=>
    rw [hh] at h;exact congrArg ByteArray.mk (Array.eq_empty_of_size_eq_zero (show dd.size=0 from h))
 rw [hzz] at HZ;obtain ⟨m,hmm⟩:∃m,t.args.length=m:=⟨_,rfl⟩;have HN:=aF hmm;clear hQ H ht hl hp hfd hnm0;unfold bdC at *;unfold tmC;rw [hk,hn,hmm,hnm];rw [hmm] at hle;obtain rfl:m=0:=by omega
 have HTN:=aF hn;clear hn hk hmm hnm hm;clear hzz;go_enter Tryz.func56,Tryz.ntmps56
 go_wp2_with fail
 have hS:=xAJ w (bdC b bh) (tmL 0 1 A c B 0 d t C f { data:= #[] }) arT 28 61 157;refine cQ (S:=fun X=>aD w (bdC b bh) (tmL 0 1 A c B 0 d t C f { data:= #[] }) arT X) [0,1,2,3,4,5,6,7,8,9,10,11,12,13,14,15,16,17,18,19,20,21,22,23,24,25,26,27,28,29,30,31,32,33,34,35,36,37,38,39,40,41,42,43,44,45,46,47,48,49,50,51,52,53,54,55,56,57] (by kernel_rfl) ?_;(iterate 28 (refine cR (v:=?_) ?_ hS ?_;rotate_left;(next=>(rintro X ⟨hX,hY,hA,hZ⟩;obtain ⟨s0,s1,s2,s3,s4,s5⟩:=aR hY;have a0:=hA 0 _ rfl;(try simp only [aI]);go_simp;rfl));simp only [aM]));(refine cM (fun K1 hK1=>?_);simp only [aM];rw [bA (by rfl)];go_simp);refine (HZ.out _).mono ?_;rintro e' w1 ⟨rfl,hb⟩;replace hS:=bJ (cK hS.1 hb) (bJ (cK hS.2.1 hb) (bJ (cK hS.2.2.1 hb) (hS.2.2.2.trans (hb.mono hS.2.2.2.size))));have HS2:=aF hS;clear hb;refine hK1.out _ _ (fun _=>hS) ?_;clear hK1;(iterate 8 (refine cR (v:=?_) ?_ hS ?_;rotate_left;(next=>(rintro X ⟨hX,hY,hA,hZ⟩;obtain ⟨s0,s1,s2,s3,s4,s5⟩:=aR hY;have a0:=hA 0 _ rfl;(try simp only [aI]);go_simp;rfl));simp only [aM]));(iterate 4 (refine cU (v:=undef) (by kernel_rfl) (fun _ _ _ h=>h) (Or.inr ⟨by rfl,rfl⟩) hS ?_;simp only [aM]));(iterate 17 (refine cR (v:=?_) ?_ hS ?_;rotate_left;(next=>(rintro X ⟨hX,hY,hA,hZ⟩;obtain ⟨s0,s1,s2,s3,s4,s5⟩:=aR hY;have a0:=hA 0 _ rfl;(try simp only [aI]);go_simp;rfl));simp only [aM]));refine cV ?_;clear hS;go_wp2_with fail
 have HY:=aF HS2.out.1;have HZZ:=aF HS2.out.2.1;have HB:=aF HS2.out.2.2.2;clear HS2;go_loopw [7] (fun v wr=>∃k:Nat,k<=1/\v = .int .i64 k/\Hid (aA (bdC b bh) wr w.heap.size)/\Hid (aA (tmL 0 1 A c B 0 d t C f { data:= #[] }) wr (w.heap.size+1))/\Hid (Below w.heap.size w wr)/\Hid (R=if (t.targets.drop k).all (fun k=>decide (0<=k/\k<(b.blocks.length:Int)))=true then Q else 3)) (fun v _=>1 - (intOf v).toNat)
 case atStart=>exact ⟨0,by omega,rfl,HY,HZZ,HB,HF⟩
 case round=>
  clear HY HZZ HB HF;obtain ⟨k,hk2,rfl,HY,HZ,HB,hr⟩:=hrel;obtain ⟨y0,y1,y2,y3,y4,y5,y6⟩:=aS HY.out;obtain ⟨z0,z1,z2,z3,z4,z5⟩:=aR HZ.out;by_cases hlt:k<1
  next=>
   have hlt2:k<t.targets.length:=by rw [HTN.out];exact hlt
   have hd:=cS hlt2;obtain ⟨b5,o5,rfl,hb5,hx⟩:=HTG.out.sl.at_ hlt2;obtain ⟨x,hxx⟩:∃x,t.targets[k]=x:=⟨_,rfl⟩;rw [hxx] at hd hx;have x0:wr.cell? ⟨b5,o5+k,none⟩=some (.int .i64 x):=cJ HB.out (by simpa [RInt] using hx);by_cases hin:0<=x/\x<(b.blocks.length:Int)
   ·have HF2:Hid (R=if (t.targets.drop (k+1)).all (fun k=>decide (0<=k/\k<(b.blocks.length:Int)))=true then Q else 3):=aF (by rw [hr.out,hd,cB];simp [hin]);have e1:decide (x<0)=false:=by simp;omega
    have e2:decide ((b.blocks.length:Int)<=x)=false:=by simp;omega
    clear hd hx hxx hr hin;go_wp2_with fail
    go_quiet (fail)
    all_goals go_wp2_with fail
    go_roundw
    case rel=>exact ⟨k+1,by omega,by go_num,aF HY.out,aF HZ.out,aF (aG HB.out _),HF2⟩
    case measure=>simp [intOf];omega
   ·have HF2:Hid (R=3):=aF (by rw [hr.out,hd,cB];simp;intro h1 h2;exact absurd ⟨h1,h2⟩ hin);clear hd hx hxx hr;by_cases hx0:x<0
    ·have e1:decide (x<0)=true:=by simp;omega
     clear hin hx0;go_wp2_with fail
     go_quiet (fail)
     all_goals go_wp2_with fail
     go_ret;exact ⟨by rw [HF2.out];rfl,aG HB.out _⟩
    ·have e1:decide (x<0)=false:=by simp;omega
     have e2:decide ((b.blocks.length:Int)<=x)=true:=by simp;omega
     clear hin hx0;go_wp2_with fail
     go_quiet (fail)
     all_goals go_wp2_with fail
     go_ret;exact ⟨by rw [HF2.out];rfl,aG HB.out _⟩
  next=>
   have HR:Hid (R=Q):=aF (by rw [hr.out,bE (by rw [HTN.out];omega)];rfl);clear hr;have HOPS:Hid (R=if opsE b t.args []≠0 then opsE b t.args [] else 0):=aF (by rw [HR.out,<- HQ.out]);clear HR HQ;go_wp2_with fail
   clear hlt hk2;go_loopw [8] (fun v wr=>∃j:Nat,j<=0/\v = .int .i64 j/\Hid (aA (bdC b bh) wr w.heap.size)/\Hid (aA (tmL 0 1 A c B 0 d t C f { data:= #[] }) wr (w.heap.size+1))/\Hid (Below w.heap.size w wr)/\Hid (opsE b t.args []=opsE b (t.args.drop j) [])) (fun v _=>0 - (intOf v).toNat)
   case atStart=>exact ⟨0,by omega,rfl,aF HY.out,aF HZ.out,HB,aF rfl⟩
   case round=>
    clear HY HZ HB y0 y1 y2 y3 y4 y5 y6 z0 z1 z2 z3 z4 z5;obtain ⟨j,hj,rfl,HY,HZ,HB,hr⟩:=hrel;obtain ⟨y0,y1,y2,y3,y4,y5,y6⟩:=aS HY.out;obtain ⟨z0,z1,z2,z3,z4,z5⟩:=aR HZ.out;by_cases hlt:j<0
    next=>exact absurd hlt (by omega)
    next=>
     have hz0:opsE b t.args []=0:=(by rw [hr.out,bE (by rw [HN.out];omega),rT]);have HQ2:Hid (R=0):=aF (by rw [HOPS.out,aZ (by simp [hz0])]);clear hr hz0;go_wp2_with fail
     go_quiet (fail)
     all_goals go_wp2_with fail
     go_ret;exact ⟨by rw [HQ2.out];rfl,aG HB.out _⟩
theorem xEF {b:Bdy} {bh:BH} {w:World} (H:Rk w b bh) (t:Trm) (A B C:Option Addr) (c d f:Nat) (ht:Slc 1 RInt w A c t.targets) (hl:Slc 4 ROp w B d t.args) (hp:Slc 2 RPj w C f t.place.proj) (hk:t.kind=1) (hfd:fieldsT t=false):
 Calls Tryz.prog 56 #[.agg (bdC b bh).toArray,.agg (tmC t A c B d C f).toArray] w fun e' w'=>e' = .returned (.int .i64 (tmE b t))/\Below w.heap.size w w':=by
 have HZ:=aF (fun W=>xAF t.place C f W);have HF:Hid (tmE b t=2):=aF (by rw [tmE,aZ (by omega),bA hfd]);generalize tmE b t=R at HF ⊢;have hfd2:=hfd;unfold fieldsT at hfd2;rw [hk] at hfd2;simp only [reduceIte,Int.reduceEq] at hfd2;obtain ⟨n,hn⟩:∃n,t.targets.length=n:=⟨_,rfl⟩;obtain ⟨m,hm⟩:∃m,t.args.length=m:=⟨_,rfl⟩;obtain ⟨z,hzz⟩:∃z,zeroP t.place=z:=⟨_,rfl⟩;have hmb:m<=9223372036854775807:=by have h1:=hl.le;have h2:=hl.big;omega
 have hnb:n<=9223372036854775807:=by have h1:=ht.le;have h2:=ht.big;omega
 obtain ⟨u,hu⟩:∃u,decide (t.name.size=0)=u:=⟨_,rfl⟩;have hne:=nH t.name;rw [hu] at hne;try rw [hu] at hfd2
 rw [hn] at hfd2;try rw [hm] at hfd2
 try rw [hzz] at hfd2
 rw [hzz] at HZ;clear H ht hl hp hfd hzz;unfold bdC tmC;rw [hk,hn,hm];clear hk hn hm;by_cases hn:n=2
 case neg=>
  have e1:((n:Int) != 2)=true:=by simp;omega
  clear hfd2 hne HZ hu;go_enter Tryz.func56,Tryz.ntmps56
  go_wp2_with fail
  go_quiet (fail)
  all_goals go_wp2_with fail
  all_goals first
   | (exfalso;omega)
   | (go_ret;exact ⟨by rw [HF.out];rfl,by first | exact aG aH _ | exact aH⟩)
 subst hn;cases u
 case false=>
  clear hfd2 HZ hu;go_enter Tryz.func56,Tryz.ntmps56
  go_wp2_with fail
  go_quiet (fail)
  all_goals go_wp2_with fail
  all_goals first
   | (exfalso;omega)
   | (go_ret;exact ⟨by rw [HF.out];rfl,by first | exact aG aH _ | exact aH⟩)
 have hnm:t.name={ data:= #[] }:=by
  have h:=of_decide_eq_true hu;cases hh:t.name with
  | mk dd=>
    rw [hh] at h;exact congrArg ByteArray.mk (Array.eq_empty_of_size_eq_zero (show dd.size=0 from h))
 rw [hnm];clear hu hne hnm;cases z
 case false=>
  clear hfd2;go_enter Tryz.func56,Tryz.ntmps56
  go_wp2_with fail
  have hS:=xAJ w (bdC b bh) (tmL 1 2 A c B m d t C f { data:= #[] }) arT 28 61 157;refine cQ (S:=fun X=>aD w (bdC b bh) (tmL 1 2 A c B m d t C f { data:= #[] }) arT X) [0,1,2,3,4,5,6,7,8,9,10,11,12,13,14,15,16,17,18,19,20,21,22,23,24,25,26,27,28,29,30,31,32,33,34,35,36,37,38,39,40,41,42,43,44,45,46,47,48,49,50,51,52,53,54,55,56,57] (by kernel_rfl) ?_;(iterate 28 (refine cR (v:=?_) ?_ hS ?_;rotate_left;(next=>(rintro X ⟨hX,hY,hA,hZ⟩;obtain ⟨s0,s1,s2,s3,s4,s5⟩:=aR hY;have a0:=hA 1 _ rfl;(try simp only [aI]);go_simp;rfl));simp only [aM]));(refine cM (fun K1 hK1=>?_);simp only [aM];rw [bA (by rfl)];go_simp);refine (HZ.out _).mono ?_;rintro e' w1 ⟨rfl,hb⟩;replace hS:=bJ (cK hS.1 hb) (bJ (cK hS.2.1 hb) (bJ (cK hS.2.2.1 hb) (hS.2.2.2.trans (hb.mono hS.2.2.2.size))));have HS2:=aF hS;clear hb;refine hK1.out _ _ (fun _=>hS) ?_;clear hK1;(iterate 4 (refine cR (v:=?_) ?_ hS ?_;rotate_left;(next=>(rintro X ⟨hX,hY,hA,hZ⟩;obtain ⟨s0,s1,s2,s3,s4,s5⟩:=aR hY;have a0:=hA 1 _ rfl;(try simp only [aI]);go_simp;rfl));simp only [aM]));(iterate 9 (refine cU (v:=undef) (by kernel_rfl) (fun _ _ _ h=>h) (Or.inr ⟨by rfl,rfl⟩) hS ?_;simp only [aM]));(iterate 2 (refine cR (v:=?_) ?_ hS ?_;rotate_left;(next=>(rintro X ⟨hX,hY,hA,hZ⟩;obtain ⟨s0,s1,s2,s3,s4,s5⟩:=aR hY;have a0:=hA 1 _ rfl;(try simp only [aI]);go_simp;rfl));simp only [aM]));(iterate 13 (refine cU (v:=undef) (by kernel_rfl) (fun _ _ _ h=>h) (Or.inr ⟨by rfl,rfl⟩) hS ?_;simp only [aM]));((refine cR (v:=?_) ?_ hS ?_;rotate_left;(next=>(rintro X ⟨hX,hY,hA,hZ⟩;obtain ⟨s0,s1,s2,s3,s4,s5⟩:=aR hY;have a0:=hA 1 _ rfl;(try simp only [aI]);go_simp;rfl));simp only [aM]))
  refine cV ?_;clear hS;go_wp2_with fail
  all_goals first
   | (exfalso;omega)
   | (go_ret;exact ⟨by rw [HF.out];rfl,HS2.out.2.2.2⟩)
 have hm0:m≠1:=by simp at hfd2;omega
 have e3:((m:Int) != 1)=true:=by simp;omega
 clear hfd2;go_enter Tryz.func56,Tryz.ntmps56
 go_wp2_with fail
 have hS:=xAJ w (bdC b bh) (tmL 1 2 A c B m d t C f { data:= #[] }) arT 28 61 157;refine cQ (S:=fun X=>aD w (bdC b bh) (tmL 1 2 A c B m d t C f { data:= #[] }) arT X) [0,1,2,3,4,5,6,7,8,9,10,11,12,13,14,15,16,17,18,19,20,21,22,23,24,25,26,27,28,29,30,31,32,33,34,35,36,37,38,39,40,41,42,43,44,45,46,47,48,49,50,51,52,53,54,55,56,57] (by kernel_rfl) ?_;(iterate 28 (refine cR (v:=?_) ?_ hS ?_;rotate_left;(next=>(rintro X ⟨hX,hY,hA,hZ⟩;obtain ⟨s0,s1,s2,s3,s4,s5⟩:=aR hY;have a0:=hA 1 _ rfl;(try simp only [aI]);go_simp;rfl));simp only [aM]));(refine cM (fun K1 hK1=>?_);simp only [aM];rw [bA (by rfl)];go_simp);refine (HZ.out _).mono ?_;rintro e' w1 ⟨rfl,hb⟩;replace hS:=bJ (cK hS.1 hb) (bJ (cK hS.2.1 hb) (bJ (cK hS.2.2.1 hb) (hS.2.2.2.trans (hb.mono hS.2.2.2.size))));have HS2:=aF hS;clear hb;refine hK1.out _ _ (fun _=>hS) ?_;clear hK1;(iterate 8 (refine cR (v:=?_) ?_ hS ?_;rotate_left;(next=>(rintro X ⟨hX,hY,hA,hZ⟩;obtain ⟨s0,s1,s2,s3,s4,s5⟩:=aR hY;have a0:=hA 1 _ rfl;(try simp only [aI]);go_simp;rfl));simp only [aM]));(iterate 4 (refine cR (v:=?_) ?_ hS ?_;rotate_left;(next=>(rintro X ⟨hX,hY,hA,hZ⟩;obtain ⟨s0,s1,s2,s3,s4,s5⟩:=aR hY;have a0:=hA 1 _ rfl;(try simp only [aI]);go_simp;rfl));simp only [aM]));(iterate 3 (refine cR (v:=?_) ?_ hS ?_;rotate_left;(next=>(rintro X ⟨hX,hY,hA,hZ⟩;obtain ⟨s0,s1,s2,s3,s4,s5⟩:=aR hY;have a0:=hA 1 _ rfl;(try simp only [aI]);go_simp;rfl));simp only [aM]));(iterate 13 (refine cU (v:=undef) (by kernel_rfl) (fun _ _ _ h=>h) (Or.inr ⟨by rfl,rfl⟩) hS ?_;simp only [aM]));((refine cR (v:=?_) ?_ hS ?_;rotate_left;(next=>(rintro X ⟨hX,hY,hA,hZ⟩;obtain ⟨s0,s1,s2,s3,s4,s5⟩:=aR hY;have a0:=hA 1 _ rfl;(try simp only [aI]);go_simp;rfl));simp only [aM]))
 refine cV ?_;clear hS;go_wp2_with fail
 all_goals first
  | (exfalso;omega)
  | (go_ret;exact ⟨by rw [HF.out];rfl,HS2.out.2.2.2⟩)
theorem xCM {b:Bdy} {bh:BH} {w:World} (H:Rk w b bh) (t:Trm) (A B C:Option Addr) (c d f:Nat) (ht:Slc 1 RInt w A c t.targets) (hl:Slc 4 ROp w B d t.args) (hp:Slc 2 RPj w C f t.place.proj) (hk:t.kind=1) (hfd:fieldsT t=true):
 Calls Tryz.prog 56 #[.agg (bdC b bh).toArray,.agg (tmC t A c B d C f).toArray] w fun e' w'=>e' = .returned (.int .i64 (tmE b t))/\Below w.heap.size w w':=by
 have HZ:=aF (fun W=>xAF t.place C f W);have HOP:=aF (fun W (hb:Below w.heap.size w W) (o:Opd) (A:Option Addr) (c:Nat) (hp:Slc 2 RPj w A c o.place.proj)=>xAE (H.keep hb) o A c (hp.keep RPj.keeps hb));have HKK:=aF (fun W (hb:Below w.heap.size w W) (o:Opd) (A:Option Addr) (c:Nat) (hp:Slc 2 RPj w A c o.place.proj) (ho:opE b o=0)=>xAN (H.keep hb).at_ H.ok o 1 A c (hp.keep RPj.keeps hb) ho);have hfd2:=hfd;unfold fieldsT at hfd2;rw [hk] at hfd2;simp only [reduceIte,Int.reduceEq,bQ,decide_eq_true_eq] at hfd2;obtain ⟨⟨⟨hn,hm⟩,hzz⟩,hnm0⟩:=hfd2;obtain ⟨Q,hQ⟩:∃Q,(if opsE b t.args []≠0 then opsE b t.args [] else fail22 (!t.args.all (fun o=>decide (kindO b o=1))))=Q:=⟨_,rfl⟩;have HQ:=aF hQ
 have HF:Hid (tmE b t=if (t.targets.drop 0).all (fun k=>decide (0<=k/\k<(b.blocks.length:Int)))=true then Q else 3):=aF (by
  rw [bX,tmE,aZ (by omega),aZ (by rw [hfd];simp),<- hQ];cases t.targets.all (fun k=>decide (0<=k/\k<(b.blocks.length:Int)))
  ·simp
  ·obtain ⟨o,ho⟩:=List.length_eq_one_iff.1 hm;rw [ho];by_cases h1:opE b o=0
   ·rw [lN h1,rT];by_cases h2:kindO b o=1
    ·simp [hk,h1,h2]
    ·simp [hk,h1,h2]
   ·rw [nW h1]
    simp [hk,h1])
 generalize tmE b t=R at HF ⊢;have hblkl:=H.at_.blk.le;have hblkb:=H.at_.blk.big;have hle2:=ht.le;have hbig2:=ht.big;have hle:=hl.le;have hbig:=hl.big;have HTG:=aF ht;have HL:=aF hl
 have hnm:t.name={ data:= #[] }:=by
  have h:=hnm0;cases hh:t.name with
  | mk dd=>
    rw [hh] at h;exact congrArg ByteArray.mk (Array.eq_empty_of_size_eq_zero (show dd.size=0 from h))
 rw [hzz] at HZ;obtain ⟨m,hmm⟩:∃m,t.args.length=m:=⟨_,rfl⟩;have HN:=aF hmm;clear hQ H ht hl hp hfd hnm0;unfold bdC at *;unfold tmC;rw [hk,hn,hmm,hnm];rw [hmm] at hle;obtain rfl:m=1:=by omega
 have HTN:=aF hn;clear hn hk hmm hnm hm;clear hzz;go_enter Tryz.func56,Tryz.ntmps56
 go_wp2_with fail
 have hS:=xAJ w (bdC b bh) (tmL 1 2 A c B 1 d t C f { data:= #[] }) arT 28 61 157;refine cQ (S:=fun X=>aD w (bdC b bh) (tmL 1 2 A c B 1 d t C f { data:= #[] }) arT X) [0,1,2,3,4,5,6,7,8,9,10,11,12,13,14,15,16,17,18,19,20,21,22,23,24,25,26,27,28,29,30,31,32,33,34,35,36,37,38,39,40,41,42,43,44,45,46,47,48,49,50,51,52,53,54,55,56,57] (by kernel_rfl) ?_;(iterate 28 (refine cR (v:=?_) ?_ hS ?_;rotate_left;(next=>(rintro X ⟨hX,hY,hA,hZ⟩;obtain ⟨s0,s1,s2,s3,s4,s5⟩:=aR hY;have a0:=hA 1 _ rfl;(try simp only [aI]);go_simp;rfl));simp only [aM]));(refine cM (fun K1 hK1=>?_);simp only [aM];rw [bA (by rfl)];go_simp);refine (HZ.out _).mono ?_;rintro e' w1 ⟨rfl,hb⟩;replace hS:=bJ (cK hS.1 hb) (bJ (cK hS.2.1 hb) (bJ (cK hS.2.2.1 hb) (hS.2.2.2.trans (hb.mono hS.2.2.2.size))));have HS2:=aF hS;clear hb;refine hK1.out _ _ (fun _=>hS) ?_;clear hK1;(iterate 8 (refine cR (v:=?_) ?_ hS ?_;rotate_left;(next=>(rintro X ⟨hX,hY,hA,hZ⟩;obtain ⟨s0,s1,s2,s3,s4,s5⟩:=aR hY;have a0:=hA 1 _ rfl;(try simp only [aI]);go_simp;rfl));simp only [aM]));(iterate 4 (refine cR (v:=?_) ?_ hS ?_;rotate_left;(next=>(rintro X ⟨hX,hY,hA,hZ⟩;obtain ⟨s0,s1,s2,s3,s4,s5⟩:=aR hY;have a0:=hA 1 _ rfl;(try simp only [aI]);go_simp;rfl));simp only [aM]));(iterate 3 (refine cR (v:=?_) ?_ hS ?_;rotate_left;(next=>(rintro X ⟨hX,hY,hA,hZ⟩;obtain ⟨s0,s1,s2,s3,s4,s5⟩:=aR hY;have a0:=hA 1 _ rfl;(try simp only [aI]);go_simp;rfl));simp only [aM]));(iterate 4 (refine cR (v:=?_) ?_ hS ?_;rotate_left;(next=>(rintro X ⟨hX,hY,hA,hZ⟩;obtain ⟨s0,s1,s2,s3,s4,s5⟩:=aR hY;have a0:=hA 1 _ rfl;(try simp only [aI]);go_simp;rfl));simp only [aM]));(iterate 2 (refine cU (v:=undef) (by kernel_rfl) (fun _ _ _ h=>h) (Or.inr ⟨by rfl,rfl⟩) hS ?_;simp only [aM]));(iterate 2 (refine cR (v:=?_) ?_ hS ?_;rotate_left;(next=>(rintro X ⟨hX,hY,hA,hZ⟩;obtain ⟨s0,s1,s2,s3,s4,s5⟩:=aR hY;have a0:=hA 1 _ rfl;(try simp only [aI]);go_simp;rfl));simp only [aM]));(iterate 4 (refine cU (v:=undef) (by kernel_rfl) (fun _ _ _ h=>h) (Or.inr ⟨by rfl,rfl⟩) hS ?_;simp only [aM]));(iterate 2 (refine cR (v:=?_) ?_ hS ?_;rotate_left;(next=>(rintro X ⟨hX,hY,hA,hZ⟩;obtain ⟨s0,s1,s2,s3,s4,s5⟩:=aR hY;have a0:=hA 1 _ rfl;(try simp only [aI]);go_simp;rfl));simp only [aM]));refine cV ?_;clear hS;go_wp2_with fail
 have HY:=aF HS2.out.1;have HZZ:=aF HS2.out.2.1;have HB:=aF HS2.out.2.2.2;clear HS2;go_loopw [7] (fun v wr=>∃k:Nat,k<=2/\v = .int .i64 k/\Hid (aA (bdC b bh) wr w.heap.size)/\Hid (aA (tmL 1 2 A c B 1 d t C f { data:= #[] }) wr (w.heap.size+1))/\Hid (Below w.heap.size w wr)/\Hid (R=if (t.targets.drop k).all (fun k=>decide (0<=k/\k<(b.blocks.length:Int)))=true then Q else 3)) (fun v _=>2 - (intOf v).toNat)
 case atStart=>exact ⟨0,by omega,rfl,HY,HZZ,HB,HF⟩
 case round=>
  clear HY HZZ HB HF;obtain ⟨k,hk2,rfl,HY,HZ,HB,hr⟩:=hrel;obtain ⟨y0,y1,y2,y3,y4,y5,y6⟩:=aS HY.out;obtain ⟨z0,z1,z2,z3,z4,z5⟩:=aR HZ.out;by_cases hlt:k<2
  next=>
   have hlt2:k<t.targets.length:=by rw [HTN.out];exact hlt
   have hd:=cS hlt2;obtain ⟨b5,o5,rfl,hb5,hx⟩:=HTG.out.sl.at_ hlt2;obtain ⟨x,hxx⟩:∃x,t.targets[k]=x:=⟨_,rfl⟩;rw [hxx] at hd hx;have x0:wr.cell? ⟨b5,o5+k,none⟩=some (.int .i64 x):=cJ HB.out (by simpa [RInt] using hx);by_cases hin:0<=x/\x<(b.blocks.length:Int)
   ·have HF2:Hid (R=if (t.targets.drop (k+1)).all (fun k=>decide (0<=k/\k<(b.blocks.length:Int)))=true then Q else 3):=aF (by rw [hr.out,hd,cB];simp [hin]);have e1:decide (x<0)=false:=by simp;omega
    have e2:decide ((b.blocks.length:Int)<=x)=false:=by simp;omega
    clear hd hx hxx hr hin;go_wp2_with fail
    go_quiet (fail)
    all_goals go_wp2_with fail
    go_roundw
    case rel=>exact ⟨k+1,by omega,by go_num,aF HY.out,aF HZ.out,aF (aG HB.out _),HF2⟩
    case measure=>simp [intOf];omega
   ·have HF2:Hid (R=3):=aF (by rw [hr.out,hd,cB];simp;intro h1 h2;exact absurd ⟨h1,h2⟩ hin);clear hd hx hxx hr;by_cases hx0:x<0
    ·have e1:decide (x<0)=true:=by simp;omega
     clear hin hx0;go_wp2_with fail
     go_quiet (fail)
     all_goals go_wp2_with fail
     go_ret;exact ⟨by rw [HF2.out];rfl,aG HB.out _⟩
    ·have e1:decide (x<0)=false:=by simp;omega
     have e2:decide ((b.blocks.length:Int)<=x)=true:=by simp;omega
     clear hin hx0;go_wp2_with fail
     go_quiet (fail)
     all_goals go_wp2_with fail
     go_ret;exact ⟨by rw [HF2.out];rfl,aG HB.out _⟩
  next=>
   have HR:Hid (R=Q):=aF (by rw [hr.out,bE (by rw [HTN.out];omega)];rfl);clear hr;have HOPS:Hid (R=if opsE b t.args []≠0 then opsE b t.args [] else fail22 (!t.args.all (fun o=>decide (kindO b o=1)))):=aF (by rw [HR.out,<- HQ.out]);clear HR HQ;go_wp2_with fail
   clear hlt hk2;go_loopw [8] (fun v wr=>∃j:Nat,j<=1/\v = .int .i64 j/\Hid (aA (bdC b bh) wr w.heap.size)/\Hid (aA (tmL 1 2 A c B 1 d t C f { data:= #[] }) wr (w.heap.size+1))/\Hid (Below w.heap.size w wr)/\Hid (opsE b t.args []=opsE b (t.args.drop j) [])) (fun v _=>1 - (intOf v).toNat)
   case atStart=>exact ⟨0,by omega,rfl,aF HY.out,aF HZ.out,HB,aF rfl⟩
   case round=>
    clear HY HZ HB y0 y1 y2 y3 y4 y5 y6 z0 z1 z2 z3 z4 z5;obtain ⟨j,hj,rfl,HY,HZ,HB,hr⟩:=hrel;obtain ⟨y0,y1,y2,y3,y4,y5,y6⟩:=aS HY.out;obtain ⟨z0,z1,z2,z3,z4,z5⟩:=aR HZ.out;by_cases hlt:j<1
    next=>
     have hl1:j<t.args.length:=by rw [HN.out];exact hlt
     obtain ⟨b5,o5,rfl,hb5,hxo⟩:=HL.out.sl.at_ hl1;have hd:=cS hl1;obtain ⟨o,hoo⟩:∃o,t.args[j]=o:=⟨_,rfl⟩;rw [hoo] at hxo hd;obtain ⟨p0,⟨p1,A2,c2,p2,hc1,hc2,hsl⟩,p3⟩:=hxo;have HPJ:Hid (Slc 2 RPj w A2 c2 o.place.proj):=aF ⟨hsl,hc1,hc2⟩;have P0:=aF p0;have P1:=aF p1;have P2:=aF (show w.cell? ⟨b5,o5+j * 4+2,none⟩=_ from p2);have P3:=aF p3;have HOO:=aF (fun W hb=>HOP.out W hb o A2 c2 HPJ.out);unfold opC at HOO
     have HV2:Hid ((opE b o≠0->R=opE b o)/\(opE b o=0->opsE b t.args []=opsE b (t.args.drop (j+1)) [])):=aF ⟨fun he=>by
      have h9:opsE b t.args []=opE b o:=by rw [hr.out,hd,nW he]
      rw [HOPS.out,h9,bA he],fun he=>by rw [hr.out,hd,lN he]⟩
     generalize opE b o=eo at HOO HV2;clear hr hd hoo p0 p1 p2 p3 hsl hc1 hc2 hl1;go_wp2_with fail
     have hS:aB w (bdC b bh) (tmL 1 2 A c (some ⟨b5,o5,none⟩) 1 d t C f { data:= #[] }) wr.drew:=⟨HY.out,HZ.out,HB.out.drew⟩;clear y0 y1 y2 y3 y4 y5 y6 z0 z1 z2 z3 z4 z5;refine cQ (S:=fun X=>aB w (bdC b bh) (tmL 1 2 A c (some ⟨b5,o5,none⟩) 1 d t C f { data:= #[] }) X) [0,1,2,3,4,5,6,7] (by kernel_rfl) ?_;(iterate 6 (refine cR (v:=?_) ?_ hS ?_;rotate_left;(next=>(rintro X ⟨hX,hY,hZ⟩;obtain ⟨s0,s1,s2,s3,s4,s5,s6⟩:=aS hX;have u2:=hY 2 _ rfl;have p0:=cJ hZ P0.out;have p1:=cJ hZ P1.out;have p2:=cJ hZ P2.out;have p3:=cJ hZ P3.out;(try simp only [aI]);go_simp;rfl));simp only [aM]));(refine cM (fun K1 hK1=>?_);simp only [aM];rw [bA (by rfl)];go_simp);refine (HOO.out _ hS.2.2).mono ?_;rintro e' w2 ⟨rfl,hb⟩;replace hS:=bJ (cK hS.1 hb) (bJ (cK hS.2.1 hb) (hS.2.2.trans (hb.mono hS.2.2.size)));have HS2:=aF hS;clear hb;refine hK1.out _ _ (fun _=>hS) ?_;clear hK1;((refine cR (v:=?_) ?_ hS ?_;rotate_left;(next=>(rintro X -;(try simp only [aI]);go_simp;rfl));simp only [aM]))
     refine cV ?_;clear hS;by_cases he:eo=0
     ·subst he;have HV3:=aF (HV2.out.2 rfl);clear HV2;go_wp2_with fail
      go_roundw
      case rel=>exact ⟨j+1,by omega,by go_num,aF HS2.out.1,aF HS2.out.2.1,aF HS2.out.2.2,HV3⟩
      case measure=>simp [intOf];omega
     ·have HF2:=aF (HV2.out.1 he);have e1:(eo != 0)=true:=by simp [he]
      clear he HV2;go_wp2_with fail
      go_ret;exact ⟨by rw [HF2.out];rfl,HS2.out.2.2⟩
    next=>
     have hz0:opsE b t.args []=0:=(by rw [hr.out,bE (by rw [HN.out];omega),rT]);have HQ2:Hid (R=fail22 (!t.args.all (fun o=>decide (kindO b o=1)))):=aF (by rw [HOPS.out,aZ (by simp [hz0])]);have hl1:0<t.args.length:=by rw [HN.out];omega
     obtain ⟨o,ho⟩:=List.length_eq_one_iff.1 HN.out;obtain ⟨b5,o5,rfl,hb5,hxo⟩:=HL.out.sl.at_ hl1;simp only [ho,List.getElem_cons_zero,Nat.zero_mul,Nat.add_zero] at hxo;obtain ⟨p0,⟨p1,A2,c2,p2,hc1,hc2,hsl⟩,p3⟩:=hxo;have HPJ:Hid (Slc 2 RPj w A2 c2 o.place.proj):=aF ⟨hsl,hc1,hc2⟩;have P0:=aF p0;have P1:=aF p1;have P2:=aF (show w.cell? ⟨b5,o5+2,none⟩=_ from p2);have P3:=aF p3;have HOO:=aF (fun W hb=>HKK.out W hb o A2 c2 HPJ.out (nX hz0 o (by rw [ho];simp)));unfold opC at HOO;have HV2:Hid (R=fail22 (!decide (kindO b o=1))):=aF (by rw [HQ2.out,ho];simp);generalize decide (kindO b o=1)=kq at HOO HV2;clear hr hz0 HQ2 ho p0 p1 p2 p3 hsl hc1 hc2 hl1;go_wp2_with fail
     have hS:aB w (bdC b bh) (tmL 1 2 A c (some ⟨b5,o5,none⟩) 1 d t C f { data:= #[] }) wr.drew:=⟨HY.out,HZ.out,HB.out.drew⟩;clear y0 y1 y2 y3 y4 y5 y6 z0 z1 z2 z3 z4 z5;refine cQ (S:=fun X=>aB w (bdC b bh) (tmL 1 2 A c (some ⟨b5,o5,none⟩) 1 d t C f { data:= #[] }) X) [0,1,2,3,4,5,6,7,8,9,10,11] (by kernel_rfl) ?_;(iterate 9 (refine cR (v:=?_) ?_ hS ?_;rotate_left;(next=>(rintro X ⟨hX,hY,hZ⟩;obtain ⟨s0,s1,s2,s3,s4,s5,s6⟩:=aS hX;obtain ⟨u0,-,u2⟩:=aO hY;have p0:=cJ hZ P0.out;have p1:=cJ hZ P1.out;have p2:=cJ hZ P2.out;have p3:=cJ hZ P3.out;(try simp only [aI]);go_simp;rfl));simp only [aM]));(refine cM (fun K1 hK1=>?_);simp only [aM];rw [bA (by rfl)];go_simp);refine (HOO.out _ hS.2.2).mono ?_;rintro e' w2 ⟨rfl,hb⟩;replace hS:=bJ (cK hS.1 hb) (bJ (cK hS.2.1 hb) (hS.2.2.trans (hb.mono hS.2.2.size)));have HS2:=aF hS;clear hb;refine hK1.out _ _ (fun _=>hS) ?_;clear hK1;(iterate 2 (refine cR (v:=?_) ?_ hS ?_;rotate_left;(next=>(rintro X -;(try simp only [aI]);go_simp;rfl));simp only [aM]));refine cV ?_;clear hS;cases kq
     all_goals
      have k0:=HS2.out.2.1 0 _ rfl;go_wp2_with fail
      go_ret;exact ⟨by rw [HV2.out];rfl,HS2.out.2.2⟩
theorem xEE {b:Bdy} {bh:BH} {w:World} (H:Rk w b bh) (t:Trm) (A B C:Option Addr) (c d f:Nat) (ht:Slc 1 RInt w A c t.targets) (hl:Slc 4 ROp w B d t.args) (hp:Slc 2 RPj w C f t.place.proj) (hk:t.kind=2) (hfd:fieldsT t=false):
 Calls Tryz.prog 56 #[.agg (bdC b bh).toArray,.agg (tmC t A c B d C f).toArray] w fun e' w'=>e' = .returned (.int .i64 (tmE b t))/\Below w.heap.size w w':=by
 have HZ:=aF (fun W=>xAF t.place C f W);have HF:Hid (tmE b t=2):=aF (by rw [tmE,aZ (by omega),bA hfd]);generalize tmE b t=R at HF ⊢;have hfd2:=hfd;unfold fieldsT at hfd2;rw [hk] at hfd2;simp only [reduceIte,Int.reduceEq] at hfd2;obtain ⟨n,hn⟩:∃n,t.targets.length=n:=⟨_,rfl⟩;obtain ⟨m,hm⟩:∃m,t.args.length=m:=⟨_,rfl⟩;obtain ⟨z,hzz⟩:∃z,zeroP t.place=z:=⟨_,rfl⟩;have hmb:m<=9223372036854775807:=by have h1:=hl.le;have h2:=hl.big;omega
 have hnb:n<=9223372036854775807:=by have h1:=ht.le;have h2:=ht.big;omega
 obtain ⟨u,hu⟩:∃u,decide (t.name.size=0)=u:=⟨_,rfl⟩;have hne:=nH t.name;rw [hu] at hne;try rw [hu] at hfd2
 rw [hn] at hfd2;try rw [hm] at hfd2
 try rw [hzz] at hfd2
 rw [hzz] at HZ;clear H ht hl hp hfd hzz;unfold bdC tmC;rw [hk,hn,hm];clear hk hn hm;by_cases hn:n=0
 case neg=>
  have e1:((n:Int) != 0)=true:=by simp;omega
  clear hfd2 hne HZ hu;go_enter Tryz.func56,Tryz.ntmps56
  go_wp2_with fail
  go_quiet (fail)
  all_goals go_wp2_with fail
  all_goals first
   | (exfalso;omega)
   | (go_ret;exact ⟨by rw [HF.out];rfl,by first | exact aG aH _ | exact aH⟩)
 subst hn;cases u
 case false=>
  clear hfd2 HZ hu;go_enter Tryz.func56,Tryz.ntmps56
  go_wp2_with fail
  go_quiet (fail)
  all_goals go_wp2_with fail
  all_goals first
   | (exfalso;omega)
   | (go_ret;exact ⟨by rw [HF.out];rfl,by first | exact aG aH _ | exact aH⟩)
 have hnm:t.name={ data:= #[] }:=by
  have h:=of_decide_eq_true hu;cases hh:t.name with
  | mk dd=>
    rw [hh] at h;exact congrArg ByteArray.mk (Array.eq_empty_of_size_eq_zero (show dd.size=0 from h))
 rw [hnm];clear hu hne hnm;cases z
 case false=>
  clear hfd2;go_enter Tryz.func56,Tryz.ntmps56
  go_wp2_with fail
  have hS:=xAJ w (bdC b bh) (tmL 2 0 A c B m d t C f { data:= #[] }) arT 28 61 157;refine cQ (S:=fun X=>aD w (bdC b bh) (tmL 2 0 A c B m d t C f { data:= #[] }) arT X) [0,1,2,3,4,5,6,7,8,9,10,11,12,13,14,15,16,17,18,19,20,21,22,23,24,25,26,27,28,29,30,31,32,33,34,35,36,37,38,39,40,41,42,43,44,45,46,47,48,49,50,51,52,53,54,55,56,57] (by kernel_rfl) ?_;(iterate 28 (refine cR (v:=?_) ?_ hS ?_;rotate_left;(next=>(rintro X ⟨hX,hY,hA,hZ⟩;obtain ⟨s0,s1,s2,s3,s4,s5⟩:=aR hY;have a0:=hA 2 _ rfl;(try simp only [aI]);go_simp;rfl));simp only [aM]));(refine cM (fun K1 hK1=>?_);simp only [aM];rw [bA (by rfl)];go_simp);refine (HZ.out _).mono ?_;rintro e' w1 ⟨rfl,hb⟩;replace hS:=bJ (cK hS.1 hb) (bJ (cK hS.2.1 hb) (bJ (cK hS.2.2.1 hb) (hS.2.2.2.trans (hb.mono hS.2.2.2.size))));have HS2:=aF hS;clear hb;refine hK1.out _ _ (fun _=>hS) ?_;clear hK1;(iterate 4 (refine cR (v:=?_) ?_ hS ?_;rotate_left;(next=>(rintro X ⟨hX,hY,hA,hZ⟩;obtain ⟨s0,s1,s2,s3,s4,s5⟩:=aR hY;have a0:=hA 2 _ rfl;(try simp only [aI]);go_simp;rfl));simp only [aM]));(iterate 9 (refine cU (v:=undef) (by kernel_rfl) (fun _ _ _ h=>h) (Or.inr ⟨by rfl,rfl⟩) hS ?_;simp only [aM]));(iterate 2 (refine cR (v:=?_) ?_ hS ?_;rotate_left;(next=>(rintro X ⟨hX,hY,hA,hZ⟩;obtain ⟨s0,s1,s2,s3,s4,s5⟩:=aR hY;have a0:=hA 2 _ rfl;(try simp only [aI]);go_simp;rfl));simp only [aM]));(iterate 13 (refine cU (v:=undef) (by kernel_rfl) (fun _ _ _ h=>h) (Or.inr ⟨by rfl,rfl⟩) hS ?_;simp only [aM]));((refine cR (v:=?_) ?_ hS ?_;rotate_left;(next=>(rintro X ⟨hX,hY,hA,hZ⟩;obtain ⟨s0,s1,s2,s3,s4,s5⟩:=aR hY;have a0:=hA 2 _ rfl;(try simp only [aI]);go_simp;rfl));simp only [aM]))
  refine cV ?_;clear hS;go_wp2_with fail
  all_goals first
   | (exfalso;omega)
   | (go_ret;exact ⟨by rw [HF.out];rfl,HS2.out.2.2.2⟩)
 have hm0:0<m:=by simp at hfd2;omega
 have e3:decide (0<(m:Int))=true:=by simp;omega
 clear hfd2;go_enter Tryz.func56,Tryz.ntmps56
 go_wp2_with fail
 have hS:=xAJ w (bdC b bh) (tmL 2 0 A c B m d t C f { data:= #[] }) arT 28 61 157;refine cQ (S:=fun X=>aD w (bdC b bh) (tmL 2 0 A c B m d t C f { data:= #[] }) arT X) [0,1,2,3,4,5,6,7,8,9,10,11,12,13,14,15,16,17,18,19,20,21,22,23,24,25,26,27,28,29,30,31,32,33,34,35,36,37,38,39,40,41,42,43,44,45,46,47,48,49,50,51,52,53,54,55,56,57] (by kernel_rfl) ?_;(iterate 28 (refine cR (v:=?_) ?_ hS ?_;rotate_left;(next=>(rintro X ⟨hX,hY,hA,hZ⟩;obtain ⟨s0,s1,s2,s3,s4,s5⟩:=aR hY;have a0:=hA 2 _ rfl;(try simp only [aI]);go_simp;rfl));simp only [aM]));(refine cM (fun K1 hK1=>?_);simp only [aM];rw [bA (by rfl)];go_simp);refine (HZ.out _).mono ?_;rintro e' w1 ⟨rfl,hb⟩;replace hS:=bJ (cK hS.1 hb) (bJ (cK hS.2.1 hb) (bJ (cK hS.2.2.1 hb) (hS.2.2.2.trans (hb.mono hS.2.2.2.size))));have HS2:=aF hS;clear hb;refine hK1.out _ _ (fun _=>hS) ?_;clear hK1;(iterate 8 (refine cR (v:=?_) ?_ hS ?_;rotate_left;(next=>(rintro X ⟨hX,hY,hA,hZ⟩;obtain ⟨s0,s1,s2,s3,s4,s5⟩:=aR hY;have a0:=hA 2 _ rfl;(try simp only [aI]);go_simp;rfl));simp only [aM]));(iterate 4 (refine cU (v:=undef) (by kernel_rfl) (fun _ _ _ h=>h) (Or.inr ⟨by rfl,rfl⟩) hS ?_;simp only [aM]));(iterate 17 (refine cR (v:=?_) ?_ hS ?_;rotate_left;(next=>(rintro X ⟨hX,hY,hA,hZ⟩;obtain ⟨s0,s1,s2,s3,s4,s5⟩:=aR hY;have a0:=hA 2 _ rfl;(try simp only [aI]);go_simp;rfl));simp only [aM]));refine cV ?_;clear hS;go_wp2_with fail
 all_goals first
  | (exfalso;omega)
  | (go_ret;exact ⟨by rw [HF.out];rfl,HS2.out.2.2.2⟩)
theorem xED {b:Bdy} {bh:BH} {w:World} (H:Rk w b bh) (t:Trm) (A B C:Option Addr) (c d f:Nat) (ht:Slc 1 RInt w A c t.targets) (hl:Slc 4 ROp w B d t.args) (hp:Slc 2 RPj w C f t.place.proj) (hk:t.kind=3) (hfd:fieldsT t=false):
 Calls Tryz.prog 56 #[.agg (bdC b bh).toArray,.agg (tmC t A c B d C f).toArray] w fun e' w'=>e' = .returned (.int .i64 (tmE b t))/\Below w.heap.size w w':=by
 have HZ:=aF (fun W=>xAF t.place C f W);have HF:Hid (tmE b t=2):=aF (by rw [tmE,aZ (by omega),bA hfd]);generalize tmE b t=R at HF ⊢;have hfd2:=hfd;unfold fieldsT at hfd2;rw [hk] at hfd2;simp only [reduceIte,Int.reduceEq] at hfd2;obtain ⟨n,hn⟩:∃n,t.targets.length=n:=⟨_,rfl⟩;obtain ⟨m,hm⟩:∃m,t.args.length=m:=⟨_,rfl⟩;obtain ⟨z,hzz⟩:∃z,zeroP t.place=z:=⟨_,rfl⟩;have hmb:m<=9223372036854775807:=by have h1:=hl.le;have h2:=hl.big;omega
 have hnb:n<=9223372036854775807:=by have h1:=ht.le;have h2:=ht.big;omega
 obtain ⟨u,hu⟩:∃u,decide (t.name.size=0)=u:=⟨_,rfl⟩;have hne:=nH t.name;rw [hu] at hne;try rw [hu] at hfd2
 rw [hn] at hfd2;try rw [hm] at hfd2
 try rw [hzz] at hfd2
 rw [hzz] at HZ;clear H ht hl hp hfd hzz;unfold bdC tmC;rw [hk,hn,hm];clear hk hn hm;by_cases hn:n=1
 case neg=>
  have e1:((n:Int) != 1)=true:=by simp;omega
  clear hfd2 hne HZ hu;go_enter Tryz.func56,Tryz.ntmps56
  go_wp2_with fail
  go_quiet (fail)
  all_goals go_wp2_with fail
  all_goals first
   | (exfalso;omega)
   | (go_ret;exact ⟨by rw [HF.out];rfl,by first | exact aG aH _ | exact aH⟩)
 subst hn;simp at hfd2
theorem xEA {b:Bdy} {bh:BH} {w:World} (t:Trm) (A B C:Option Addr) (c d f:Nat) (h0:t.kind<0\/5<t.kind):
 Calls Tryz.prog 56 #[.agg (bdC b bh).toArray,.agg (tmC t A c B d C f).toArray] w fun e' w'=>e' = .returned (.int .i64 (tmE b t))/\Below w.heap.size w w':=by
 have HF:Hid (tmE b t=14):=aF (by rw [tmE,bA h0]);generalize tmE b t=R at HF ⊢;unfold bdC tmC;go_enter Tryz.func56,Tryz.ntmps56
 go_wp2_with fail
 all_goals first
  | (exfalso;omega)
  | (go_ret;exact ⟨by rw [HF.out];rfl,aH⟩)
theorem xFE {b:Bdy} {bh:BH} {w:World} (H:Rk w b bh) (t:Trm) (A B C:Option Addr) (c d f:Nat) (ht:Slc 1 RInt w A c t.targets) (hl:Slc 4 ROp w B d t.args) (hp:Slc 2 RPj w C f t.place.proj) (hz:t.name.size<=9223372036854775807):
 Calls Tryz.prog 56 #[.agg (bdC b bh).toArray,.agg (tmC t A c B d C f).toArray] w fun e' w'=>e' = .returned (.int .i64 (tmE b t))/\Below w.heap.size w w':=by
 by_cases h0:t.kind<0\/5<t.kind
 ·exact xEA t A B C c d f h0
 obtain ⟨q,hq⟩:∃q,fieldsT t=q:=⟨_,rfl⟩;rcases (show t.kind=0\/t.kind=1\/t.kind=2\/t.kind=3\/t.kind=4\/t.kind=5 by omega) with h | h | h | h | h | h
 all_goals cases q
 ·exact xEG H t A B C c d f ht hl hp h hq
 ·exact xCN H t A B C c d f ht hl hp h hq
 ·exact xEF H t A B C c d f ht hl hp h hq
 ·exact xCM H t A B C c d f ht hl hp h hq
 ·exact xEE H t A B C c d f ht hl hp h hq
 ·exact xCL H t A B C c d f ht hl hp h hq
 ·exact xED H t A B C c d f ht hl hp h hq
 ·exact xCK H t A B C c d f ht hl hp h hq hz
 ·exact xEC H t A B C c d f ht hl hp h hq
 ·exact xCJ H t A B C c d f ht hl hp h hq
 ·exact xEB H t A B C c d f ht hl hp h hq
 ·exact xCI H t A B C c d f ht hl hp h hq
end
section
open Go Go.RowKit Go.Maps
theorem blk7v {w:World} {k:Nat} {a b c d e f z:Value} {t:TypeId} (h:w.heap[k]?=some (.cells #[a,b,c,d,e,f,z] t (0,0))):
 w.cell? ⟨k,0,none⟩=some a/\w.cell? ⟨k,1,none⟩=some b/\w.cell? ⟨k,2,none⟩=some c/\w.cell? ⟨k,3,none⟩=some d/\w.cell? ⟨k,4,none⟩=some e/\w.cell? ⟨k,5,none⟩=some f/\w.cell? ⟨k,6,none⟩=some z/\(∀i,w.frozen? ⟨k,i,none⟩=false):=
 ⟨by rw [cell_of_row w _ 0 _ _ _ h];rfl,by rw [cell_of_row w _ 1 _ _ _ h];rfl,by rw [cell_of_row w _ 2 _ _ _ h];rfl,by rw [cell_of_row w _ 3 _ _ _ h];rfl,by rw [cell_of_row w _ 4 _ _ _ h];rfl,by rw [cell_of_row w _ 5 _ _ _ h];rfl,by rw [cell_of_row w _ 6 _ _ _ h];rfl,fun i=>by simp [World.frozen?,h]⟩
theorem xDP (b:Bdy) (bh:BH) (w:World) (H:BdAt w b bh) (hz:NmOk b):
 Calls Tryz.prog 17 #[.agg (bdC b bh).toArray] w fun e' w'=>e' = .returned (.int .i64 (chkB b))/\Below w.heap.size w w':=
 xDN b bh w H hz.blks (fun W hb=>xFK b bh W (H.keep hb) hz)
  (fun hd W hb s A0 A B c0 c d h0 h1 h2=>xGW ⟨H.keep hb,eK hd⟩ s A0 A B c0 c d (h0.keep RPj.keeps hb) (h1.keep RPj.keeps hb) (h2.keep ROp.keeps hb))
  (fun hd W hb t A B C c d f h0 h1 h2 h3=>xFE ⟨H.keep hb,eK hd⟩ t A B C c d f (h0.keep RInt.keeps hb) (h1.keep ROp.keeps hb) (h2.keep RPj.keeps hb) h3)
theorem xFD (ts:List Ty) (A:Option Addr) (c:Nat) (w:World) (hs:Slc 5 RTy w A c ts):
 Calls Tryz.prog 24 #[.slice A ts.length c] w fun e' w'=>(∃q,e' = .returned (.int .i64 q)/\(q<=0->ts.length<=200))/\Below w.heap.size w w':=by
 have HL:=aF (xFO ts A c w hs);have HW:=aF (fun W (hb:Below w.heap.size w W) (hl:ts.length<=200)=>xFT ts A c W (hs.keep RTy.keeps hb) hl);clear hs;obtain ⟨n,hn⟩:∃n,ts.length=n:=⟨_,rfl⟩;rw [hn] at HL HW ⊢;go_enter Tryz.func24,Tryz.ntmps24
 go_wp2_with (first | (go_at_call 66;refine (HW.out _ HB.out (HQ.out (by omega))).mono ?_;rintro e' w2 ⟨⟨q2,rfl⟩,hb2⟩;have HB2:=aF (HB.out.trans (hb2.mono HB.out.size));clear hb2;cases q2) | (go_at_call 65;refine HL.out.mono ?_;rintro e' w1 ⟨⟨q,rfl,hq⟩,hb⟩;have HB:=aF hb;have HQ:=aF hq;clear hb hq))
 all_goals
  go_ret
  first
   | exact ⟨⟨_,rfl,fun h=>absurd h (by omega)⟩,HB2.out⟩
   | exact ⟨⟨_,rfl,fun h=>absurd h (by omega)⟩,HB.out⟩
   | exact ⟨⟨_,rfl,fun _=>HQ.out (by omega)⟩,HB2.out⟩
structure NotSkip (b:Bdy):Prop where
 nm:ShortB b->namesZ b<=3000
 typ:b.types.length<=200
 out:b.outl.length<=200
 reg:b.regions.length<=200
 blk:b.blocks.length<=200
theorem xFX (b:Bdy) (bh:BH) (w:World) (H:BdAt w b bh) (hz:NmOk b):
 Calls Tryz.prog 8 #[.agg (bdC b bh).toArray] w fun e' w'=>(∃q:Int,e' = .returned (.int .i64 q)/\(q<=0->NotSkip b))/\Below w.heap.size w w':=by
 obtain ⟨A1,c1,A2,c2,A3,c3,A4,c4,A5,c5⟩:=bh;have r1:=H.reg.le;have r2:=H.reg.big;have o1:=H.out.le;have o2:=H.out.big;have t1:=H.typ.le;have t2:=H.typ.big;have b1:=H.blk.le;have b2:=H.blk.big;simp only at r1 r2 o1 o2 t1 t2 b1 b2;have HL:Hid (∀W,Below w.heap.size w W->Calls Tryz.prog 23 #[.agg #[Value.string b.name,.slice A1 b.regions.length c1,.slice A2 b.outl.length c2,.slice A3 b.types.length c3,.slice A4 b.locals.length c4,.int .i64 b.args,.slice A5 b.blocks.length c5]] W fun e' w'=>(∃q:Int,e' = .returned (.int .i64 q)/\(q<=0->ShortB b->namesZ b<=3000))/\Below W.heap.size W w'):=aF (fun W hb=>xCD b ⟨A1,c1,A2,c2,A3,c3,A4,c4,A5,c5⟩ W (H.keep hb) hz);have HT:=aF (fun W hb=>xFD b.types A3 c3 W (H.typ.keep RTy.keeps hb));have HK:=aF (fun W hb=>xBC b.types (b.regions.length:Int) A3 c3 W (H.typ.keep RTy.keeps hb));have HD:=aF (fun W hb i hi h64 hok=>xEW b.types i A3 c3 W (H.typ.keep RTy.keeps hb) hi h64 hok);have HOK:=aF (fun h=>xDZ (n:=(b.regions.length:Int)) (ts:=b.types) h);clear H;unfold bdC;simp only;obtain ⟨W,hW⟩:∃W,w.alloc (.cells #[Value.string b.name,.slice A1 b.regions.length c1,.slice A2 b.outl.length c2,.slice A3 b.types.length c3,.slice A4 b.locals.length c4,.int .i64 b.args,.slice A5 b.blocks.length c5] 28)=W:=⟨_,rfl⟩;have HC0:Hid (aA (bdM b A1 c1 A2 c2 A3 c3 A4 c4 A5 c5 []) W w.heap.size):=aF (by rw [<- hW];exact cP w [Value.string b.name,.slice A1 b.regions.length c1,.slice A2 b.outl.length c2,.slice A3 b.types.length c3,.slice A4 b.locals.length c4,.int .i64 b.args,.slice A5 b.blocks.length c5] 28);have HB0:Hid (Below w.heap.size w W):=aF (by rw [<- hW];exact alF _ _);have HK7:Hid (W.heap[w.heap.size]?=some (.cells #[Value.string b.name,.slice A1 b.regions.length c1,.slice A2 b.outl.length c2,.slice A3 b.types.length c3,.slice A4 b.locals.length c4,.int .i64 b.args,.slice A5 b.blocks.length c5] 28 (0,0))):=aF (by rw [<- hW];exact heap_alloc_new w _);obtain ⟨x0,x1,x2,x3,x4,x5,x6,_⟩:=blk7v HK7.out;change Calls _ _ #[.agg #[Value.string b.name,.slice A1 b.regions.length c1,.slice A2 b.outl.length c2,.slice A3 b.types.length c3,.slice A4 b.locals.length c4,.int .i64 b.args,.slice A5 b.blocks.length c5]] _ _;go_enter Tryz.func8,Tryz.ntmps8
 go_wp2_with fail
 go_at_call 23
 refine (HL.out W HB0.out).mono ?_;rintro e' w1 ⟨⟨q,rfl,hq⟩,hb⟩;have HCC:=aF (cK HC0.out hb);have HB:=aF (keep0 hb HB0.out);have HQ:=aF hq;clear hb hq HC0 HB0 HL x0 x1 x2 x3 x4 x5 x6;by_cases hq1:0<q
 ·go_wp2_with fail
  all_goals (go_ret;exact ⟨⟨_,rfl,fun h=>absurd h (by omega)⟩,HB.out⟩)
 have hq2:q<=0:=by omega
 have HN:=aF (HQ.out hq2);obtain ⟨y0,y1,y2,y3,y4,y5,y6⟩:=aS HCC.out;go_wp2_with fail
 go_at_call 24
 refine (HT.out w1 HB.out).mono ?_;rintro e' w2 ⟨⟨p,rfl,hp⟩,hb⟩;replace HCC:=aF (cK HCC.out hb);replace HB:=aF (keep0 hb HB.out);have HP:=aF hp;clear hb hp HT HQ hq1 y0 y1 y2 y3 y4 y5 y6;by_cases hq1:0<p
 ·go_wp2_with fail
  all_goals (go_ret;exact ⟨⟨_,rfl,fun h=>absurd h (by omega)⟩,HB.out⟩)
 have hp2:p<=0:=by omega
 have HTL:=aF (HP.out hp2);obtain ⟨y0,y1,y2,y3,y4,y5,y6⟩:=aS HCC.out;by_cases g1:200<b.outl.length
 ·go_wp2_with fail
  all_goals (go_ret;exact ⟨⟨_,rfl,fun h=>absurd h (by omega)⟩,HB.out⟩)
 by_cases g2:200<b.regions.length
 ·go_wp2_with fail
  all_goals (go_ret;exact ⟨⟨_,rfl,fun h=>absurd h (by omega)⟩,HB.out⟩)
 by_cases g3:200<b.blocks.length
 ·go_wp2_with fail
  all_goals (go_ret;exact ⟨⟨_,rfl,fun h=>absurd h (by omega)⟩,HB.out⟩)
 have HNS:Hid (NotSkip b):=aF ⟨HN.out,HTL.out,by omega,by omega,by omega⟩;go_wp2_with fail
 go_at_call 25
 refine (HK.out w2 HB.out).mono ?_;rintro e' w3 ⟨rfl,hb⟩;replace HCC:=aF (cK HCC.out hb);replace HB:=aF (keep0 hb HB.out);clear hb y0 y1 y2 y3 y4 y5 y6;by_cases hty:typesC (b.regions.length:Int) b.types=0
 case neg=>
  generalize typesC (b.regions.length:Int) b.types=ty at *;go_wp2_with fail
  all_goals (go_ret;exact ⟨⟨_,rfl,fun _=>HNS.out⟩,HB.out⟩)
 rw [hty];have HDP:=aF (HOK.out hty);have HTL2:=HTL.out;clear hty HK HOK;obtain ⟨y0,y1,y2,y3,y4,y5,y6⟩:=aS HCC.out;go_wp2_with fail
 clear y0 y1 y2 y3 y4 y5 y6;go_loopw [41] (fun i wr=>∃k:Nat,k<=b.types.length/\i = .int .i64 k/\Hid (aA (bdM b A1 c1 A2 c2 A3 c3 A4 c4 A5 c5 []) wr w.heap.size)/\Hid (Below w.heap.size w wr)) (fun i _=>b.types.length - (intOf i).toNat)
 case atStart=>exact ⟨0,by omega,rfl,HCC,HB⟩
 case round=>
  clear HCC HB;obtain ⟨k,hk,rfl,HCC,HB⟩:=hrel;by_cases hlt:k<b.types.length
  ·obtain ⟨y0,y1,y2,y3,y4,y5,y6⟩:=aS HCC.out;go_wp2_with fail
   go_at_call 26
   refine (HD.out wr HB.out k hlt (by omega) HDP.out).mono ?_;rintro e' w4 ⟨⟨d,rfl⟩,hb⟩;have HC4:=aF (cK HCC.out hb);have HB4:=aF (keep0 hb HB.out);clear hb;by_cases hd:8<d
   ·go_wp2_with fail
    go_ret;exact ⟨⟨_,rfl,fun h=>absurd h (by omega)⟩,HB4.out⟩
   ·go_wp2_with fail
    go_roundw
    case rel=>exact ⟨k+1,by omega,by go_num,HC4,HB4⟩
    case measure=>simp [intOf];omega
  ·go_wp2_with fail
   go_ret;exact ⟨⟨_,rfl,fun _=>HNS.out⟩,HB.out⟩
end
section
open Go Go.RowKit
theorem xFQ {n:ByteArray} (h:isIdent n=true):(bl n).length<=255:=by
 unfold isIdent at h;unfold bl;generalize n.data.toList=l at h;cases l with
 | nil=>simp
 | cons c r=>
   simp only [sM,bQ,decide_eq_true_eq] at h;simp only [bK];omega
theorem xGJ {rs:List ByteArray} (h:∀r∈rs,isIdent r=true) (i:Int):(rgP rs i).length<=255:=by
 unfold rgP;cases e:rs[i.toNat]? with
 | none=>simp
 | some x=>exact xFQ (h x (List.mem_of_getElem? e))
theorem xHJ {ls:List Lc} (h:∀l∈ls,isIdent l.name=true) (i:Int):(nmP ls i).length<=255:=by
 unfold nmP;cases e:ls[i.toNat]? with
 | none=>simp
 | some x=>exact xFQ (h x (List.mem_of_getElem? e))
theorem xHH {ls:List Lc} {p:Plc} (hl:∀l∈ls,isIdent l.name=true) (hp:p.proj.length<=32) (hf:∀x∈p.proj,fitJ x):(placeP ls p).length<=960:=by
 have h1:=xHJ hl p.loc;have h2:=xS hf;unfold placeP;rw [bK,bB];omega
end
section
open Go Go.ChangeShapes Go.WideShapes Go.ChangeAt Go.RowKit Go.Joins Go.Deep
variable {H:Type} {enc:TypeId × Value->H} {w:World} {base:Nat} {spare:Nat->Bool} {held:Bool}
def FitLn (l:Ln):Prop:=fitN l.pt/\∀x∈l.place.proj,fitJ x
theorem xHI:Opn enc w base spare held 95 5 (RZ RLn FitLn):=fun b o n cs y hl hc h=>by
 obtain ⟨x0,h0⟩:=cW (R:=RZ RInt fitN) Tryz.underlying95 h hl hc 0 rfl 0 1 rfl (by kernel_rfl) (by omega) dK;obtain ⟨x1,h1⟩:=cW (R:=RZ RInt fitN) Tryz.underlying95 h hl hc 1 rfl 1 1 rfl (by kernel_rfl) (by omega) dK;obtain ⟨x2,h2⟩:=cW (R:=RBool) Tryz.underlying95 h hl hc 2 rfl 2 1 rfl (by kernel_rfl) (by omega) nZ;obtain ⟨x3,h3⟩:=cW (R:=RZ RPl FitP) Tryz.underlying95 h hl hc 3 rfl 3 2 rfl (by kernel_rfl) (by omega) nY;exact ⟨⟨x0,x1,x2,x3⟩,⟨h0.1,h1.1,h2,h3.1⟩,⟨h1.2,h3.2⟩⟩
theorem xFA {r:Reach} {b0:Nat} {v:Value} {d:DataW H} {p:List MemPlace} (hv:Value.okWide Tryz.prog w r b0 39 v) (h:DataW.Trod enc Tryz.prog w base spare held 39 v d p):
 ∃f fh,v = .agg (fcC f fh).toArray/\FcAt w f fh/\FitF f:=by
 obtain ⟨cs,rfl,hcs⟩:=okWide_struct Tryz.underlying39 hv;have hc5:cs.size=5:=hcs.trans (by kernel_rfl);obtain ⟨fuel,hf⟩:=h;have hl:(Value.agg cs).cells.toList.length=5:=by simpa [Value.cells] using hc5
 have hg:∀i:Nat,(Value.agg cs).cells.toList[i]?=cs[i]?:=fun i=>by simp only [Value.cells];exact Array.getElem?_toList ..
 have F:=fun (j:Nat) (f:Field) hj=>lV (j:=j) (f:=f) Tryz.underlying39 (by kernel_rfl) hf hl hj
 obtain ⟨v0,m0,y0,e0,g0⟩:=F 0 _ rfl;obtain ⟨v1,m1,y1,e1,g1⟩:=F 1 _ rfl;obtain ⟨v2,m2,y2,e2,g2⟩:=F 2 _ rfl;obtain ⟨v3,m3,y3,e3,g3⟩:=F 3 _ rfl;obtain ⟨v4,m4,y4,e4,g4⟩:=F 4 _ rfl;clear F;rw [hg] at e0 e1 e2 e3 e4;obtain ⟨A0,c0,ln,rfl,s0⟩:=iT Tryz.underlying37 (by kernel_rfl) (by omega) xHI g0;obtain ⟨A1,c1,ed,rfl,s1⟩:=iT Tryz.underlying23 (by kernel_rfl) (by omega) zI g1;obtain ⟨A2,c2,ki,rfl,s2⟩:=iT Tryz.underlying23 (by kernel_rfl) (by omega) zI g2;obtain ⟨A3,c3,iv,rfl,s3⟩:=iT Tryz.underlying23 (by kernel_rfl) (by omega) zI g3;obtain ⟨A4,c4,li,rfl,s4⟩:=iT Tryz.underlying23 (by kernel_rfl) (by omega) zI g4;obtain ⟨s0,z0⟩:=gC s0;obtain ⟨s1,z1⟩:=gC s1;obtain ⟨s2,z2⟩:=gC s2;obtain ⟨s3,z3⟩:=gC s3;obtain ⟨s4,z4⟩:=gC s4;refine ⟨⟨ln,ed,ki,iv,li⟩,⟨A0,c0,A1,c1,A2,c2,A3,c3,A4,c4⟩,?_,⟨s0,s1,s2,s3,s4⟩,⟨fun l hl=>(z0 l hl).1,fun l hl=>(z0 l hl).2,z1,z2,z3,z4⟩⟩;congr 1
 apply Array.ext
 ·rw [hc5];rfl
 ·intro i h1 h2;have hi:i<5:=by omega
  rcases (show i=0\/i=1\/i=2\/i=3\/i=4 by omega) with rfl | rfl | rfl | rfl | rfl
  all_goals (apply Option.some.inj;rw [<- Array.getElem?_eq_getElem h1];first | (rw [e0];rfl) | (rw [e1];rfl) | (rw [e2];rfl) | (rw [e3];rfl) | (rw [e4];rfl))
end
section
open Go Go.RowKit
attribute [local irreducible] Calls
theorem xAO (wd:List UInt8) (hwd:wd.length<=10) (l:List (Int × Int)) (A:Option Addr) (c:Nat) (w:World) (hl:Slc 2 RPr w A c l) (hf:∀x∈l,fitN x.1/\fitN x.2) (hz:(l.flatMap (prLine wd)).length+1000<=140737488355328):
 Calls Tryz.prog 51 #[tx wd,.slice A l.length c] w fun e' w'=>e' = .returned (tx (l.flatMap (prLine wd)))/\Below w.heap.size w w':=by
 have HS:=aF hl;have HF:=aF hf;have HZ:=aF hz;have hle:=hl.le;have hbig:=hl.big;clear hl hf hz;go_enter Tryz.func51,Tryz.ntmps51
 go_wp2_with fail
 go_loopw [5,6] (fun s i wr=>∃k:Nat,k<=l.length/\i = .int .i64 k/\s=tx ((l.take k).flatMap (prLine wd))/\Hid (Below w.heap.size w wr)) (fun _ i _=>l.length - (intOf i).toNat)
 case atStart=>exact ⟨0,by omega,rfl,rfl,aF (aX _ _)⟩
 case round=>
  obtain ⟨k,hk,rfl,rfl,HB⟩:=hrel;by_cases hlt:k<l.length
  case neg=>
   obtain rfl:k=l.length:=by omega
   rw [cA];go_wp2_with fail
   go_ret;exact ⟨rfl,HB.out⟩
  case pos=>
  obtain ⟨bb,oo,rfl,hbb,hx⟩:=(HS.out.keep RPr.keeps HB.out).sl.at_ hlt;have hfx:=HF.out _ (bN hlt);have HTF:=aF (qU (f:=prLine wd) hlt);have hzl:=kH (prLine wd) l (k+1);generalize l[k]=x at *;obtain ⟨x1,x2⟩:=x;obtain ⟨y0,y1⟩:=hx;simp only at y0 y1 hfx;obtain ⟨i1,h1⟩:∃i,Lib.itoa x1=i:=⟨_,rfl⟩;obtain ⟨i2,h2⟩:∃i,Lib.itoa x2=i:=⟨_,rfl⟩;have hl1:=wT hfx.1;have hl2:=wT hfx.2;rw [h1] at hl1;rw [h2] at hl2;rw [HTF.out,bB] at hzl;obtain ⟨bs,hbs⟩:∃B,(l.take k).flatMap (prLine wd)=B:=⟨_,rfl⟩;have HNX:Hid ((l.take (k+1)).flatMap (prLine wd)=bs ++ (32 :: 32 :: (wd ++ 32 :: (i1 ++ 32 :: (i2 ++ [59,10]))))):=aF (by rw [HTF.out,hbs,prLine,prP];simp only;rw [h1,h2,semP];simp);rw [hbs] at hzl ⊢;have hz1:bs.length+500<=140737488355328:=by have:=HZ.out;omega
  have HI1:Hid (∀W,Below w.heap.size w W->Calls Tryz.prog 39 #[.int .i64 x1] W fun e' w'=>e' = .returned (tx i1)/\Below W.heap.size W w'):=aF (fun W hb=>by rw [<- h1];exact uT x1 hfx.1.1 hfx.1.2 W);have HI2:Hid (∀W,Below w.heap.size w W->Calls Tryz.prog 39 #[.int .i64 x2] W fun e' w'=>e' = .returned (tx i2)/\Below W.heap.size W w'):=aF (fun W hb=>by rw [<- h2];exact uT x2 hfx.2.1 hfx.2.2 W);clear h1 h2 hfx hzl HTF hbs;go_wp2_with fail
  have hS:wr.drew.cell? ⟨bb,oo+k * 2,none⟩=some (.int .i64 x1)/\wr.drew.cell? ⟨bb,oo+k * 2+1,none⟩=some (.int .i64 x2):=⟨y0,y1⟩;refine cQ (S:=fun X=>X.cell? ⟨bb,oo+k * 2,none⟩=some (.int .i64 x1)/\X.cell? ⟨bb,oo+k * 2+1,none⟩=some (.int .i64 x2)) [0,1,2,3,4,5,6,7,8,12,13,14,15,16,9,10,11,17,18,19,20,21] (by kernel_rfl) ?_;(iterate 2 (refine dS (v:=?_) (by kernel_rfl) (fun _ _ _ h=>h) (Or.inl ⟨by rfl,?_⟩) hS ?_;rotate_left;(next=>(rintro X ⟨s1,s2⟩;(try simp only [aI]);go_simp;rfl));simp only [aM]));refine dS (v:=tx (32 :: 32 :: wd)) (by kernel_rfl) (fun _ _ _ h=>h) (Or.inl ⟨by rfl,?_⟩) hS ?_
  ·rintro X hX;(try simp only [aI]);go_simp;first
   | exact (ba_app' _ _).trans (by simp [bl])
   | (rw [aZ (by omega)];refine congrArg (fun s=>Result.ok (Next.value (Value.string s)) X) ((ba_app' _ _).trans (by simp [bl])))
  (simp only [aM]);refine dS (v:=tx (32 :: 32 :: (wd ++ [32]))) (by kernel_rfl) (fun _ _ _ h=>h) (Or.inl ⟨by rfl,?_⟩) hS ?_
  ·rintro X hX;(try simp only [aI]);go_simp;first
   | exact (ba_app' _ _).trans (by simp [bl])
   | (rw [aZ (by omega)];refine congrArg (fun s=>Result.ok (Next.value (Value.string s)) X) ((ba_app' _ _).trans (by simp [bl])))
  (simp only [aM]);(iterate 10 (refine dS (v:=?_) (by kernel_rfl) (fun _ _ _ h=>h) (Or.inl ⟨by rfl,?_⟩) hS ?_;rotate_left;(next=>(rintro X ⟨s1,s2⟩;(try simp only [aI]);go_simp;rfl));simp only [aM]));(refine cM (fun K1 hK1=>?_);simp only [aM];rw [bA (by rfl)];go_simp);refine (HI1.out _ HB.out.drew).mono ?_;rintro e' w3 ⟨rfl,hw⟩;replace hS:=bJ (cJ hw hS.1) (cJ hw hS.2);have HB3:=aF (HB.out.drew.trans (hw.mono HB.out.drew.size));refine hK1.out _ _ (fun _=>hS) ?_;clear hK1 hw;refine dS (v:=tx (32 :: 32 :: (wd ++ 32 :: i1))) (by kernel_rfl) (fun _ _ _ h=>h) (Or.inl ⟨by rfl,?_⟩) hS ?_
  ·rintro X hX;(try simp only [aI]);go_simp;first
   | exact (ba_app' _ _).trans (by simp [bl])
   | (rw [aZ (by omega)];refine congrArg (fun s=>Result.ok (Next.value (Value.string s)) X) ((ba_app' _ _).trans (by simp [bl])))
  (simp only [aM]);refine dS (v:=tx (32 :: 32 :: (wd ++ 32 :: (i1 ++ [32])))) (by kernel_rfl) (fun _ _ _ h=>h) (Or.inl ⟨by rfl,?_⟩) hS ?_
  ·rintro X hX;(try simp only [aI]);go_simp;first
   | exact (ba_app' _ _).trans (by simp [bl])
   | (rw [aZ (by omega)];refine congrArg (fun s=>Result.ok (Next.value (Value.string s)) X) ((ba_app' _ _).trans (by simp [bl])))
  (simp only [aM]);(refine cM (fun K1 hK1=>?_);simp only [aM];rw [bA (by rfl)];go_simp);refine (HI2.out _ HB3.out).mono ?_;rintro e' w4 ⟨rfl,hw⟩;replace hS:=bJ (cJ hw hS.1) (cJ hw hS.2);have HB4:=aF (HB3.out.trans (hw.mono HB3.out.size));refine hK1.out _ _ (fun _=>hS) ?_;clear hK1 hw;refine dS (v:=tx (32 :: 32 :: (wd ++ 32 :: (i1 ++ 32 :: i2)))) (by kernel_rfl) (fun _ _ _ h=>h) (Or.inl ⟨by rfl,?_⟩) hS ?_
  ·rintro X hX;(try simp only [aI]);go_simp;first
   | exact (ba_app' _ _).trans (by simp [bl])
   | (rw [aZ (by omega)];refine congrArg (fun s=>Result.ok (Next.value (Value.string s)) X) ((ba_app' _ _).trans (by simp [bl])))
  (simp only [aM]);refine dS (v:=tx (32 :: 32 :: (wd ++ 32 :: (i1 ++ 32 :: (i2 ++ [59,10]))))) (by kernel_rfl) (fun _ _ _ h=>h) (Or.inl ⟨by rfl,?_⟩) hS ?_
  ·rintro X hX;(try simp only [aI]);go_simp;first
   | exact (ba_app' _ _).trans (by simp [bl])
   | (rw [aZ (by omega)];refine congrArg (fun s=>Result.ok (Next.value (Value.string s)) X) ((ba_app' _ _).trans (by simp [bl])))
  (simp only [aM]);refine dS (v:=tx (bs ++ (32 :: 32 :: (wd ++ 32 :: (i1 ++ 32 :: (i2 ++ [59,10])))))) (by kernel_rfl) (fun _ _ _ h=>h) (Or.inl ⟨by rfl,?_⟩) hS ?_
  ·rintro X hX;(try simp only [aI]);go_simp;first
   | exact (ba_app' _ _).trans (by simp [bl])
   | (rw [aZ (by omega)];refine congrArg (fun s=>Result.ok (Next.value (Value.string s)) X) ((ba_app' _ _).trans (by simp [bl])))
  (simp only [aM]);((refine dS (v:=?_) (by kernel_rfl) (fun _ _ _ h=>h) (Or.inl ⟨by rfl,?_⟩) hS ?_;rotate_left;(next=>(rintro X -;(try simp only [aI]);go_simp;rfl));simp only [aM]))
  refine cV ?_;go_wp2_with fail
  go_roundw
  case rel=>exact ⟨k+1,by omega,by go_num,by rw [HNX.out],HB4⟩
  case measure=>simp [intOf];omega
end
end Go.Proofs.YtmknfbfppmkcfaaGreatDoor
