/-
  Parts of the proof: V67G2 V67G3 V67B4 V67G4 V67B5 V67G5 V67 Y70.
-/
import Derived.Test.YtmknfbfppmkcfaaGreatDoorPI0
import Derived.Test.YtmknfbfppmkcfaaGreatDoorPI25
import Derived.Test.YtmknfbfppmkcfaaGreatDoorPI11
import Derived.Test.YtmknfbfppmkcfaaGreatDoorPI10
import Derived.Test.YtmknfbfppmkcfaaGreatDoorPI13
import Derived.Test.YtmknfbfppmkcfaaGreatDoorPI5
import Derived.Test.YtmknfbfppmkcfaaGreatDoorPI3
import Derived.Test.YtmknfbfppmkcfaaGreatDoorPI12
import Derived.ChangeKeysEq
namespace Go.Proofs.YtmknfbfppmkcfaaGreatDoor
set_option maxRecDepth 100000
set_option maxHeartbeats 16000000
section
open Go Go.RowKit Go.Maps
theorem rC {b:Bdy} {bh:BH} {w:World} (H:Rk w b bh) (t:Trm) (A B C:Option Addr) (c d f:Nat) (ht:Slc 1 RInt w A c t.targets) (hl:Slc 4 ROp w B d t.args) (_hp:Slc 2 RPj w C f t.place.proj) (hk:t.kind=2) (hfd:fieldsT t=true):
 Calls Tryz.prog 56 #[.agg (bdC b bh).toArray,.agg (tmC t A c B d C f).toArray] w fun e' w'=>e' = .returned (.int .i64 (tmE b t))/\Below w.heap.size w w':=by
 have HZ:=aF (fun W=>dQ t.place C f W);have HOP:=aF (fun W (hb:Below w.heap.size w W) (o:Opd) (A:Option Addr) (c:Nat) (hp:Slc 2 RPj w A c o.place.proj)=>dI (H.keep hb) o A c (hp.keep RPj.keeps hb));have hfd2:=hfd;unfold fieldsT at hfd2;rw [hk] at hfd2;simp only [reduceIte,Int.reduceEq,bQ,decide_eq_true_eq] at hfd2;obtain ⟨⟨⟨hn,hm⟩,hzz⟩,hnm0⟩:=hfd2;obtain ⟨Q,hQ⟩:∃Q,(if opsE b t.args []≠0 then opsE b t.args [] else 0)=Q:=⟨_,rfl⟩;have HQ:=aF hQ
 have HF:Hid (tmE b t=if (t.targets.drop 0).all (fun k=>decide (0<=k/\k<(b.blocks.length:Int)))=true then Q else 3):=aF (by
  rw [bX,tmE,aZ (by omega),aZ (by rw [hfd];simp),<- hQ];cases t.targets.all (fun k=>decide (0<=k/\k<(b.blocks.length:Int)))
  ·simp
  ·rw [bV hm,dG]
   simp [hk])
 generalize tmE b t=R at HF ⊢;have hblkl:=H.at_.blk.le;have hblkb:=H.at_.blk.big;have hle2:=ht.le;have hbig2:=ht.big;have hle:=hl.le;have hbig:=hl.big;have HTG:=aF ht;have HL:=aF hl
 have hnm:t.name={ data:= #[] }:=by
  have h:=hnm0;cases hh:t.name with
  | mk dd=>
    rw [hh] at h;exact congrArg ByteArray.mk (Array.eq_empty_of_size_eq_zero (show dd.size=0 from h))
 rw [hzz] at HZ;obtain ⟨m,hmm⟩:∃m,t.args.length=m:=⟨_,rfl⟩;have HN:=aF hmm;clear hQ H ht hl _hp hfd hnm0;unfold bdC at *;unfold tmC;rw [hk,hn,hmm,hnm];rw [hmm] at hle;obtain rfl:m=0:=by omega
 have HTN:=aF hn;clear hn hk hmm hnm hm;clear hzz;go_enter Tryz.func56,Tryz.ntmps56
 go_wp2_with fail
 have hS:=fZ w (bdC b bh) (tmL 2 0 A c B 0 d t C f { data:= #[] }) arT 28 61 157;refine cO (S:=fun X=>aD w (bdC b bh) (tmL 2 0 A c B 0 d t C f { data:= #[] }) arT X) [0,1,2,3,4,5,6,7,8,9,10,11,12,13,14,15,16,17,18,19,20,21,22,23,24,25,26,27,28,29,30,31,32,33,34,35,36,37,38,39,40,41,42,43,44,45,46,47,48,49,50,51,52,53,54,55,56,57] (by kernel_rfl) ?_;(iterate 28 (refine cP (v:=?_) ?_ hS ?_;rotate_left;(next=>(rintro X ⟨hX,hY,hA,hZ⟩;obtain ⟨s0,s1,s2,s3,s4,s5⟩:=aR hY;have a0:=hA 2 _ rfl;(try simp only [aI]);go_simp;rfl));simp only [aM]));(refine cS (fun K1 hK1=>?_);simp only [aM];rw [bA (by rfl)];go_simp);refine (HZ.out _).mono ?_;rintro e' w1 ⟨rfl,hb⟩;replace hS:=bJ (cN hS.1 hb) (bJ (cN hS.2.1 hb) (bJ (cN hS.2.2.1 hb) (hS.2.2.2.trans (hb.mono hS.2.2.2.size))));have HS2:=aF hS;clear hb;refine hK1.out _ _ (fun _=>hS) ?_;clear hK1;(iterate 8 (refine cP (v:=?_) ?_ hS ?_;rotate_left;(next=>(rintro X ⟨hX,hY,hA,hZ⟩;obtain ⟨s0,s1,s2,s3,s4,s5⟩:=aR hY;have a0:=hA 2 _ rfl;(try simp only [aI]);go_simp;rfl));simp only [aM]));(iterate 4 (refine cY (v:=undef) (by kernel_rfl) (fun _ _ _ h=>h) (Or.inr ⟨by rfl,rfl⟩) hS ?_;simp only [aM]));(iterate 17 (refine cP (v:=?_) ?_ hS ?_;rotate_left;(next=>(rintro X ⟨hX,hY,hA,hZ⟩;obtain ⟨s0,s1,s2,s3,s4,s5⟩:=aR hY;have a0:=hA 2 _ rfl;(try simp only [aI]);go_simp;rfl));simp only [aM]));refine cZ ?_;clear hS;go_wp2_with fail
 have HY:=aF HS2.out.1;have HZZ:=aF HS2.out.2.1;have HB:=aF HS2.out.2.2.2;clear HS2;go_loopw [7] (fun v wr=>∃k:Nat,k<=0/\v = .int .i64 k/\Hid (aA (bdC b bh) wr w.heap.size)/\Hid (aA (tmL 2 0 A c B 0 d t C f { data:= #[] }) wr (w.heap.size+1))/\Hid (Below w.heap.size w wr)/\Hid (R=if (t.targets.drop k).all (fun k=>decide (0<=k/\k<(b.blocks.length:Int)))=true then Q else 3)) (fun v _=>0 - (intOf v).toNat)
 case atStart=>exact ⟨0,by omega,rfl,HY,HZZ,HB,HF⟩
 case round=>
  clear HY HZZ HB HF;obtain ⟨k,hk2,rfl,HY,HZ,HB,hr⟩:=hrel;obtain ⟨y0,y1,y2,y3,y4,y5,y6⟩:=aS HY.out;obtain ⟨z0,z1,z2,z3,z4,z5⟩:=aR HZ.out;by_cases hlt:k<0
  next=>exact absurd hlt (by omega)
  next=>
   have HR:Hid (R=Q):=aF (by rw [hr.out,bE (by rw [HTN.out];omega)];rfl);clear hr;have HOPS:Hid (R=if opsE b t.args []≠0 then opsE b t.args [] else 0):=aF (by rw [HR.out,<- HQ.out]);clear HR HQ;go_wp2_with fail
   clear hlt hk2;go_loopw [8] (fun v wr=>∃j:Nat,j<=0/\v = .int .i64 j/\Hid (aA (bdC b bh) wr w.heap.size)/\Hid (aA (tmL 2 0 A c B 0 d t C f { data:= #[] }) wr (w.heap.size+1))/\Hid (Below w.heap.size w wr)/\Hid (opsE b t.args []=opsE b (t.args.drop j) [])) (fun v _=>0 - (intOf v).toNat)
   case atStart=>exact ⟨0,by omega,rfl,aF HY.out,aF HZ.out,HB,aF rfl⟩
   case round=>
    clear HY HZ HB y0 y1 y2 y3 y4 y5 y6 z0 z1 z2 z3 z4 z5;obtain ⟨j,hj,rfl,HY,HZ,HB,hr⟩:=hrel;obtain ⟨y0,y1,y2,y3,y4,y5,y6⟩:=aS HY.out;obtain ⟨z0,z1,z2,z3,z4,z5⟩:=aR HZ.out;by_cases hlt:j<0
    next=>exact absurd hlt (by omega)
    next=>
     have hz0:opsE b t.args []=0:=(by rw [hr.out,bE (by rw [HN.out];omega),dG]);have HQ2:Hid (R=0):=aF (by rw [HOPS.out,aZ (by simp [hz0])]);clear hr hz0;go_wp2_with fail
     go_quiet (fail)
     all_goals go_wp2_with fail
     go_ret;exact ⟨by rw [HQ2.out];rfl,aG HB.out _⟩
theorem rB {b:Bdy} {bh:BH} {w:World} (H:Rk w b bh) (t:Trm) (A B C:Option Addr) (c d f:Nat) (ht:Slc 1 RInt w A c t.targets) (hl:Slc 4 ROp w B d t.args) (hp:Slc 2 RPj w C f t.place.proj) (hk:t.kind=3) (hfd:fieldsT t=true) (hz:t.name.size<=9223372036854775807):
 Calls Tryz.prog 56 #[.agg (bdC b bh).toArray,.agg (tmC t A c B d C f).toArray] w fun e' w'=>e' = .returned (.int .i64 (tmE b t))/\Below w.heap.size w w':=by
 have HZ:=aF (fun W=>dQ t.place C f W);have HOP:=aF (fun W (hb:Below w.heap.size w W) (o:Opd) (A:Option Addr) (c:Nat) (hp:Slc 2 RPj w A c o.place.proj)=>dI (H.keep hb) o A c (hp.keep RPj.keeps hb));have HTT:=aF (fun (W:World) (hb:Below w.heap.size w W)=>eC b bh t.place C f W (H.keep hb).at_ (hp.keep RPj.keeps hb) H.ok.okay);have HMU:=aF (fun (W:World) (hb:Below w.heap.size w W)=>lH b bh t.place C f W (H.keep hb).at_ (hp.keep RPj.keeps hb) H.ok.okay);have HI:=aF (fun W=>gL t.name W hz);have hfd2:=hfd;unfold fieldsT at hfd2;rw [hk] at hfd2;simp only [reduceIte,Int.reduceEq,decide_eq_true_eq] at hfd2;have hn:=hfd2;obtain ⟨Q,hQ⟩:∃Q,(if isIdent t.name=false then 12 else if 65535<t.args.length then 15 else if opsE b t.args []≠0 then opsE b t.args [] else writE b t.place)=Q:=⟨_,rfl⟩;have HQ:=aF hQ
 have HF:Hid (tmE b t=if (t.targets.drop 0).all (fun k=>decide (0<=k/\k<(b.blocks.length:Int)))=true then Q else 3):=aF (by
  rw [bX,tmE,aZ (by omega),aZ (by rw [hfd];simp),<- hQ];cases t.targets.all (fun k=>decide (0<=k/\k<(b.blocks.length:Int)))
  ·simp
  ·simp [hk])
 generalize tmE b t=R at HF ⊢;have hblkl:=H.at_.blk.le;have hblkb:=H.at_.blk.big;have hle2:=ht.le;have hbig2:=ht.big;have hle:=hl.le;have hbig:=hl.big;have HTG:=aF ht;have HL:=aF hl;have HWE:Hid (writE b t.place=if (tyB b t.place).2≠0 then (tyB b t.place).2 else fail22 (!mutB b t.place)):=aF rfl;generalize isIdent t.name=ii at HI HQ;generalize writE b t.place=we at HQ HWE;generalize mutB b t.place=mu at HMU HWE;generalize tyB b t.place=ty at HTT HWE;obtain ⟨ti,te⟩:=ty;simp only at HWE HTT;obtain ⟨m,hmm⟩:∃m,t.args.length=m:=⟨_,rfl⟩;have HN:=aF hmm;clear hQ H ht hl hp hfd hz hfd2;unfold bdC at *;unfold tmC;rw [hk,hn,hmm];rw [hmm] at hle;have HTN:=aF hn;clear hn hk hmm;have hT:=dJ (aX _ (((w.alloc (.cells ((bdC b bh)).toArray 28)).alloc (.cells ((tmL 3 1 A c B m d t C f t.name)).toArray 61)).alloc (.cells (arT).toArray 157)));have HY:=aF hT.1;have HZZ:=aF hT.2.1;have HB:=aF (bel3 w (.cells ((bdC b bh)).toArray 28) (.cells ((tmL 3 1 A c B m d t C f t.name)).toArray 61) (.cells (arT).toArray 157));clear hT;go_enter Tryz.func56,Tryz.ntmps56
 go_wp2_with fail
 go_quiet (fail)
 all_goals go_wp2_with fail
 go_loopw [7] (fun v wr=>∃k:Nat,k<=1/\v = .int .i64 k/\Hid (aA (bdC b bh) wr w.heap.size)/\Hid (aA (tmL 3 1 A c B m d t C f t.name) wr (w.heap.size+1))/\Hid (Below w.heap.size w wr)/\Hid (R=if (t.targets.drop k).all (fun k=>decide (0<=k/\k<(b.blocks.length:Int)))=true then Q else 3)) (fun v _=>1 - (intOf v).toNat)
 case atStart=>exact ⟨0,by omega,rfl,aF HY.out,aF HZZ.out,aF (aG HB.out _),HF⟩
 case round=>
  clear HY HZZ HB HF;obtain ⟨k,hk2,rfl,HY,HZ,HB,hr⟩:=hrel;obtain ⟨y0,y1,y2,y3,y4,y5,y6⟩:=aS HY.out;obtain ⟨z0,z1,z2,z3,z4,z5⟩:=aR HZ.out;by_cases hlt:k<1
  next=>
   have hlt2:k<t.targets.length:=by rw [HTN.out];exact hlt
   have hd:=cV hlt2;obtain ⟨b5,o5,rfl,hb5,hx⟩:=HTG.out.sl.at_ hlt2;obtain ⟨x,hxx⟩:∃x,t.targets[k]=x:=⟨_,rfl⟩;rw [hxx] at hd hx;have x0:wr.cell? ⟨b5,o5+k,none⟩=some (.int .i64 x):=cM HB.out (by simpa [RInt] using hx);by_cases hin:0<=x/\x<(b.blocks.length:Int)
   ·have HF2:Hid (R=if (t.targets.drop (k+1)).all (fun k=>decide (0<=k/\k<(b.blocks.length:Int)))=true then Q else 3):=aF (by rw [hr.out,hd,cB];simp [hin]);have e1:decide (x<0)=false:=by simp;omega
    have e2:decide ((b.blocks.length:Int)<=x)=false:=by simp;omega
    clear hd hx hxx hr hin;go_wp2_with fail
    go_quiet (fail)
    all_goals go_wp2_with fail
    go_roundw
    case rel=>exact ⟨k+1,by omega,by go_num,aF HY.out,aF HZ.out,aF (aG HB.out _),HF2⟩
    case measure=>simp [intOf];omega
   ·have HF2:Hid (R=3):=aF (by rw [hr.out,hd,cB];simp;intro h1 h2;exact absurd ⟨h1,h2⟩ hin);clear hd hx hxx hr;by_cases hx0:x<0
    ·have e1:decide (x<0)=true:=by simp;omega
     clear hin hx0;go_wp2_with fail
     go_quiet (fail)
     all_goals go_wp2_with fail
     go_ret;exact ⟨by rw [HF2.out];rfl,aG HB.out _⟩
    ·have e1:decide (x<0)=false:=by simp;omega
     have e2:decide ((b.blocks.length:Int)<=x)=true:=by simp;omega
     clear hin hx0;go_wp2_with fail
     go_quiet (fail)
     all_goals go_wp2_with fail
     go_ret;exact ⟨by rw [HF2.out];rfl,aG HB.out _⟩
  next=>
   have HR:Hid (R=Q):=aF (by rw [hr.out,bE (by rw [HTN.out];omega)];rfl);clear hr;cases ii
   next=>
    have HF2:Hid (R=12):=aF (by rw [HR.out,<- HQ.out];rfl);go_wp2_with (go_at_call 92;refine (HI.out _).mono ?_;rintro e' w9 ⟨rfl,hw⟩;obtain rfl:=hw.symm)
    go_ret;exact ⟨by rw [HF2.out];rfl,HB.out⟩
   next=>
   by_cases hln:65535<m
   next=>
    have HF2:Hid (R=15):=aF (by rw [HR.out,<- HQ.out,HN.out];simp [hln]);go_wp2_with (go_at_call 92;refine (HI.out _).mono ?_;rintro e' w9 ⟨rfl,hw⟩;obtain rfl:=hw.symm)
    go_ret;exact ⟨by rw [HF2.out];rfl,HB.out⟩
   next=>
   have HOPS:Hid (R=if opsE b t.args []≠0 then opsE b t.args [] else we):=aF (by rw [HR.out,<- HQ.out,HN.out];simp [hln]);clear HR HQ;go_wp2_with (go_at_call 92;refine (HI.out _).mono ?_;rintro e' w9 ⟨rfl,hw⟩;obtain rfl:=hw.symm)
   clear hlt hk2;go_loopw [8] (fun v wr=>∃j:Nat,j<=m/\v = .int .i64 j/\Hid (aA (bdC b bh) wr w.heap.size)/\Hid (aA (tmL 3 1 A c B m d t C f t.name) wr (w.heap.size+1))/\Hid (Below w.heap.size w wr)/\Hid (opsE b t.args []=opsE b (t.args.drop j) [])) (fun v _=>m - (intOf v).toNat)
   case atStart=>exact ⟨0,by omega,rfl,aF HY.out,aF HZ.out,HB,aF rfl⟩
   case round=>
    clear HY HZ HB y0 y1 y2 y3 y4 y5 y6 z0 z1 z2 z3 z4 z5;obtain ⟨j,hj,rfl,HY,HZ,HB,hr⟩:=hrel;obtain ⟨y0,y1,y2,y3,y4,y5,y6⟩:=aS HY.out;obtain ⟨z0,z1,z2,z3,z4,z5⟩:=aR HZ.out;by_cases hlt:j<m
    next=>
     have hl1:j<t.args.length:=by rw [HN.out];exact hlt
     obtain ⟨b5,o5,rfl,hb5,hxo⟩:=HL.out.sl.at_ hl1;have hd:=cV hl1;obtain ⟨o,hoo⟩:∃o,t.args[j]=o:=⟨_,rfl⟩;rw [hoo] at hxo hd;obtain ⟨p0,⟨p1,A2,c2,p2,hc1,hc2,hsl⟩,p3⟩:=hxo;have HPJ:Hid (Slc 2 RPj w A2 c2 o.place.proj):=aF ⟨hsl,hc1,hc2⟩;have P0:=aF p0;have P1:=aF p1;have P2:=aF (show w.cell? ⟨b5,o5+j * 4+2,none⟩=_ from p2);have P3:=aF p3;have HOO:=aF (fun W hb=>HOP.out W hb o A2 c2 HPJ.out);unfold opC at HOO
     have HV2:Hid ((opE b o≠0->R=opE b o)/\(opE b o=0->opsE b t.args []=opsE b (t.args.drop (j+1)) [])):=aF ⟨fun he=>by
      have h9:opsE b t.args []=opE b o:=by rw [hr.out,hd,eW he]
      rw [HOPS.out,h9,bA he],fun he=>by rw [hr.out,hd,fD he]⟩
     generalize opE b o=eo at HOO HV2;clear hr hd hoo p0 p1 p2 p3 hsl hc1 hc2 hl1;go_wp2_with fail
     have hS:aB w (bdC b bh) (tmL 3 1 A c (some ⟨b5,o5,none⟩) m d t C f t.name) wr.drew:=⟨HY.out,HZ.out,HB.out.drew⟩;clear y0 y1 y2 y3 y4 y5 y6 z0 z1 z2 z3 z4 z5;refine cO (S:=fun X=>aB w (bdC b bh) (tmL 3 1 A c (some ⟨b5,o5,none⟩) m d t C f t.name) X) [0,1,2,3,4,5,6,7] (by kernel_rfl) ?_;(iterate 6 (refine cP (v:=?_) ?_ hS ?_;rotate_left;(next=>(rintro X ⟨hX,hY,hZ⟩;obtain ⟨s0,s1,s2,s3,s4,s5,s6⟩:=aS hX;have u2:=hY 2 _ rfl;have p0:=cM hZ P0.out;have p1:=cM hZ P1.out;have p2:=cM hZ P2.out;have p3:=cM hZ P3.out;(try simp only [aI]);go_simp;rfl));simp only [aM]));(refine cS (fun K1 hK1=>?_);simp only [aM];rw [bA (by rfl)];go_simp);refine (HOO.out _ hS.2.2).mono ?_;rintro e' w2 ⟨rfl,hb⟩;replace hS:=bJ (cN hS.1 hb) (bJ (cN hS.2.1 hb) (hS.2.2.trans (hb.mono hS.2.2.size)));have HS2:=aF hS;clear hb;refine hK1.out _ _ (fun _=>hS) ?_;clear hK1;((refine cP (v:=?_) ?_ hS ?_;rotate_left;(next=>(rintro X -;(try simp only [aI]);go_simp;rfl));simp only [aM]))
     refine cZ ?_;clear hS;by_cases he:eo=0
     ·subst he;have HV3:=aF (HV2.out.2 rfl);clear HV2;go_wp2_with fail
      go_roundw
      case rel=>exact ⟨j+1,by omega,by go_num,aF HS2.out.1,aF HS2.out.2.1,aF HS2.out.2.2,HV3⟩
      case measure=>simp [intOf];omega
     ·have HF2:=aF (HV2.out.1 he);have e1:(eo != 0)=true:=by simp [he]
      clear he HV2;go_wp2_with fail
      go_ret;exact ⟨by rw [HF2.out];rfl,HS2.out.2.2⟩
    next=>
     have hz0:opsE b t.args []=0:=(by rw [hr.out,bE (by rw [HN.out];omega),dG]);have HQ2:Hid (R=we):=aF (by rw [HOPS.out,aZ (by simp [hz0])]);clear hr hz0;go_wp2_with fail
     go_quiet (fail)
     by_cases he:te=0
     next=>
      have HQ3:Hid (R=fail22 (!mu)):=aF (by rw [HQ2.out,HWE.out];simp [he]);subst he;clear HQ2 HWE;cases mu
      all_goals
       go_wp2_with (first | (go_at_call 95;refine (HTT.out _ (aG HB.out _)).mono ?_;rintro e' w2 ⟨rfl,hb⟩;have HB2:=aF ((aG HB.out _).trans (hb.mono (aG HB.out _).size));have HY2:=aF (cN (W:=wr.drewN _) HY.out hb);have HZ2:=aF (cN (W:=wr.drewN _) HZ.out hb);clear y0 y1 y2 y3 y4 y5 y6 z0 z1 z2 z3 z4 z5;obtain ⟨y0,y1,y2,y3,y4,y5,y6⟩:=aS HY2.out;obtain ⟨z0,z1,z2,z3,z4,z5⟩:=aR HZ2.out;clear hb) | (go_at_call 96;refine (HMU.out _ HB2.out).mono ?_;rintro e' w3 ⟨rfl,hb⟩;have HB3:=aF (HB2.out.trans (hb.mono HB2.out.size));have HZ3:=aF (cN HZ2.out hb);clear y0 y1 y2 y3 y4 y5 y6 z0 z1 z2 z3 z4 z5;have k0:=HZ3.out 0 _ rfl;clear hb))
       go_ret;exact ⟨by rw [HQ3.out];rfl,HB3.out⟩
     next=>
      have HQ3:Hid (R=te):=aF (by rw [HQ2.out,HWE.out];simp [he]);have e1:(te != 0)=true:=by simp [he]
      clear HQ2 HWE he;go_wp2_with (go_at_call 95;refine (HTT.out _ (aG HB.out _)).mono ?_;rintro e' w2 ⟨rfl,hb⟩;have HB2:=aF ((aG HB.out _).trans (hb.mono (aG HB.out _).size));have HY2:=aF (cN (W:=wr.drewN _) HY.out hb);have HZ2:=aF (cN (W:=wr.drewN _) HZ.out hb);clear y0 y1 y2 y3 y4 y5 y6 z0 z1 z2 z3 z4 z5;obtain ⟨y0,y1,y2,y3,y4,y5,y6⟩:=aS HY2.out;obtain ⟨z0,z1,z2,z3,z4,z5⟩:=aR HZ2.out;clear hb)
      go_ret;exact ⟨by rw [HQ3.out];rfl,HB2.out⟩
theorem uV {b:Bdy} {bh:BH} {w:World} (_H:Rk w b bh) (t:Trm) (A B C:Option Addr) (c d f:Nat) (ht:Slc 1 RInt w A c t.targets) (hl:Slc 4 ROp w B d t.args) (_hp:Slc 2 RPj w C f t.place.proj) (hk:t.kind=4) (hfd:fieldsT t=false):
 Calls Tryz.prog 56 #[.agg (bdC b bh).toArray,.agg (tmC t A c B d C f).toArray] w fun e' w'=>e' = .returned (.int .i64 (tmE b t))/\Below w.heap.size w w':=by
 have HZ:=aF (fun W=>dQ t.place C f W);have HF:Hid (tmE b t=2):=aF (by rw [tmE,aZ (by omega),bA hfd]);generalize tmE b t=R at HF ⊢;have hfd2:=hfd;unfold fieldsT at hfd2;rw [hk] at hfd2;simp only [reduceIte,Int.reduceEq] at hfd2;obtain ⟨n,hn⟩:∃n,t.targets.length=n:=⟨_,rfl⟩;obtain ⟨m,hm⟩:∃m,t.args.length=m:=⟨_,rfl⟩;obtain ⟨z,hzz⟩:∃z,zeroP t.place=z:=⟨_,rfl⟩;have hmb:m<=9223372036854775807:=by have h1:=hl.le;have h2:=hl.big;omega
 have hnb:n<=9223372036854775807:=by have h1:=ht.le;have h2:=ht.big;omega
 obtain ⟨u,hu⟩:∃u,decide (t.name.size=0)=u:=⟨_,rfl⟩;have hne:=eE t.name;rw [hu] at hne;try rw [hu] at hfd2
 rw [hn] at hfd2;try rw [hm] at hfd2
 try rw [hzz] at hfd2
 rw [hzz] at HZ;clear _H ht hl _hp hfd hzz;unfold bdC tmC;rw [hk,hn,hm];clear hk hn hm;by_cases hn:n=1
 case neg=>
  have e1:((n:Int) != 1)=true:=by simp;omega
  clear hfd2 hne HZ hu;go_enter Tryz.func56,Tryz.ntmps56
  go_wp2_with fail
  go_quiet (fail)
  all_goals go_wp2_with fail
  all_goals first
   | (exfalso;omega)
   | (go_ret;exact ⟨by rw [HF.out];rfl,by first | exact aG aH _ | exact aH⟩)
 subst hn;cases u
 case false=>
  clear hfd2 HZ hu;go_enter Tryz.func56,Tryz.ntmps56
  go_wp2_with fail
  go_quiet (fail)
  all_goals go_wp2_with fail
  all_goals first
   | (exfalso;omega)
   | (go_ret;exact ⟨by rw [HF.out];rfl,by first | exact aG aH _ | exact aH⟩)
 have hnm:t.name={ data:= #[] }:=by
  have h:=of_decide_eq_true hu;cases hh:t.name with
  | mk dd=>
    rw [hh] at h;exact congrArg ByteArray.mk (Array.eq_empty_of_size_eq_zero (show dd.size=0 from h))
 rw [hnm];clear hu hne hnm;have hm0:0<m:=by simp at hfd2;omega
 have e3:decide (0<(m:Int))=true:=by simp;omega
 clear hfd2;go_enter Tryz.func56,Tryz.ntmps56
 go_wp2_with fail
 go_quiet (fail)
 all_goals go_wp2_with fail
 all_goals first
  | (exfalso;omega)
  | (go_ret;exact ⟨by rw [HF.out];rfl,by first | exact aG aH _ | exact aH⟩)
theorem rA {b:Bdy} {bh:BH} {w:World} (H:Rk w b bh) (t:Trm) (A B C:Option Addr) (c d f:Nat) (ht:Slc 1 RInt w A c t.targets) (hl:Slc 4 ROp w B d t.args) (hp:Slc 2 RPj w C f t.place.proj) (hk:t.kind=4) (hfd:fieldsT t=true):
 Calls Tryz.prog 56 #[.agg (bdC b bh).toArray,.agg (tmC t A c B d C f).toArray] w fun e' w'=>e' = .returned (.int .i64 (tmE b t))/\Below w.heap.size w w':=by
 have HZ:=aF (fun W=>dQ t.place C f W);have HOP:=aF (fun W (hb:Below w.heap.size w W) (o:Opd) (A:Option Addr) (c:Nat) (hp:Slc 2 RPj w A c o.place.proj)=>dI (H.keep hb) o A c (hp.keep RPj.keeps hb));have HTT:=aF (fun (W:World) (hb:Below w.heap.size w W)=>eC b bh t.place C f W (H.keep hb).at_ (hp.keep RPj.keeps hb) H.ok.okay);have HHD:=aF (fun (W:World) (hb:Below w.heap.size w W)=>pQ t.place 0 C f W (hp.keep RPj.keeps hb));have hfd2:=hfd;unfold fieldsT at hfd2;rw [hk] at hfd2;simp only [reduceIte,Int.reduceEq,bQ,decide_eq_true_eq] at hfd2;obtain ⟨⟨hn,hm⟩,hnm0⟩:=hfd2;obtain ⟨Q,hQ⟩:∃Q,(if opsE b t.args []≠0 then opsE b t.args [] else (if (tyB b t.place).2≠0 then (tyB b t.place).2 else fail22 (hasD t.place.proj 0)))=Q:=⟨_,rfl⟩;have HQ:=aF hQ
 have HF:Hid (tmE b t=if (t.targets.drop 0).all (fun k=>decide (0<=k/\k<(b.blocks.length:Int)))=true then Q else 3):=aF (by
  rw [bX,tmE,aZ (by omega),aZ (by rw [hfd];simp),<- hQ];cases t.targets.all (fun k=>decide (0<=k/\k<(b.blocks.length:Int)))
  ·simp
  ·rw [bV hm,dG]
   simp [hk])
 generalize tmE b t=R at HF ⊢;have hblkl:=H.at_.blk.le;have hblkb:=H.at_.blk.big;have hle2:=ht.le;have hbig2:=ht.big;have hle:=hl.le;have hbig:=hl.big;have HTG:=aF ht;have HL:=aF hl;generalize hasD t.place.proj 0=hdd at HHD HQ;generalize tyB b t.place=ty at HTT HQ;obtain ⟨ti,te⟩:=ty;simp only at HQ HTT
 have hnm:t.name={ data:= #[] }:=by
  have h:=hnm0;cases hh:t.name with
  | mk dd=>
    rw [hh] at h;exact congrArg ByteArray.mk (Array.eq_empty_of_size_eq_zero (show dd.size=0 from h))
 obtain ⟨m,hmm⟩:∃m,t.args.length=m:=⟨_,rfl⟩;have HN:=aF hmm;clear hQ H ht hl hp hfd hnm0;unfold bdC at *;unfold tmC;rw [hk,hn,hmm,hnm];rw [hmm] at hle;obtain rfl:m=0:=by omega
 have HTN:=aF hn;clear hn hk hmm hnm hm;have hT:=dJ (aX _ (((w.alloc (.cells ((bdC b bh)).toArray 28)).alloc (.cells ((tmL 4 1 A c B 0 d t C f { data:= #[] })).toArray 61)).alloc (.cells (arT).toArray 157)));have HY:=aF hT.1;have HZZ:=aF hT.2.1;have HB:=aF (bel3 w (.cells ((bdC b bh)).toArray 28) (.cells ((tmL 4 1 A c B 0 d t C f { data:= #[] })).toArray 61) (.cells (arT).toArray 157));clear hT;go_enter Tryz.func56,Tryz.ntmps56
 go_wp2_with fail
 go_quiet (fail)
 all_goals go_wp2_with fail
 go_loopw [7] (fun v wr=>∃k:Nat,k<=1/\v = .int .i64 k/\Hid (aA (bdC b bh) wr w.heap.size)/\Hid (aA (tmL 4 1 A c B 0 d t C f { data:= #[] }) wr (w.heap.size+1))/\Hid (Below w.heap.size w wr)/\Hid (R=if (t.targets.drop k).all (fun k=>decide (0<=k/\k<(b.blocks.length:Int)))=true then Q else 3)) (fun v _=>1 - (intOf v).toNat)
 case atStart=>exact ⟨0,by omega,rfl,aF HY.out,aF HZZ.out,aF (aG HB.out _),HF⟩
 case round=>
  clear HY HZZ HB HF;obtain ⟨k,hk2,rfl,HY,HZ,HB,hr⟩:=hrel;obtain ⟨y0,y1,y2,y3,y4,y5,y6⟩:=aS HY.out;obtain ⟨z0,z1,z2,z3,z4,z5⟩:=aR HZ.out;by_cases hlt:k<1
  next=>
   have hlt2:k<t.targets.length:=by rw [HTN.out];exact hlt
   have hd:=cV hlt2;obtain ⟨b5,o5,rfl,hb5,hx⟩:=HTG.out.sl.at_ hlt2;obtain ⟨x,hxx⟩:∃x,t.targets[k]=x:=⟨_,rfl⟩;rw [hxx] at hd hx;have x0:wr.cell? ⟨b5,o5+k,none⟩=some (.int .i64 x):=cM HB.out (by simpa [RInt] using hx);by_cases hin:0<=x/\x<(b.blocks.length:Int)
   ·have HF2:Hid (R=if (t.targets.drop (k+1)).all (fun k=>decide (0<=k/\k<(b.blocks.length:Int)))=true then Q else 3):=aF (by rw [hr.out,hd,cB];simp [hin]);have e1:decide (x<0)=false:=by simp;omega
    have e2:decide ((b.blocks.length:Int)<=x)=false:=by simp;omega
    clear hd hx hxx hr hin;go_wp2_with fail
    go_quiet (fail)
    all_goals go_wp2_with fail
    go_roundw
    case rel=>exact ⟨k+1,by omega,by go_num,aF HY.out,aF HZ.out,aF (aG HB.out _),HF2⟩
    case measure=>simp [intOf];omega
   ·have HF2:Hid (R=3):=aF (by rw [hr.out,hd,cB];simp;intro h1 h2;exact absurd ⟨h1,h2⟩ hin);clear hd hx hxx hr;by_cases hx0:x<0
    ·have e1:decide (x<0)=true:=by simp;omega
     clear hin hx0;go_wp2_with fail
     go_quiet (fail)
     all_goals go_wp2_with fail
     go_ret;exact ⟨by rw [HF2.out];rfl,aG HB.out _⟩
    ·have e1:decide (x<0)=false:=by simp;omega
     have e2:decide ((b.blocks.length:Int)<=x)=true:=by simp;omega
     clear hin hx0;go_wp2_with fail
     go_quiet (fail)
     all_goals go_wp2_with fail
     go_ret;exact ⟨by rw [HF2.out];rfl,aG HB.out _⟩
  next=>
   have HR:Hid (R=Q):=aF (by rw [hr.out,bE (by rw [HTN.out];omega)];rfl);clear hr;have HOPS:Hid (R=if opsE b t.args []≠0 then opsE b t.args [] else if te≠0 then te else fail22 hdd):=aF (by rw [HR.out,<- HQ.out]);clear HR HQ;go_wp2_with fail
   clear hlt hk2;go_loopw [8] (fun v wr=>∃j:Nat,j<=0/\v = .int .i64 j/\Hid (aA (bdC b bh) wr w.heap.size)/\Hid (aA (tmL 4 1 A c B 0 d t C f { data:= #[] }) wr (w.heap.size+1))/\Hid (Below w.heap.size w wr)/\Hid (opsE b t.args []=opsE b (t.args.drop j) [])) (fun v _=>0 - (intOf v).toNat)
   case atStart=>exact ⟨0,by omega,rfl,aF HY.out,aF HZ.out,HB,aF rfl⟩
   case round=>
    clear HY HZ HB y0 y1 y2 y3 y4 y5 y6 z0 z1 z2 z3 z4 z5;obtain ⟨j,hj,rfl,HY,HZ,HB,hr⟩:=hrel;obtain ⟨y0,y1,y2,y3,y4,y5,y6⟩:=aS HY.out;obtain ⟨z0,z1,z2,z3,z4,z5⟩:=aR HZ.out;by_cases hlt:j<0
    next=>exact absurd hlt (by omega)
    next=>
     have hz0:opsE b t.args []=0:=(by rw [hr.out,bE (by rw [HN.out];omega),dG]);have HQ2:Hid (R=if te≠0 then te else fail22 hdd):=aF (by rw [HOPS.out,aZ (by simp [hz0])]);clear hr hz0;go_wp2_with fail
     go_quiet (fail)
     by_cases he:te=0
     next=>
      have HQ3:Hid (R=fail22 hdd):=aF (by rw [HQ2.out];simp [he]);subst he;clear HQ2;cases hdd
      all_goals
       go_wp2_with (first | (go_at_call 95;refine (HTT.out _ (aG HB.out _)).mono ?_;rintro e' w2 ⟨rfl,hb⟩;have HB2:=aF ((aG HB.out _).trans (hb.mono (aG HB.out _).size));have HY2:=aF (cN (W:=wr.drewN _) HY.out hb);have HZ2:=aF (cN (W:=wr.drewN _) HZ.out hb);clear y0 y1 y2 y3 y4 y5 y6 z0 z1 z2 z3 z4 z5;obtain ⟨y0,y1,y2,y3,y4,y5,y6⟩:=aS HY2.out;obtain ⟨z0,z1,z2,z3,z4,z5⟩:=aR HZ2.out;clear hb) | (go_at_call 102;refine (HHD.out _ HB2.out).mono ?_;rintro e' w3 ⟨rfl,hb⟩;have HB3:=aF (HB2.out.trans (hb.mono HB2.out.size));clear hb))
       go_ret;exact ⟨by rw [HQ3.out];rfl,HB3.out⟩
     next=>
      have HQ3:Hid (R=te):=aF (by rw [HQ2.out];simp [he]);have e1:(te != 0)=true:=by simp [he]
      clear HQ2 he;go_wp2_with (go_at_call 95;refine (HTT.out _ (aG HB.out _)).mono ?_;rintro e' w2 ⟨rfl,hb⟩;have HB2:=aF ((aG HB.out _).trans (hb.mono (aG HB.out _).size));have HY2:=aF (cN (W:=wr.drewN _) HY.out hb);have HZ2:=aF (cN (W:=wr.drewN _) HZ.out hb);clear y0 y1 y2 y3 y4 y5 y6 z0 z1 z2 z3 z4 z5;obtain ⟨y0,y1,y2,y3,y4,y5,y6⟩:=aS HY2.out;obtain ⟨z0,z1,z2,z3,z4,z5⟩:=aR HZ2.out;clear hb)
      go_ret;exact ⟨by rw [HQ3.out];rfl,HB2.out⟩
theorem uU {b:Bdy} {bh:BH} {w:World} (_H:Rk w b bh) (t:Trm) (A B C:Option Addr) (c d f:Nat) (ht:Slc 1 RInt w A c t.targets) (hl:Slc 4 ROp w B d t.args) (_hp:Slc 2 RPj w C f t.place.proj) (hk:t.kind=5) (hfd:fieldsT t=false):
 Calls Tryz.prog 56 #[.agg (bdC b bh).toArray,.agg (tmC t A c B d C f).toArray] w fun e' w'=>e' = .returned (.int .i64 (tmE b t))/\Below w.heap.size w w':=by
 have HZ:=aF (fun W=>dQ t.place C f W);have HF:Hid (tmE b t=2):=aF (by rw [tmE,aZ (by omega),bA hfd]);generalize tmE b t=R at HF ⊢;have hfd2:=hfd;unfold fieldsT at hfd2;rw [hk] at hfd2;simp only [reduceIte,Int.reduceEq] at hfd2;obtain ⟨n,hn⟩:∃n,t.targets.length=n:=⟨_,rfl⟩;obtain ⟨m,hm⟩:∃m,t.args.length=m:=⟨_,rfl⟩;obtain ⟨z,hzz⟩:∃z,zeroP t.place=z:=⟨_,rfl⟩;have hmb:m<=9223372036854775807:=by have h1:=hl.le;have h2:=hl.big;omega
 have hnb:n<=9223372036854775807:=by have h1:=ht.le;have h2:=ht.big;omega
 obtain ⟨u,hu⟩:∃u,decide (t.name.size=0)=u:=⟨_,rfl⟩;have hne:=eE t.name;rw [hu] at hne;try rw [hu] at hfd2
 rw [hn] at hfd2;try rw [hm] at hfd2
 try rw [hzz] at hfd2
 rw [hzz] at HZ;clear _H ht hl _hp hfd hzz;unfold bdC tmC;rw [hk,hn,hm];clear hk hn hm;by_cases hn:n=0
 case neg=>
  have e1:((n:Int) != 0)=true:=by simp;omega
  clear hfd2 hne HZ hu;go_enter Tryz.func56,Tryz.ntmps56
  go_wp2_with fail
  go_quiet (fail)
  all_goals go_wp2_with fail
  all_goals first
   | (exfalso;omega)
   | (go_ret;exact ⟨by rw [HF.out];rfl,by first | exact aG aH _ | exact aH⟩)
 subst hn;cases u
 case false=>
  clear hfd2 HZ hu;go_enter Tryz.func56,Tryz.ntmps56
  go_wp2_with fail
  go_quiet (fail)
  all_goals go_wp2_with fail
  all_goals first
   | (exfalso;omega)
   | (go_ret;exact ⟨by rw [HF.out];rfl,by first | exact aG aH _ | exact aH⟩)
 have hnm:t.name={ data:= #[] }:=by
  have h:=of_decide_eq_true hu;cases hh:t.name with
  | mk dd=>
    rw [hh] at h;exact congrArg ByteArray.mk (Array.eq_empty_of_size_eq_zero (show dd.size=0 from h))
 rw [hnm];clear hu hne hnm;cases z
 case false=>
  clear hfd2;go_enter Tryz.func56,Tryz.ntmps56
  go_wp2_with fail
  have hS:=fZ w (bdC b bh) (tmL 5 0 A c B m d t C f { data:= #[] }) arT 28 61 157;refine cO (S:=fun X=>aD w (bdC b bh) (tmL 5 0 A c B m d t C f { data:= #[] }) arT X) [0,1,2,3,4,5,6,7,8,9,10,11,12,13,14,15,16,17,18,19,20,21,22,23,24,25,26,27,28,29,30,31,32,33,34,35,36,37,38,39,40,41,42,43,44,45,46,47,48,49,50,51,52,53,54,55,56,57] (by kernel_rfl) ?_;(iterate 28 (refine cP (v:=?_) ?_ hS ?_;rotate_left;(next=>(rintro X ⟨hX,hY,hA,hZ⟩;obtain ⟨s0,s1,s2,s3,s4,s5⟩:=aR hY;have a0:=hA 5 _ rfl;(try simp only [aI]);go_simp;rfl));simp only [aM]));(refine cS (fun K1 hK1=>?_);simp only [aM];rw [bA (by rfl)];go_simp);refine (HZ.out _).mono ?_;rintro e' w1 ⟨rfl,hb⟩;replace hS:=bJ (cN hS.1 hb) (bJ (cN hS.2.1 hb) (bJ (cN hS.2.2.1 hb) (hS.2.2.2.trans (hb.mono hS.2.2.2.size))));have HS2:=aF hS;clear hb;refine hK1.out _ _ (fun _=>hS) ?_;clear hK1;(iterate 4 (refine cP (v:=?_) ?_ hS ?_;rotate_left;(next=>(rintro X ⟨hX,hY,hA,hZ⟩;obtain ⟨s0,s1,s2,s3,s4,s5⟩:=aR hY;have a0:=hA 5 _ rfl;(try simp only [aI]);go_simp;rfl));simp only [aM]));(iterate 9 (refine cY (v:=undef) (by kernel_rfl) (fun _ _ _ h=>h) (Or.inr ⟨by rfl,rfl⟩) hS ?_;simp only [aM]));(iterate 2 (refine cP (v:=?_) ?_ hS ?_;rotate_left;(next=>(rintro X ⟨hX,hY,hA,hZ⟩;obtain ⟨s0,s1,s2,s3,s4,s5⟩:=aR hY;have a0:=hA 5 _ rfl;(try simp only [aI]);go_simp;rfl));simp only [aM]));(iterate 13 (refine cY (v:=undef) (by kernel_rfl) (fun _ _ _ h=>h) (Or.inr ⟨by rfl,rfl⟩) hS ?_;simp only [aM]));((refine cP (v:=?_) ?_ hS ?_;rotate_left;(next=>(rintro X ⟨hX,hY,hA,hZ⟩;obtain ⟨s0,s1,s2,s3,s4,s5⟩:=aR hY;have a0:=hA 5 _ rfl;(try simp only [aI]);go_simp;rfl));simp only [aM]))
  refine cZ ?_;clear hS;go_wp2_with fail
  all_goals first
   | (exfalso;omega)
   | (go_ret;exact ⟨by rw [HF.out];rfl,HS2.out.2.2.2⟩)
 have hm0:0<m:=by simp at hfd2;omega
 have e3:decide (0<(m:Int))=true:=by simp;omega
 clear hfd2;go_enter Tryz.func56,Tryz.ntmps56
 go_wp2_with fail
 have hS:=fZ w (bdC b bh) (tmL 5 0 A c B m d t C f { data:= #[] }) arT 28 61 157;refine cO (S:=fun X=>aD w (bdC b bh) (tmL 5 0 A c B m d t C f { data:= #[] }) arT X) [0,1,2,3,4,5,6,7,8,9,10,11,12,13,14,15,16,17,18,19,20,21,22,23,24,25,26,27,28,29,30,31,32,33,34,35,36,37,38,39,40,41,42,43,44,45,46,47,48,49,50,51,52,53,54,55,56,57] (by kernel_rfl) ?_;(iterate 28 (refine cP (v:=?_) ?_ hS ?_;rotate_left;(next=>(rintro X ⟨hX,hY,hA,hZ⟩;obtain ⟨s0,s1,s2,s3,s4,s5⟩:=aR hY;have a0:=hA 5 _ rfl;(try simp only [aI]);go_simp;rfl));simp only [aM]));(refine cS (fun K1 hK1=>?_);simp only [aM];rw [bA (by rfl)];go_simp);refine (HZ.out _).mono ?_;rintro e' w1 ⟨rfl,hb⟩;replace hS:=bJ (cN hS.1 hb) (bJ (cN hS.2.1 hb) (bJ (cN hS.2.2.1 hb) (hS.2.2.2.trans (hb.mono hS.2.2.2.size))));have HS2:=aF hS;clear hb;refine hK1.out _ _ (fun _=>hS) ?_;clear hK1;(iterate 8 (refine cP (v:=?_) ?_ hS ?_;rotate_left;(next=>(rintro X ⟨hX,hY,hA,hZ⟩;obtain ⟨s0,s1,s2,s3,s4,s5⟩:=aR hY;have a0:=hA 5 _ rfl;(try simp only [aI]);go_simp;rfl));simp only [aM]));(iterate 4 (refine cY (v:=undef) (by kernel_rfl) (fun _ _ _ h=>h) (Or.inr ⟨by rfl,rfl⟩) hS ?_;simp only [aM]));(iterate 17 (refine cP (v:=?_) ?_ hS ?_;rotate_left;(next=>(rintro X ⟨hX,hY,hA,hZ⟩;obtain ⟨s0,s1,s2,s3,s4,s5⟩:=aR hY;have a0:=hA 5 _ rfl;(try simp only [aI]);go_simp;rfl));simp only [aM]));refine cZ ?_;clear hS;go_wp2_with fail
 all_goals first
  | (exfalso;omega)
  | (go_ret;exact ⟨by rw [HF.out];rfl,HS2.out.2.2.2⟩)
theorem qZ {b:Bdy} {bh:BH} {w:World} (H:Rk w b bh) (t:Trm) (A B C:Option Addr) (c d f:Nat) (ht:Slc 1 RInt w A c t.targets) (hl:Slc 4 ROp w B d t.args) (_hp:Slc 2 RPj w C f t.place.proj) (hk:t.kind=5) (hfd:fieldsT t=true):
 Calls Tryz.prog 56 #[.agg (bdC b bh).toArray,.agg (tmC t A c B d C f).toArray] w fun e' w'=>e' = .returned (.int .i64 (tmE b t))/\Below w.heap.size w w':=by
 have HZ:=aF (fun W=>dQ t.place C f W);have HOP:=aF (fun W (hb:Below w.heap.size w W) (o:Opd) (A:Option Addr) (c:Nat) (hp:Slc 2 RPj w A c o.place.proj)=>dI (H.keep hb) o A c (hp.keep RPj.keeps hb));have hfd2:=hfd;unfold fieldsT at hfd2;rw [hk] at hfd2;simp only [reduceIte,Int.reduceEq,bQ,decide_eq_true_eq] at hfd2;obtain ⟨⟨⟨hn,hm⟩,hzz⟩,hnm0⟩:=hfd2;obtain ⟨Q,hQ⟩:∃Q,(if opsE b t.args []≠0 then opsE b t.args [] else 0)=Q:=⟨_,rfl⟩;have HQ:=aF hQ
 have HF:Hid (tmE b t=if (t.targets.drop 0).all (fun k=>decide (0<=k/\k<(b.blocks.length:Int)))=true then Q else 3):=aF (by
  rw [bX,tmE,aZ (by omega),aZ (by rw [hfd];simp),<- hQ];cases t.targets.all (fun k=>decide (0<=k/\k<(b.blocks.length:Int)))
  ·simp
  ·rw [bV hm,dG]
   simp [hk])
 generalize tmE b t=R at HF ⊢;have hblkl:=H.at_.blk.le;have hblkb:=H.at_.blk.big;have hle2:=ht.le;have hbig2:=ht.big;have hle:=hl.le;have hbig:=hl.big;have HTG:=aF ht;have HL:=aF hl
 have hnm:t.name={ data:= #[] }:=by
  have h:=hnm0;cases hh:t.name with
  | mk dd=>
    rw [hh] at h;exact congrArg ByteArray.mk (Array.eq_empty_of_size_eq_zero (show dd.size=0 from h))
 rw [hzz] at HZ;obtain ⟨m,hmm⟩:∃m,t.args.length=m:=⟨_,rfl⟩;have HN:=aF hmm;clear hQ H ht hl _hp hfd hnm0;unfold bdC at *;unfold tmC;rw [hk,hn,hmm,hnm];rw [hmm] at hle;obtain rfl:m=0:=by omega
 have HTN:=aF hn;clear hn hk hmm hnm hm;clear hzz;go_enter Tryz.func56,Tryz.ntmps56
 go_wp2_with fail
 have hS:=fZ w (bdC b bh) (tmL 5 0 A c B 0 d t C f { data:= #[] }) arT 28 61 157;refine cO (S:=fun X=>aD w (bdC b bh) (tmL 5 0 A c B 0 d t C f { data:= #[] }) arT X) [0,1,2,3,4,5,6,7,8,9,10,11,12,13,14,15,16,17,18,19,20,21,22,23,24,25,26,27,28,29,30,31,32,33,34,35,36,37,38,39,40,41,42,43,44,45,46,47,48,49,50,51,52,53,54,55,56,57] (by kernel_rfl) ?_;(iterate 28 (refine cP (v:=?_) ?_ hS ?_;rotate_left;(next=>(rintro X ⟨hX,hY,hA,hZ⟩;obtain ⟨s0,s1,s2,s3,s4,s5⟩:=aR hY;have a0:=hA 5 _ rfl;(try simp only [aI]);go_simp;rfl));simp only [aM]));(refine cS (fun K1 hK1=>?_);simp only [aM];rw [bA (by rfl)];go_simp);refine (HZ.out _).mono ?_;rintro e' w1 ⟨rfl,hb⟩;replace hS:=bJ (cN hS.1 hb) (bJ (cN hS.2.1 hb) (bJ (cN hS.2.2.1 hb) (hS.2.2.2.trans (hb.mono hS.2.2.2.size))));have HS2:=aF hS;clear hb;refine hK1.out _ _ (fun _=>hS) ?_;clear hK1;(iterate 8 (refine cP (v:=?_) ?_ hS ?_;rotate_left;(next=>(rintro X ⟨hX,hY,hA,hZ⟩;obtain ⟨s0,s1,s2,s3,s4,s5⟩:=aR hY;have a0:=hA 5 _ rfl;(try simp only [aI]);go_simp;rfl));simp only [aM]));(iterate 4 (refine cY (v:=undef) (by kernel_rfl) (fun _ _ _ h=>h) (Or.inr ⟨by rfl,rfl⟩) hS ?_;simp only [aM]));(iterate 17 (refine cP (v:=?_) ?_ hS ?_;rotate_left;(next=>(rintro X ⟨hX,hY,hA,hZ⟩;obtain ⟨s0,s1,s2,s3,s4,s5⟩:=aR hY;have a0:=hA 5 _ rfl;(try simp only [aI]);go_simp;rfl));simp only [aM]));refine cZ ?_;clear hS;go_wp2_with fail
 have HY:=aF HS2.out.1;have HZZ:=aF HS2.out.2.1;have HB:=aF HS2.out.2.2.2;clear HS2;go_loopw [7] (fun v wr=>∃k:Nat,k<=0/\v = .int .i64 k/\Hid (aA (bdC b bh) wr w.heap.size)/\Hid (aA (tmL 5 0 A c B 0 d t C f { data:= #[] }) wr (w.heap.size+1))/\Hid (Below w.heap.size w wr)/\Hid (R=if (t.targets.drop k).all (fun k=>decide (0<=k/\k<(b.blocks.length:Int)))=true then Q else 3)) (fun v _=>0 - (intOf v).toNat)
 case atStart=>exact ⟨0,by omega,rfl,HY,HZZ,HB,HF⟩
 case round=>
  clear HY HZZ HB HF;obtain ⟨k,hk2,rfl,HY,HZ,HB,hr⟩:=hrel;obtain ⟨y0,y1,y2,y3,y4,y5,y6⟩:=aS HY.out;obtain ⟨z0,z1,z2,z3,z4,z5⟩:=aR HZ.out;by_cases hlt:k<0
  next=>exact absurd hlt (by omega)
  next=>
   have HR:Hid (R=Q):=aF (by rw [hr.out,bE (by rw [HTN.out];omega)];rfl);clear hr;have HOPS:Hid (R=if opsE b t.args []≠0 then opsE b t.args [] else 0):=aF (by rw [HR.out,<- HQ.out]);clear HR HQ;go_wp2_with fail
   clear hlt hk2;go_loopw [8] (fun v wr=>∃j:Nat,j<=0/\v = .int .i64 j/\Hid (aA (bdC b bh) wr w.heap.size)/\Hid (aA (tmL 5 0 A c B 0 d t C f { data:= #[] }) wr (w.heap.size+1))/\Hid (Below w.heap.size w wr)/\Hid (opsE b t.args []=opsE b (t.args.drop j) [])) (fun v _=>0 - (intOf v).toNat)
   case atStart=>exact ⟨0,by omega,rfl,aF HY.out,aF HZ.out,HB,aF rfl⟩
   case round=>
    clear HY HZ HB y0 y1 y2 y3 y4 y5 y6 z0 z1 z2 z3 z4 z5;obtain ⟨j,hj,rfl,HY,HZ,HB,hr⟩:=hrel;obtain ⟨y0,y1,y2,y3,y4,y5,y6⟩:=aS HY.out;obtain ⟨z0,z1,z2,z3,z4,z5⟩:=aR HZ.out;by_cases hlt:j<0
    next=>exact absurd hlt (by omega)
    next=>
     have hz0:opsE b t.args []=0:=(by rw [hr.out,bE (by rw [HN.out];omega),dG]);have HQ2:Hid (R=0):=aF (by rw [HOPS.out,aZ (by simp [hz0])]);clear hr hz0;go_wp2_with fail
     go_quiet (fail)
     all_goals go_wp2_with fail
     go_ret;exact ⟨by rw [HQ2.out];rfl,aG HB.out _⟩
theorem uT {b:Bdy} {bh:BH} {w:World} (t:Trm) (A B C:Option Addr) (c d f:Nat) (h0:t.kind<0\/5<t.kind):
 Calls Tryz.prog 56 #[.agg (bdC b bh).toArray,.agg (tmC t A c B d C f).toArray] w fun e' w'=>e' = .returned (.int .i64 (tmE b t))/\Below w.heap.size w w':=by
 have HF:Hid (tmE b t=14):=aF (by rw [tmE,bA h0]);generalize tmE b t=R at HF ⊢;unfold bdC tmC;go_enter Tryz.func56,Tryz.ntmps56
 go_wp2_with fail
 all_goals first
  | (exfalso;omega)
  | (go_ret;exact ⟨by rw [HF.out];rfl,aH⟩)
theorem xJ {b:Bdy} {bh:BH} {w:World} (H:Rk w b bh) (t:Trm) (A B C:Option Addr) (c d f:Nat) (ht:Slc 1 RInt w A c t.targets) (hl:Slc 4 ROp w B d t.args) (hp:Slc 2 RPj w C f t.place.proj) (hz:t.name.size<=9223372036854775807):
 Calls Tryz.prog 56 #[.agg (bdC b bh).toArray,.agg (tmC t A c B d C f).toArray] w fun e' w'=>e' = .returned (.int .i64 (tmE b t))/\Below w.heap.size w w':=by
 by_cases h0:t.kind<0\/5<t.kind
 ·exact uT t A B C c d f h0
 obtain ⟨q,hq⟩:∃q,fieldsT t=q:=⟨_,rfl⟩;rcases (show t.kind=0\/t.kind=1\/t.kind=2\/t.kind=3\/t.kind=4\/t.kind=5 by omega) with h | h | h | h | h | h
 all_goals cases q
 ·exact uZ H t A B C c d f ht hl hp h hq
 ·exact rE H t A B C c d f ht hl hp h hq
 ·exact uY H t A B C c d f ht hl hp h hq
 ·exact rD H t A B C c d f ht hl hp h hq
 ·exact uX H t A B C c d f ht hl hp h hq
 ·exact rC H t A B C c d f ht hl hp h hq
 ·exact uW H t A B C c d f ht hl hp h hq
 ·exact rB H t A B C c d f ht hl hp h hq hz
 ·exact uV H t A B C c d f ht hl hp h hq
 ·exact rA H t A B C c d f ht hl hp h hq
 ·exact uU H t A B C c d f ht hl hp h hq
 ·exact qZ H t A B C c d f ht hl hp h hq
end
section
open Go Go.RowKit
theorem gD {α : Type} {xs ys:List α} {i:Nat} (h:xs.take i=ys.take i) (h1:i<xs.length) (h2:i<ys.length) (e:xs[i]=ys[i]):xs.take (i+1)=ys.take (i+1):=by
 rw [bF h1,bF h2,h,e]
theorem fJ {α : Type} {xs ys:List α} {n:Nat} (h:xs.take n=ys.take n) (h1:xs.length<=n) (h2:ys.length<=n):xs=ys:=by
 rwa [List.take_of_length_le h1,List.take_of_length_le h2] at h
theorem neqPr (a b c d:Int) (w:World):Sem.run Tryz.prog (binOp .neq 77 (.agg #[.int .i64 a,.int .i64 b]) (.agg #[.int .i64 c,.int .i64 d])) w = .ok (.bool (!(decide (a=c) && decide (b=d)))) w:=by
 have u3:=Tryz.underlying3;have a3:=Tryz.isAgg3;have z3:=Tryz.sizeOf3;obtain ⟨i0,hi,hz0,hz1,hz2⟩:=info_parts dW;rw [run_neq_struct,show (10000:Nat)=9999+1 from rfl,run_equalIn_array w 9999 _ _ Tryz.underlying77 hi];have hc:Tryz.prog.cellsOf 3=1:=by kernel_rfl
 rw [hc];by_cases h1:a=c <;> by_cases h2:b=d <;> simp [Op.eqItems,List.range_succ,go_sem,part,h1,h2]
theorem xBJ (xs ys:List ByteArray) (A B:Option Addr) (c d:Nat) (w:World) (hs:Slc 1 RN w A c xs) (ht:Slc 1 RN w B d ys):
 Calls Tryz.prog 57 #[.slice A xs.length c,.slice B ys.length d] w fun e' w'=>e' = .returned (.bool (decide (xs=ys)))/\Below w.heap.size w w':=by
 have hle:=hs.le;have hbg:=hs.big;have hle2:=ht.le;have hbg2:=ht.big;have HS:=aF hs;have HT:=aF ht;clear hs ht;obtain ⟨R,hR⟩:∃R,decide (xs=ys)=R:=⟨_,rfl⟩;rw [hR];have HR:=aF hR;clear hR;by_cases hl:xs.length=ys.length
 case neg=>
  have HF:Hid (R=false):=aF (by rw [<- HR.out];simp only [decide_eq_false_iff_not];intro h;exact hl (by rw [h]));have e1:((xs.length:Int) == (ys.length:Int))=false:=by simp;omega
  clear HR;go_enter Tryz.func57,Tryz.ntmps57
  go_wp2_with fail
  go_ret;exact ⟨by rw [HF.out];rfl,aX _ _⟩
 have e1:((xs.length:Int) == (ys.length:Int))=true:=by simp;omega
 go_enter Tryz.func57,Tryz.ntmps57
 go_wp2_with fail
 go_loopw [5] (fun v wr=>∃i:Nat,i<=xs.length/\v = .int .i64 i/\Hid (xs.take i=ys.take i)/\Hid (Below w.heap.size w wr)) (fun v _=>xs.length - (intOf v).toNat)
 case atStart=>exact ⟨0,by omega,rfl,aF rfl,aF (aX _ _)⟩
 case round=>
  obtain ⟨i,hi,rfl,HE,HB⟩:=hrel;by_cases hlt:i<xs.length
  ·have hlt2:i<ys.length:=by omega
   obtain ⟨b,o,rfl,hb,y⟩:=(HS.out.keep RN.keeps HB.out).sl.at_ hlt;obtain ⟨b2,o2,rfl,hb2,z⟩:=(HT.out.keep RN.keeps HB.out).sl.at_ hlt2;by_cases hxy:xs[i]=ys[i]
   ·have HN:=aF (gD HE.out hlt hlt2 hxy);rw [<- hxy] at z;generalize xs[i]=x at *;have p0:wr.cell? ⟨b,o+i,none⟩=some (.string x):=(by simpa [RN] using y);have q0:wr.cell? ⟨b2,o2+i,none⟩=some (.string x):=(by simpa [RN] using z);clear y z hxy HE;go_wp2_with fail
    go_quiet (fail)
    go_wp2_with fail
    go_roundw
    case rel=>exact ⟨i+1,by omega,by go_num,HN,aF (aG HB.out _)⟩
    case measure=>simp [intOf];omega
   ·have HF:Hid (R=false):=aF (by rw [<- HR.out];simp only [decide_eq_false_iff_not];intro h;subst h;exact hxy rfl);generalize xs[i]=x at *;generalize ys[i]=x2 at *;have e2:(x.toList == x2.toList)=false:=beq_false_of_ne (fun h=>hxy (nO (by rw [<- Lib.toList_data,<- Lib.toList_data];exact h)));have p0:wr.cell? ⟨b,o+i,none⟩=some (.string x):=(by simpa [RN] using y);have q0:wr.cell? ⟨b2,o2+i,none⟩=some (.string x2):=(by simpa [RN] using z);clear y z HE HR;go_wp2_with fail
    go_quiet (fail)
    go_wp2_with fail
    go_ret;exact ⟨by rw [HF.out];rfl,by first | exact HB.out | exact aG HB.out _⟩
  ·have HF:Hid (R=true):=aF (by rw [<- HR.out];simp only [decide_eq_true_eq];exact fJ HE.out (by omega) (by omega));go_wp2_with fail
   go_ret;exact ⟨by rw [HF.out];rfl,HB.out⟩
theorem xG (xs ys:List Int) (A B:Option Addr) (c d:Nat) (w:World) (hs:Slc 1 RInt w A c xs) (ht:Slc 1 RInt w B d ys):
 Calls Tryz.prog 104 #[.slice A xs.length c,.slice B ys.length d] w fun e' w'=>e' = .returned (.bool (decide (xs=ys)))/\Below w.heap.size w w':=by
 have hle:=hs.le;have hbg:=hs.big;have hle2:=ht.le;have hbg2:=ht.big;have HS:=aF hs;have HT:=aF ht;clear hs ht;obtain ⟨R,hR⟩:∃R,decide (xs=ys)=R:=⟨_,rfl⟩;rw [hR];have HR:=aF hR;clear hR;by_cases hl:xs.length=ys.length
 case neg=>
  have HF:Hid (R=false):=aF (by rw [<- HR.out];simp only [decide_eq_false_iff_not];intro h;exact hl (by rw [h]));have e1:((xs.length:Int) == (ys.length:Int))=false:=by simp;omega
  clear HR;go_enter Tryz.func104,Tryz.ntmps104
  go_wp2_with fail
  go_ret;exact ⟨by rw [HF.out];rfl,aX _ _⟩
 have e1:((xs.length:Int) == (ys.length:Int))=true:=by simp;omega
 go_enter Tryz.func104,Tryz.ntmps104
 go_wp2_with fail
 go_loopw [5] (fun v wr=>∃i:Nat,i<=xs.length/\v = .int .i64 i/\Hid (xs.take i=ys.take i)/\Hid (Below w.heap.size w wr)) (fun v _=>xs.length - (intOf v).toNat)
 case atStart=>exact ⟨0,by omega,rfl,aF rfl,aF (aX _ _)⟩
 case round=>
  obtain ⟨i,hi,rfl,HE,HB⟩:=hrel;by_cases hlt:i<xs.length
  ·have hlt2:i<ys.length:=by omega
   obtain ⟨b,o,rfl,hb,y⟩:=(HS.out.keep RInt.keeps HB.out).sl.at_ hlt;obtain ⟨b2,o2,rfl,hb2,z⟩:=(HT.out.keep RInt.keeps HB.out).sl.at_ hlt2;by_cases hxy:xs[i]=ys[i]
   ·have HN:=aF (gD HE.out hlt hlt2 hxy);rw [<- hxy] at z;generalize xs[i]=x at *;have p0:wr.cell? ⟨b,o+i,none⟩=some (.int .i64 x):=(by simpa [RInt] using y);have q0:wr.cell? ⟨b2,o2+i,none⟩=some (.int .i64 x):=(by simpa [RInt] using z);clear y z hxy HE;go_wp2_with fail
    go_quiet (fail)
    go_wp2_with fail
    go_roundw
    case rel=>exact ⟨i+1,by omega,by go_num,HN,aF (aG HB.out _)⟩
    case measure=>simp [intOf];omega
   ·have HF:Hid (R=false):=aF (by rw [<- HR.out];simp only [decide_eq_false_iff_not];intro h;subst h;exact hxy rfl);generalize xs[i]=x at *;generalize ys[i]=x2 at *;have e2:(x != x2)=true:=by simp [hxy]
    have p0:wr.cell? ⟨b,o+i,none⟩=some (.int .i64 x):=(by simpa [RInt] using y);have q0:wr.cell? ⟨b2,o2+i,none⟩=some (.int .i64 x2):=(by simpa [RInt] using z);clear y z HE HR;go_wp2_with fail
    go_quiet (fail)
    go_wp2_with fail
    go_ret;exact ⟨by rw [HF.out];rfl,by first | exact HB.out | exact aG HB.out _⟩
  ·have HF:Hid (R=true):=aF (by rw [<- HR.out];simp only [decide_eq_true_eq];exact fJ HE.out (by omega) (by omega));go_wp2_with fail
   go_ret;exact ⟨by rw [HF.out];rfl,HB.out⟩
theorem uR (xs ys:List (Int × Int)) (A B:Option Addr) (c d:Nat) (w:World) (hs:Slc 2 RPr w A c xs) (ht:Slc 2 RPr w B d ys):
 Calls Tryz.prog 58 #[.slice A xs.length c,.slice B ys.length d] w fun e' w'=>e' = .returned (.bool (decide (xs=ys)))/\Below w.heap.size w w':=by
 have hle:=hs.le;have hbg:=hs.big;have hle2:=ht.le;have hbg2:=ht.big;have HS:=aF hs;have HT:=aF ht;clear hs ht;obtain ⟨R,hR⟩:∃R,decide (xs=ys)=R:=⟨_,rfl⟩;rw [hR];have HR:=aF hR;clear hR;by_cases hl:xs.length=ys.length
 case neg=>
  have HF:Hid (R=false):=aF (by rw [<- HR.out];simp only [decide_eq_false_iff_not];intro h;exact hl (by rw [h]));have e1:((xs.length:Int) == (ys.length:Int))=false:=by simp;omega
  clear HR;go_enter Tryz.func58,Tryz.ntmps58
  go_wp2_with fail
  go_ret;exact ⟨by rw [HF.out];rfl,aX _ _⟩
 have e1:((xs.length:Int) == (ys.length:Int))=true:=by simp;omega
 go_enter Tryz.func58,Tryz.ntmps58
 go_wp2_with fail
 go_loopw [5] (fun v wr=>∃i:Nat,i<=xs.length/\v = .int .i64 i/\Hid (xs.take i=ys.take i)/\Hid (Below w.heap.size w wr)) (fun v _=>xs.length - (intOf v).toNat)
 case atStart=>exact ⟨0,by omega,rfl,aF rfl,aF (aX _ _)⟩
 case round=>
  obtain ⟨i,hi,rfl,HE,HB⟩:=hrel;by_cases hlt:i<xs.length
  ·have hlt2:i<ys.length:=by omega
   obtain ⟨b,o,rfl,hb,y⟩:=(HS.out.keep RPr.keeps HB.out).sl.at_ hlt;obtain ⟨b2,o2,rfl,hb2,z⟩:=(HT.out.keep RPr.keeps HB.out).sl.at_ hlt2;by_cases hxy:xs[i]=ys[i]
   ·have HN:=aF (gD HE.out hlt hlt2 hxy);rw [<- hxy] at z;generalize xs[i]=x at *;have p0:wr.cell? ⟨b,o+i * 2,none⟩=some (.int .i64 x.1):=y.1;have p1:wr.cell? ⟨b,o+i * 2+1,none⟩=some (.int .i64 x.2):=y.2;have q0:wr.cell? ⟨b2,o2+i * 2,none⟩=some (.int .i64 x.1):=z.1;have q1:wr.cell? ⟨b2,o2+i * 2+1,none⟩=some (.int .i64 x.2):=z.2;have hne:∀W:World,Sem.run Tryz.prog (binOp .neq 77 (.agg #[.int .i64 x.1,.int .i64 x.2]) (.agg #[.int .i64 x.1,.int .i64 x.2])) W = .ok (.bool false) W:=fun W=>by rw [neqPr];simp
    clear y z hxy HE;go_wp2_with fail
    go_quiet (fail)
    go_wp2_with fail
    go_roundw
    case rel=>exact ⟨i+1,by omega,by go_num,HN,aF (aG HB.out _)⟩
    case measure=>simp [intOf];omega
   ·have HF:Hid (R=false):=aF (by rw [<- HR.out];simp only [decide_eq_false_iff_not];intro h;subst h;exact hxy rfl);generalize xs[i]=x at *;generalize ys[i]=x2 at *;have p0:wr.cell? ⟨b,o+i * 2,none⟩=some (.int .i64 x.1):=y.1;have p1:wr.cell? ⟨b,o+i * 2+1,none⟩=some (.int .i64 x.2):=y.2;have q0:wr.cell? ⟨b2,o2+i * 2,none⟩=some (.int .i64 x2.1):=z.1;have q1:wr.cell? ⟨b2,o2+i * 2+1,none⟩=some (.int .i64 x2.2):=z.2
    have hne:∀W:World,Sem.run Tryz.prog (binOp .neq 77 (.agg #[.int .i64 x.1,.int .i64 x.2]) (.agg #[.int .i64 x2.1,.int .i64 x2.2])) W = .ok (.bool true) W:=fun W=>by
     rw [neqPr,show (decide (x.1=x2.1) && decide (x.2=x2.2))=false by simp only [Bool.and_eq_false_iff,decide_eq_false_iff_not];exact Classical.byContradiction (fun h=>by simp only [not_or,Classical.not_not] at h;exact hxy (Prod.ext h.1 h.2))];rfl
    clear y z HE HR;go_wp2_with fail
    go_quiet (fail)
    go_wp2_with fail
    go_ret;exact ⟨by rw [HF.out];rfl,by first | exact HB.out | exact aG HB.out _⟩
  ·have HF:Hid (R=true):=aF (by rw [<- HR.out];simp only [decide_eq_true_eq];exact fJ HE.out (by omega) (by omega));go_wp2_with fail
   go_ret;exact ⟨by rw [HF.out];rfl,HB.out⟩
end
end Go.Proofs.YtmknfbfppmkcfaaGreatDoor
