/-
  Parts of the proof: V67G1 V67B2 V67G2 V67B3 V67G3 V67B4 V67G4.
-/
import Derived.Test.YtcfchohkmkilpaaGreatDoorLP0
import Derived.Test.YtcfchohkmkilpaaGreatDoorLP22
import Derived.Test.YtcfchohkmkilpaaGreatDoorLP13
import Derived.Test.YtcfchohkmkilpaaGreatDoorLP10
import Derived.Test.YtcfchohkmkilpaaGreatDoorLP9
import Derived.Test.YtcfchohkmkilpaaGreatDoorLP11
namespace Go.Proofs.YtcfchohkmkilpaaGreatDoor
set_option maxRecDepth 100000
set_option maxHeartbeats 16000000
section
open Go Go.RowKit Go.Maps
theorem oU {b:Bdy} {bh:BH} {w:World} (H:Rk w b bh) (t:Trm) (A B C:Option Addr) (c d f:Nat) (ht:Slc 1 RInt w A c t.targets) (hl:Slc 4 ROp w B d t.args) (_hp:Slc 2 RPj w C f t.place.proj) (hk:t.kind=1) (hfd:fieldsT t=true):
 Calls Tryz.prog 62 #[.agg (bdC b bh).toArray,.agg (tmC t A c B d C f).toArray] w fun e' w'=>e' = .returned (.int .i64 (tmE b t))/\Below w.heap.size w w':=by
 have HZ:=aF (fun W=>dQ t.place C f W);have HOP:=aF (fun W (hb:Below w.heap.size w W) (o:Opd) (A:Option Addr) (c:Nat) (hp:Slc 2 RPj w A c o.place.proj)=>dK (H.keep hb) o A c (hp.keep RPj.keeps hb));have HKK:=aF (fun W (hb:Below w.heap.size w W) (o:Opd) (A:Option Addr) (c:Nat) (hp:Slc 2 RPj w A c o.place.proj) (ho:opE b o=0)=>gO (H.keep hb).at_ H.ok o 1 A c (hp.keep RPj.keeps hb) ho);have hfd2:=hfd;unfold fieldsT at hfd2;rw [hk] at hfd2;simp only [reduceIte,Int.reduceEq,bP,decide_eq_true_eq] at hfd2;obtain ⟨⟨⟨hn,hm⟩,hzz⟩,hnm0⟩:=hfd2;obtain ⟨Q,hQ⟩:∃Q,(if opsE b t.args []≠0 then opsE b t.args [] else fail22 (!t.args.all (fun o=>decide (kindO b o=1))))=Q:=⟨_,rfl⟩;have HQ:=aF hQ
 have HF:Hid (tmE b t=if (t.targets.drop 0).all (fun k=>decide (0<=k/\k<(b.blocks.length:Int)))=true then Q else 3):=aF (by
  rw [bW,tmE,aZ (by omega),aZ (by rw [hfd];simp),<- hQ];cases t.targets.all (fun k=>decide (0<=k/\k<(b.blocks.length:Int)))
  ·simp
  ·obtain ⟨o,ho⟩:=List.length_eq_one_iff.1 hm;rw [ho];by_cases h1:opE b o=0
   ·rw [fE h1,dJ];by_cases h2:kindO b o=1
    ·simp [hk,h1,h2]
    ·simp [hk,h1,h2]
   ·rw [eY h1]
    simp [hk,h1])
 generalize tmE b t=R at HF ⊢;have hblkl:=H.at_.blk.le;have hblkb:=H.at_.blk.big;have hle2:=ht.le;have hbig2:=ht.big;have hle:=hl.le;have hbig:=hl.big;have HTG:=aF ht;have HL:=aF hl
 have hnm:t.name={ data:= #[] }:=by
  have h:=hnm0;cases hh:t.name with
  | mk dd=>
    rw [hh] at h;exact congrArg ByteArray.mk (Array.eq_empty_of_size_eq_zero (show dd.size=0 from h))
 rw [hzz] at HZ;obtain ⟨m,hmm⟩:∃m,t.args.length=m:=⟨_,rfl⟩;have HN:=aF hmm;clear hQ H ht hl _hp hfd hnm0;unfold bdC at *;unfold tmC;rw [hk,hn,hmm,hnm];rw [hmm] at hle;obtain rfl:m=1:=by omega
 have HTN:=aF hn;clear hn hk hmm hnm hm;clear hzz;go_enter Tryz.func62,Tryz.ntmps62
 go_wp2_with fail
 have hS:=gD w (bdC b bh) (tmL 1 2 A c B 1 d t C f { data:= #[] }) arT 28 53 148;refine cT (S:=fun X=>aD w (bdC b bh) (tmL 1 2 A c B 1 d t C f { data:= #[] }) arT X) [0,1,2,3,4,5,6,7,8,9,10,11,12,13,14,15,16,17,18,19,20,21,22,23,24,25,26,27,28,29,30,31,32,33,34,35,36,37,38,39,40,41,42,43,44,45,46,47,48,49,50,51,52,53,54,55,56,57] (by kernel_rfl) ?_;(iterate 28 (refine cR (v:=?_) ?_ hS ?_;rotate_left;(next=>(rintro X ⟨hX,hY,hA,hZ⟩;obtain ⟨s0,s1,s2,s3,s4,s5⟩:=aR hY;have a0:=hA 1 _ rfl;(try simp only [aI]);go_simp;rfl));simp only [aM]));(refine cY (fun K1 hK1=>?_);simp only [aM];rw [bA (by rfl)];go_simp);refine (HZ.out _).mono ?_;rintro e' w1 ⟨rfl,hb⟩;replace hS:=bJ (cP hS.1 hb) (bJ (cP hS.2.1 hb) (bJ (cP hS.2.2.1 hb) (hS.2.2.2.trans (hb.mono hS.2.2.2.size))));have HS2:=aF hS;clear hb;refine hK1.out _ _ (fun _=>hS) ?_;clear hK1;(iterate 8 (refine cR (v:=?_) ?_ hS ?_;rotate_left;(next=>(rintro X ⟨hX,hY,hA,hZ⟩;obtain ⟨s0,s1,s2,s3,s4,s5⟩:=aR hY;have a0:=hA 1 _ rfl;(try simp only [aI]);go_simp;rfl));simp only [aM]));(iterate 4 (refine cR (v:=?_) ?_ hS ?_;rotate_left;(next=>(rintro X ⟨hX,hY,hA,hZ⟩;obtain ⟨s0,s1,s2,s3,s4,s5⟩:=aR hY;have a0:=hA 1 _ rfl;(try simp only [aI]);go_simp;rfl));simp only [aM]));(iterate 3 (refine cR (v:=?_) ?_ hS ?_;rotate_left;(next=>(rintro X ⟨hX,hY,hA,hZ⟩;obtain ⟨s0,s1,s2,s3,s4,s5⟩:=aR hY;have a0:=hA 1 _ rfl;(try simp only [aI]);go_simp;rfl));simp only [aM]));(iterate 4 (refine cR (v:=?_) ?_ hS ?_;rotate_left;(next=>(rintro X ⟨hX,hY,hA,hZ⟩;obtain ⟨s0,s1,s2,s3,s4,s5⟩:=aR hY;have a0:=hA 1 _ rfl;(try simp only [aI]);go_simp;rfl));simp only [aM]));(iterate 2 (refine dA (v:=undef) (by kernel_rfl) (fun _ _ _ h=>h) (Or.inr ⟨by rfl,rfl⟩) hS ?_;simp only [aM]));(iterate 2 (refine cR (v:=?_) ?_ hS ?_;rotate_left;(next=>(rintro X ⟨hX,hY,hA,hZ⟩;obtain ⟨s0,s1,s2,s3,s4,s5⟩:=aR hY;have a0:=hA 1 _ rfl;(try simp only [aI]);go_simp;rfl));simp only [aM]));(iterate 4 (refine dA (v:=undef) (by kernel_rfl) (fun _ _ _ h=>h) (Or.inr ⟨by rfl,rfl⟩) hS ?_;simp only [aM]));(iterate 2 (refine cR (v:=?_) ?_ hS ?_;rotate_left;(next=>(rintro X ⟨hX,hY,hA,hZ⟩;obtain ⟨s0,s1,s2,s3,s4,s5⟩:=aR hY;have a0:=hA 1 _ rfl;(try simp only [aI]);go_simp;rfl));simp only [aM]));refine cZ ?_;clear hS;go_wp2_with fail
 have HY:=aF HS2.out.1;have HZZ:=aF HS2.out.2.1;have HB:=aF HS2.out.2.2.2;clear HS2;go_loopw [7] (fun v wr=>∃k:Nat,k<=2/\v = .int .i64 k/\Hid (aA (bdC b bh) wr w.heap.size)/\Hid (aA (tmL 1 2 A c B 1 d t C f { data:= #[] }) wr (w.heap.size+1))/\Hid (Below w.heap.size w wr)/\Hid (R=if (t.targets.drop k).all (fun k=>decide (0<=k/\k<(b.blocks.length:Int)))=true then Q else 3)) (fun v _=>2 - (intOf v).toNat)
 case atStart=>exact ⟨0,by omega,rfl,HY,HZZ,HB,HF⟩
 case round=>
  clear HY HZZ HB HF;obtain ⟨k,hk2,rfl,HY,HZ,HB,hr⟩:=hrel;obtain ⟨y0,y1,y2,y3,y4,y5,y6⟩:=aS HY.out;obtain ⟨z0,z1,z2,z3,z4,z5⟩:=aR HZ.out;by_cases hlt:k<2
  next=>
   have hlt2:k<t.targets.length:=by rw [HTN.out];exact hlt
   have hd:=cV hlt2;obtain ⟨b5,o5,rfl,hb5,hx⟩:=HTG.out.sl.at_ hlt2;obtain ⟨x,hxx⟩:∃x,t.targets[k]=x:=⟨_,rfl⟩;rw [hxx] at hd hx;have x0:wr.cell? ⟨b5,o5+k,none⟩=some (.int .i64 x):=cO HB.out (by simpa [RInt] using hx);by_cases hin:0<=x/\x<(b.blocks.length:Int)
   ·have HF2:Hid (R=if (t.targets.drop (k+1)).all (fun k=>decide (0<=k/\k<(b.blocks.length:Int)))=true then Q else 3):=aF (by rw [hr.out,hd,cB];simp [hin]);have e1:decide (x<0)=false:=by simp;omega
    have e2:decide ((b.blocks.length:Int)<=x)=false:=by simp;omega
    clear hd hx hxx hr hin;go_wp2_with fail
    go_quiet (fail)
    all_goals go_wp2_with fail
    go_roundw
    case rel=>exact ⟨k+1,by omega,by go_num,aF HY.out,aF HZ.out,aF (aG HB.out _),HF2⟩
    case measure=>simp [intOf];omega
   ·have HF2:Hid (R=3):=aF (by rw [hr.out,hd,cB];simp;intro h1 h2;exact absurd ⟨h1,h2⟩ hin);clear hd hx hxx hr;by_cases hx0:x<0
    ·have e1:decide (x<0)=true:=by simp;omega
     clear hin hx0;go_wp2_with fail
     go_quiet (fail)
     all_goals go_wp2_with fail
     go_ret;exact ⟨by rw [HF2.out];rfl,aG HB.out _⟩
    ·have e1:decide (x<0)=false:=by simp;omega
     have e2:decide ((b.blocks.length:Int)<=x)=true:=by simp;omega
     clear hin hx0;go_wp2_with fail
     go_quiet (fail)
     all_goals go_wp2_with fail
     go_ret;exact ⟨by rw [HF2.out];rfl,aG HB.out _⟩
  next=>
   have HR:Hid (R=Q):=aF (by rw [hr.out,bE (by rw [HTN.out];omega)];rfl);clear hr;have HOPS:Hid (R=if opsE b t.args []≠0 then opsE b t.args [] else fail22 (!t.args.all (fun o=>decide (kindO b o=1)))):=aF (by rw [HR.out,<- HQ.out]);clear HR HQ;go_wp2_with fail
   clear hlt hk2;go_loopw [8] (fun v wr=>∃j:Nat,j<=1/\v = .int .i64 j/\Hid (aA (bdC b bh) wr w.heap.size)/\Hid (aA (tmL 1 2 A c B 1 d t C f { data:= #[] }) wr (w.heap.size+1))/\Hid (Below w.heap.size w wr)/\Hid (opsE b t.args []=opsE b (t.args.drop j) [])) (fun v _=>1 - (intOf v).toNat)
   case atStart=>exact ⟨0,by omega,rfl,aF HY.out,aF HZ.out,HB,aF rfl⟩
   case round=>
    clear HY HZ HB y0 y1 y2 y3 y4 y5 y6 z0 z1 z2 z3 z4 z5;obtain ⟨j,hj,rfl,HY,HZ,HB,hr⟩:=hrel;obtain ⟨y0,y1,y2,y3,y4,y5,y6⟩:=aS HY.out;obtain ⟨z0,z1,z2,z3,z4,z5⟩:=aR HZ.out;by_cases hlt:j<1
    next=>
     have hl1:j<t.args.length:=by rw [HN.out];exact hlt
     obtain ⟨b5,o5,rfl,hb5,hxo⟩:=HL.out.sl.at_ hl1;have hd:=cV hl1;obtain ⟨o,hoo⟩:∃o,t.args[j]=o:=⟨_,rfl⟩;rw [hoo] at hxo hd;obtain ⟨p0,⟨p1,A2,c2,p2,hc1,hc2,hsl⟩,p3⟩:=hxo;have HPJ:Hid (Slc 2 RPj w A2 c2 o.place.proj):=aF ⟨hsl,hc1,hc2⟩;have P0:=aF p0;have P1:=aF p1;have P2:=aF (show w.cell? ⟨b5,o5+j * 4+2,none⟩=_ from p2);have P3:=aF p3;have HOO:=aF (fun W hb=>HOP.out W hb o A2 c2 HPJ.out);unfold opC at HOO
     have HV2:Hid ((opE b o≠0->R=opE b o)/\(opE b o=0->opsE b t.args []=opsE b (t.args.drop (j+1)) [])):=aF ⟨fun he=>by
      have h9:opsE b t.args []=opE b o:=by rw [hr.out,hd,eY he]
      rw [HOPS.out,h9,bA he],fun he=>by rw [hr.out,hd,fE he]⟩
     generalize opE b o=eo at HOO HV2;clear hr hd hoo p0 p1 p2 p3 hsl hc1 hc2 hl1;go_wp2_with fail
     have hS:aB w (bdC b bh) (tmL 1 2 A c (some ⟨b5,o5,none⟩) 1 d t C f { data:= #[] }) wr.drew:=⟨HY.out,HZ.out,HB.out.drew⟩;clear y0 y1 y2 y3 y4 y5 y6 z0 z1 z2 z3 z4 z5;refine cT (S:=fun X=>aB w (bdC b bh) (tmL 1 2 A c (some ⟨b5,o5,none⟩) 1 d t C f { data:= #[] }) X) [0,1,2,3,4,5,6,7] (by kernel_rfl) ?_;(iterate 6 (refine cR (v:=?_) ?_ hS ?_;rotate_left;(next=>(rintro X ⟨hX,hY,hZ⟩;obtain ⟨s0,s1,s2,s3,s4,s5,s6⟩:=aS hX;have u2:=hY 2 _ rfl;have p0:=cO hZ P0.out;have p1:=cO hZ P1.out;have p2:=cO hZ P2.out;have p3:=cO hZ P3.out;(try simp only [aI]);go_simp;rfl));simp only [aM]));(refine cY (fun K1 hK1=>?_);simp only [aM];rw [bA (by rfl)];go_simp);refine (HOO.out _ hS.2.2).mono ?_;rintro e' w2 ⟨rfl,hb⟩;replace hS:=bJ (cP hS.1 hb) (bJ (cP hS.2.1 hb) (hS.2.2.trans (hb.mono hS.2.2.size)));have HS2:=aF hS;clear hb;refine hK1.out _ _ (fun _=>hS) ?_;clear hK1;((refine cR (v:=?_) ?_ hS ?_;rotate_left;(next=>(rintro X -;(try simp only [aI]);go_simp;rfl));simp only [aM]))
     refine cZ ?_;clear hS;by_cases he:eo=0
     ·subst he;have HV3:=aF (HV2.out.2 rfl);clear HV2;go_wp2_with fail
      go_roundw
      case rel=>exact ⟨j+1,by omega,by go_num,aF HS2.out.1,aF HS2.out.2.1,aF HS2.out.2.2,HV3⟩
      case measure=>simp [intOf];omega
     ·have HF2:=aF (HV2.out.1 he);have e1:(eo != 0)=true:=by simp [he]
      clear he HV2;go_wp2_with fail
      go_ret;exact ⟨by rw [HF2.out];rfl,HS2.out.2.2⟩
    next=>
     have hz0:opsE b t.args []=0:=(by rw [hr.out,bE (by rw [HN.out];omega),dJ]);have HQ2:Hid (R=fail22 (!t.args.all (fun o=>decide (kindO b o=1)))):=aF (by rw [HOPS.out,aZ (by simp [hz0])]);have hl1:0<t.args.length:=by rw [HN.out];omega
     obtain ⟨o,ho⟩:=List.length_eq_one_iff.1 HN.out;obtain ⟨b5,o5,rfl,hb5,hxo⟩:=HL.out.sl.at_ hl1;simp only [ho,List.getElem_cons_zero,Nat.zero_mul,Nat.add_zero] at hxo;obtain ⟨p0,⟨p1,A2,c2,p2,hc1,hc2,hsl⟩,p3⟩:=hxo;have HPJ:Hid (Slc 2 RPj w A2 c2 o.place.proj):=aF ⟨hsl,hc1,hc2⟩;have P0:=aF p0;have P1:=aF p1;have P2:=aF (show w.cell? ⟨b5,o5+2,none⟩=_ from p2);have P3:=aF p3;have HOO:=aF (fun W hb=>HKK.out W hb o A2 c2 HPJ.out (iM hz0 o (by rw [ho];simp)));unfold opC at HOO;have HV2:Hid (R=fail22 (!decide (kindO b o=1))):=aF (by rw [HQ2.out,ho];simp);generalize decide (kindO b o=1)=kq at HOO HV2;clear hr hz0 HQ2 ho p0 p1 p2 p3 hsl hc1 hc2 hl1;go_wp2_with fail
     have hS:aB w (bdC b bh) (tmL 1 2 A c (some ⟨b5,o5,none⟩) 1 d t C f { data:= #[] }) wr.drew:=⟨HY.out,HZ.out,HB.out.drew⟩;clear y0 y1 y2 y3 y4 y5 y6 z0 z1 z2 z3 z4 z5;refine cT (S:=fun X=>aB w (bdC b bh) (tmL 1 2 A c (some ⟨b5,o5,none⟩) 1 d t C f { data:= #[] }) X) [0,1,2,3,4,5,6,7,8,9,10,11] (by kernel_rfl) ?_;(iterate 9 (refine cR (v:=?_) ?_ hS ?_;rotate_left;(next=>(rintro X ⟨hX,hY,hZ⟩;obtain ⟨s0,s1,s2,s3,s4,s5,s6⟩:=aS hX;obtain ⟨u0,-,u2⟩:=aO hY;have p0:=cO hZ P0.out;have p1:=cO hZ P1.out;have p2:=cO hZ P2.out;have p3:=cO hZ P3.out;(try simp only [aI]);go_simp;rfl));simp only [aM]));(refine cY (fun K1 hK1=>?_);simp only [aM];rw [bA (by rfl)];go_simp);refine (HOO.out _ hS.2.2).mono ?_;rintro e' w2 ⟨rfl,hb⟩;replace hS:=bJ (cP hS.1 hb) (bJ (cP hS.2.1 hb) (hS.2.2.trans (hb.mono hS.2.2.size)));have HS2:=aF hS;clear hb;refine hK1.out _ _ (fun _=>hS) ?_;clear hK1;(iterate 2 (refine cR (v:=?_) ?_ hS ?_;rotate_left;(next=>(rintro X -;(try simp only [aI]);go_simp;rfl));simp only [aM]));refine cZ ?_;clear hS;cases kq
     all_goals
      have k0:=HS2.out.2.1 0 _ rfl;go_wp2_with fail
      go_ret;exact ⟨by rw [HV2.out];rfl,HS2.out.2.2⟩
theorem tD {b:Bdy} {bh:BH} {w:World} (_H:Rk w b bh) (t:Trm) (A B C:Option Addr) (c d f:Nat) (ht:Slc 1 RInt w A c t.targets) (hl:Slc 4 ROp w B d t.args) (_hp:Slc 2 RPj w C f t.place.proj) (hk:t.kind=2) (hfd:fieldsT t=false):
 Calls Tryz.prog 62 #[.agg (bdC b bh).toArray,.agg (tmC t A c B d C f).toArray] w fun e' w'=>e' = .returned (.int .i64 (tmE b t))/\Below w.heap.size w w':=by
 have HZ:=aF (fun W=>dQ t.place C f W);have HF:Hid (tmE b t=2):=aF (by rw [tmE,aZ (by omega),bA hfd]);generalize tmE b t=R at HF ⊢;have hfd2:=hfd;unfold fieldsT at hfd2;rw [hk] at hfd2;simp only [reduceIte,Int.reduceEq] at hfd2;obtain ⟨n,hn⟩:∃n,t.targets.length=n:=⟨_,rfl⟩;obtain ⟨m,hm⟩:∃m,t.args.length=m:=⟨_,rfl⟩;obtain ⟨z,hzz⟩:∃z,zeroP t.place=z:=⟨_,rfl⟩;have hmb:m<=9223372036854775807:=by have h1:=hl.le;have h2:=hl.big;omega
 have hnb:n<=9223372036854775807:=by have h1:=ht.le;have h2:=ht.big;omega
 obtain ⟨u,hu⟩:∃u,decide (t.name.size=0)=u:=⟨_,rfl⟩;have hne:=eG t.name;rw [hu] at hne;try rw [hu] at hfd2
 rw [hn] at hfd2;try rw [hm] at hfd2
 try rw [hzz] at hfd2
 rw [hzz] at HZ;clear _H ht hl _hp hfd hzz;unfold bdC tmC;rw [hk,hn,hm];clear hk hn hm;by_cases hn:n=0
 case neg=>
  have e1:((n:Int) != 0)=true:=by simp;omega
  clear hfd2 hne HZ hu;go_enter Tryz.func62,Tryz.ntmps62
  go_wp2_with fail
  go_quiet (fail)
  all_goals go_wp2_with fail
  all_goals first
   | (exfalso;omega)
   | (go_ret;exact ⟨by rw [HF.out];rfl,by first | exact aG aH _ | exact aH⟩)
 subst hn;cases u
 case false=>
  clear hfd2 HZ hu;go_enter Tryz.func62,Tryz.ntmps62
  go_wp2_with fail
  go_quiet (fail)
  all_goals go_wp2_with fail
  all_goals first
   | (exfalso;omega)
   | (go_ret;exact ⟨by rw [HF.out];rfl,by first | exact aG aH _ | exact aH⟩)
 have hnm:t.name={ data:= #[] }:=by
  have h:=of_decide_eq_true hu;cases hh:t.name with
  | mk dd=>
    rw [hh] at h;exact congrArg ByteArray.mk (Array.eq_empty_of_size_eq_zero (show dd.size=0 from h))
 rw [hnm];clear hu hne hnm;cases z
 case false=>
  clear hfd2;go_enter Tryz.func62,Tryz.ntmps62
  go_wp2_with fail
  have hS:=gD w (bdC b bh) (tmL 2 0 A c B m d t C f { data:= #[] }) arT 28 53 148;refine cT (S:=fun X=>aD w (bdC b bh) (tmL 2 0 A c B m d t C f { data:= #[] }) arT X) [0,1,2,3,4,5,6,7,8,9,10,11,12,13,14,15,16,17,18,19,20,21,22,23,24,25,26,27,28,29,30,31,32,33,34,35,36,37,38,39,40,41,42,43,44,45,46,47,48,49,50,51,52,53,54,55,56,57] (by kernel_rfl) ?_;(iterate 28 (refine cR (v:=?_) ?_ hS ?_;rotate_left;(next=>(rintro X ⟨hX,hY,hA,hZ⟩;obtain ⟨s0,s1,s2,s3,s4,s5⟩:=aR hY;have a0:=hA 2 _ rfl;(try simp only [aI]);go_simp;rfl));simp only [aM]));(refine cY (fun K1 hK1=>?_);simp only [aM];rw [bA (by rfl)];go_simp);refine (HZ.out _).mono ?_;rintro e' w1 ⟨rfl,hb⟩;replace hS:=bJ (cP hS.1 hb) (bJ (cP hS.2.1 hb) (bJ (cP hS.2.2.1 hb) (hS.2.2.2.trans (hb.mono hS.2.2.2.size))));have HS2:=aF hS;clear hb;refine hK1.out _ _ (fun _=>hS) ?_;clear hK1;(iterate 4 (refine cR (v:=?_) ?_ hS ?_;rotate_left;(next=>(rintro X ⟨hX,hY,hA,hZ⟩;obtain ⟨s0,s1,s2,s3,s4,s5⟩:=aR hY;have a0:=hA 2 _ rfl;(try simp only [aI]);go_simp;rfl));simp only [aM]));(iterate 9 (refine dA (v:=undef) (by kernel_rfl) (fun _ _ _ h=>h) (Or.inr ⟨by rfl,rfl⟩) hS ?_;simp only [aM]));(iterate 2 (refine cR (v:=?_) ?_ hS ?_;rotate_left;(next=>(rintro X ⟨hX,hY,hA,hZ⟩;obtain ⟨s0,s1,s2,s3,s4,s5⟩:=aR hY;have a0:=hA 2 _ rfl;(try simp only [aI]);go_simp;rfl));simp only [aM]));(iterate 13 (refine dA (v:=undef) (by kernel_rfl) (fun _ _ _ h=>h) (Or.inr ⟨by rfl,rfl⟩) hS ?_;simp only [aM]));((refine cR (v:=?_) ?_ hS ?_;rotate_left;(next=>(rintro X ⟨hX,hY,hA,hZ⟩;obtain ⟨s0,s1,s2,s3,s4,s5⟩:=aR hY;have a0:=hA 2 _ rfl;(try simp only [aI]);go_simp;rfl));simp only [aM]))
  refine cZ ?_;clear hS;go_wp2_with fail
  all_goals first
   | (exfalso;omega)
   | (go_ret;exact ⟨by rw [HF.out];rfl,HS2.out.2.2.2⟩)
 have hm0:0<m:=by simp at hfd2;omega
 have e3:decide (0<(m:Int))=true:=by simp;omega
 clear hfd2;go_enter Tryz.func62,Tryz.ntmps62
 go_wp2_with fail
 have hS:=gD w (bdC b bh) (tmL 2 0 A c B m d t C f { data:= #[] }) arT 28 53 148;refine cT (S:=fun X=>aD w (bdC b bh) (tmL 2 0 A c B m d t C f { data:= #[] }) arT X) [0,1,2,3,4,5,6,7,8,9,10,11,12,13,14,15,16,17,18,19,20,21,22,23,24,25,26,27,28,29,30,31,32,33,34,35,36,37,38,39,40,41,42,43,44,45,46,47,48,49,50,51,52,53,54,55,56,57] (by kernel_rfl) ?_;(iterate 28 (refine cR (v:=?_) ?_ hS ?_;rotate_left;(next=>(rintro X ⟨hX,hY,hA,hZ⟩;obtain ⟨s0,s1,s2,s3,s4,s5⟩:=aR hY;have a0:=hA 2 _ rfl;(try simp only [aI]);go_simp;rfl));simp only [aM]));(refine cY (fun K1 hK1=>?_);simp only [aM];rw [bA (by rfl)];go_simp);refine (HZ.out _).mono ?_;rintro e' w1 ⟨rfl,hb⟩;replace hS:=bJ (cP hS.1 hb) (bJ (cP hS.2.1 hb) (bJ (cP hS.2.2.1 hb) (hS.2.2.2.trans (hb.mono hS.2.2.2.size))));have HS2:=aF hS;clear hb;refine hK1.out _ _ (fun _=>hS) ?_;clear hK1;(iterate 8 (refine cR (v:=?_) ?_ hS ?_;rotate_left;(next=>(rintro X ⟨hX,hY,hA,hZ⟩;obtain ⟨s0,s1,s2,s3,s4,s5⟩:=aR hY;have a0:=hA 2 _ rfl;(try simp only [aI]);go_simp;rfl));simp only [aM]));(iterate 4 (refine dA (v:=undef) (by kernel_rfl) (fun _ _ _ h=>h) (Or.inr ⟨by rfl,rfl⟩) hS ?_;simp only [aM]));(iterate 17 (refine cR (v:=?_) ?_ hS ?_;rotate_left;(next=>(rintro X ⟨hX,hY,hA,hZ⟩;obtain ⟨s0,s1,s2,s3,s4,s5⟩:=aR hY;have a0:=hA 2 _ rfl;(try simp only [aI]);go_simp;rfl));simp only [aM]));refine cZ ?_;clear hS;go_wp2_with fail
 all_goals first
  | (exfalso;omega)
  | (go_ret;exact ⟨by rw [HF.out];rfl,HS2.out.2.2.2⟩)
theorem oS {b:Bdy} {bh:BH} {w:World} (H:Rk w b bh) (t:Trm) (A B C:Option Addr) (c d f:Nat) (ht:Slc 1 RInt w A c t.targets) (hl:Slc 4 ROp w B d t.args) (_hp:Slc 2 RPj w C f t.place.proj) (hk:t.kind=2) (hfd:fieldsT t=true):
 Calls Tryz.prog 62 #[.agg (bdC b bh).toArray,.agg (tmC t A c B d C f).toArray] w fun e' w'=>e' = .returned (.int .i64 (tmE b t))/\Below w.heap.size w w':=by
 have HZ:=aF (fun W=>dQ t.place C f W);have HOP:=aF (fun W (hb:Below w.heap.size w W) (o:Opd) (A:Option Addr) (c:Nat) (hp:Slc 2 RPj w A c o.place.proj)=>dK (H.keep hb) o A c (hp.keep RPj.keeps hb));have hfd2:=hfd;unfold fieldsT at hfd2;rw [hk] at hfd2;simp only [reduceIte,Int.reduceEq,bP,decide_eq_true_eq] at hfd2;obtain ⟨⟨⟨hn,hm⟩,hzz⟩,hnm0⟩:=hfd2;obtain ⟨Q,hQ⟩:∃Q,(if opsE b t.args []≠0 then opsE b t.args [] else 0)=Q:=⟨_,rfl⟩;have HQ:=aF hQ
 have HF:Hid (tmE b t=if (t.targets.drop 0).all (fun k=>decide (0<=k/\k<(b.blocks.length:Int)))=true then Q else 3):=aF (by
  rw [bW,tmE,aZ (by omega),aZ (by rw [hfd];simp),<- hQ];cases t.targets.all (fun k=>decide (0<=k/\k<(b.blocks.length:Int)))
  ·simp
  ·rw [bU hm,dJ]
   simp [hk])
 generalize tmE b t=R at HF ⊢;have hblkl:=H.at_.blk.le;have hblkb:=H.at_.blk.big;have hle2:=ht.le;have hbig2:=ht.big;have hle:=hl.le;have hbig:=hl.big;have HTG:=aF ht;have HL:=aF hl
 have hnm:t.name={ data:= #[] }:=by
  have h:=hnm0;cases hh:t.name with
  | mk dd=>
    rw [hh] at h;exact congrArg ByteArray.mk (Array.eq_empty_of_size_eq_zero (show dd.size=0 from h))
 rw [hzz] at HZ;obtain ⟨m,hmm⟩:∃m,t.args.length=m:=⟨_,rfl⟩;have HN:=aF hmm;clear hQ H ht hl _hp hfd hnm0;unfold bdC at *;unfold tmC;rw [hk,hn,hmm,hnm];rw [hmm] at hle;obtain rfl:m=0:=by omega
 have HTN:=aF hn;clear hn hk hmm hnm hm;clear hzz;go_enter Tryz.func62,Tryz.ntmps62
 go_wp2_with fail
 have hS:=gD w (bdC b bh) (tmL 2 0 A c B 0 d t C f { data:= #[] }) arT 28 53 148;refine cT (S:=fun X=>aD w (bdC b bh) (tmL 2 0 A c B 0 d t C f { data:= #[] }) arT X) [0,1,2,3,4,5,6,7,8,9,10,11,12,13,14,15,16,17,18,19,20,21,22,23,24,25,26,27,28,29,30,31,32,33,34,35,36,37,38,39,40,41,42,43,44,45,46,47,48,49,50,51,52,53,54,55,56,57] (by kernel_rfl) ?_;(iterate 28 (refine cR (v:=?_) ?_ hS ?_;rotate_left;(next=>(rintro X ⟨hX,hY,hA,hZ⟩;obtain ⟨s0,s1,s2,s3,s4,s5⟩:=aR hY;have a0:=hA 2 _ rfl;(try simp only [aI]);go_simp;rfl));simp only [aM]));(refine cY (fun K1 hK1=>?_);simp only [aM];rw [bA (by rfl)];go_simp);refine (HZ.out _).mono ?_;rintro e' w1 ⟨rfl,hb⟩;replace hS:=bJ (cP hS.1 hb) (bJ (cP hS.2.1 hb) (bJ (cP hS.2.2.1 hb) (hS.2.2.2.trans (hb.mono hS.2.2.2.size))));have HS2:=aF hS;clear hb;refine hK1.out _ _ (fun _=>hS) ?_;clear hK1;(iterate 8 (refine cR (v:=?_) ?_ hS ?_;rotate_left;(next=>(rintro X ⟨hX,hY,hA,hZ⟩;obtain ⟨s0,s1,s2,s3,s4,s5⟩:=aR hY;have a0:=hA 2 _ rfl;(try simp only [aI]);go_simp;rfl));simp only [aM]));(iterate 4 (refine dA (v:=undef) (by kernel_rfl) (fun _ _ _ h=>h) (Or.inr ⟨by rfl,rfl⟩) hS ?_;simp only [aM]));(iterate 17 (refine cR (v:=?_) ?_ hS ?_;rotate_left;(next=>(rintro X ⟨hX,hY,hA,hZ⟩;obtain ⟨s0,s1,s2,s3,s4,s5⟩:=aR hY;have a0:=hA 2 _ rfl;(try simp only [aI]);go_simp;rfl));simp only [aM]));refine cZ ?_;clear hS;go_wp2_with fail
 have HY:=aF HS2.out.1;have HZZ:=aF HS2.out.2.1;have HB:=aF HS2.out.2.2.2;clear HS2;go_loopw [7] (fun v wr=>∃k:Nat,k<=0/\v = .int .i64 k/\Hid (aA (bdC b bh) wr w.heap.size)/\Hid (aA (tmL 2 0 A c B 0 d t C f { data:= #[] }) wr (w.heap.size+1))/\Hid (Below w.heap.size w wr)/\Hid (R=if (t.targets.drop k).all (fun k=>decide (0<=k/\k<(b.blocks.length:Int)))=true then Q else 3)) (fun v _=>0 - (intOf v).toNat)
 case atStart=>exact ⟨0,by omega,rfl,HY,HZZ,HB,HF⟩
 case round=>
  clear HY HZZ HB HF;obtain ⟨k,hk2,rfl,HY,HZ,HB,hr⟩:=hrel;obtain ⟨y0,y1,y2,y3,y4,y5,y6⟩:=aS HY.out;obtain ⟨z0,z1,z2,z3,z4,z5⟩:=aR HZ.out;by_cases hlt:k<0
  next=>exact absurd hlt (by omega)
  next=>
   have HR:Hid (R=Q):=aF (by rw [hr.out,bE (by rw [HTN.out];omega)];rfl);clear hr;have HOPS:Hid (R=if opsE b t.args []≠0 then opsE b t.args [] else 0):=aF (by rw [HR.out,<- HQ.out]);clear HR HQ;go_wp2_with fail
   clear hlt hk2;go_loopw [8] (fun v wr=>∃j:Nat,j<=0/\v = .int .i64 j/\Hid (aA (bdC b bh) wr w.heap.size)/\Hid (aA (tmL 2 0 A c B 0 d t C f { data:= #[] }) wr (w.heap.size+1))/\Hid (Below w.heap.size w wr)/\Hid (opsE b t.args []=opsE b (t.args.drop j) [])) (fun v _=>0 - (intOf v).toNat)
   case atStart=>exact ⟨0,by omega,rfl,aF HY.out,aF HZ.out,HB,aF rfl⟩
   case round=>
    clear HY HZ HB y0 y1 y2 y3 y4 y5 y6 z0 z1 z2 z3 z4 z5;obtain ⟨j,hj,rfl,HY,HZ,HB,hr⟩:=hrel;obtain ⟨y0,y1,y2,y3,y4,y5,y6⟩:=aS HY.out;obtain ⟨z0,z1,z2,z3,z4,z5⟩:=aR HZ.out;by_cases hlt:j<0
    next=>exact absurd hlt (by omega)
    next=>
     have hz0:opsE b t.args []=0:=(by rw [hr.out,bE (by rw [HN.out];omega),dJ]);have HQ2:Hid (R=0):=aF (by rw [HOPS.out,aZ (by simp [hz0])]);clear hr hz0;go_wp2_with fail
     go_quiet (fail)
     all_goals go_wp2_with fail
     go_ret;exact ⟨by rw [HQ2.out];rfl,aG HB.out _⟩
theorem tC {b:Bdy} {bh:BH} {w:World} (_H:Rk w b bh) (t:Trm) (A B C:Option Addr) (c d f:Nat) (ht:Slc 1 RInt w A c t.targets) (hl:Slc 4 ROp w B d t.args) (_hp:Slc 2 RPj w C f t.place.proj) (hk:t.kind=3) (hfd:fieldsT t=false):
 Calls Tryz.prog 62 #[.agg (bdC b bh).toArray,.agg (tmC t A c B d C f).toArray] w fun e' w'=>e' = .returned (.int .i64 (tmE b t))/\Below w.heap.size w w':=by
 have HZ:=aF (fun W=>dQ t.place C f W);have HF:Hid (tmE b t=2):=aF (by rw [tmE,aZ (by omega),bA hfd]);generalize tmE b t=R at HF ⊢;have hfd2:=hfd;unfold fieldsT at hfd2;rw [hk] at hfd2;simp only [reduceIte,Int.reduceEq] at hfd2;obtain ⟨n,hn⟩:∃n,t.targets.length=n:=⟨_,rfl⟩;obtain ⟨m,hm⟩:∃m,t.args.length=m:=⟨_,rfl⟩;obtain ⟨z,hzz⟩:∃z,zeroP t.place=z:=⟨_,rfl⟩;have hmb:m<=9223372036854775807:=by have h1:=hl.le;have h2:=hl.big;omega
 have hnb:n<=9223372036854775807:=by have h1:=ht.le;have h2:=ht.big;omega
 obtain ⟨u,hu⟩:∃u,decide (t.name.size=0)=u:=⟨_,rfl⟩;have hne:=eG t.name;rw [hu] at hne;try rw [hu] at hfd2
 rw [hn] at hfd2;try rw [hm] at hfd2
 try rw [hzz] at hfd2
 rw [hzz] at HZ;clear _H ht hl _hp hfd hzz;unfold bdC tmC;rw [hk,hn,hm];clear hk hn hm;by_cases hn:n=1
 case neg=>
  have e1:((n:Int) != 1)=true:=by simp;omega
  clear hfd2 hne HZ hu;go_enter Tryz.func62,Tryz.ntmps62
  go_wp2_with fail
  go_quiet (fail)
  all_goals go_wp2_with fail
  all_goals first
   | (exfalso;omega)
   | (go_ret;exact ⟨by rw [HF.out];rfl,by first | exact aG aH _ | exact aH⟩)
 subst hn;simp at hfd2
theorem oR {b:Bdy} {bh:BH} {w:World} (H:Rk w b bh) (t:Trm) (A B C:Option Addr) (c d f:Nat) (ht:Slc 1 RInt w A c t.targets) (hl:Slc 4 ROp w B d t.args) (hp:Slc 2 RPj w C f t.place.proj) (hk:t.kind=3) (hfd:fieldsT t=true) (hz:t.name.size<=9223372036854775807):
 Calls Tryz.prog 62 #[.agg (bdC b bh).toArray,.agg (tmC t A c B d C f).toArray] w fun e' w'=>e' = .returned (.int .i64 (tmE b t))/\Below w.heap.size w w':=by
 have HZ:=aF (fun W=>dQ t.place C f W);have HOP:=aF (fun W (hb:Below w.heap.size w W) (o:Opd) (A:Option Addr) (c:Nat) (hp:Slc 2 RPj w A c o.place.proj)=>dK (H.keep hb) o A c (hp.keep RPj.keeps hb));have HTT:=aF (fun (W:World) (hb:Below w.heap.size w W)=>eF b bh t.place C f W (H.keep hb).at_ (hp.keep RPj.keeps hb) H.ok.okay);have HMU:=aF (fun (W:World) (hb:Below w.heap.size w W)=>jT b bh t.place C f W (H.keep hb).at_ (hp.keep RPj.keeps hb) H.ok.okay);have HI:=aF (fun W=>gN t.name W hz);have hfd2:=hfd;unfold fieldsT at hfd2;rw [hk] at hfd2;simp only [reduceIte,Int.reduceEq,decide_eq_true_eq] at hfd2;have hn:=hfd2;obtain ⟨Q,hQ⟩:∃Q,(if isIdent t.name=false then 12 else if 65535<t.args.length then 15 else if opsE b t.args []≠0 then opsE b t.args [] else writE b t.place)=Q:=⟨_,rfl⟩;have HQ:=aF hQ
 have HF:Hid (tmE b t=if (t.targets.drop 0).all (fun k=>decide (0<=k/\k<(b.blocks.length:Int)))=true then Q else 3):=aF (by
  rw [bW,tmE,aZ (by omega),aZ (by rw [hfd];simp),<- hQ];cases t.targets.all (fun k=>decide (0<=k/\k<(b.blocks.length:Int)))
  ·simp
  ·simp [hk])
 generalize tmE b t=R at HF ⊢;have hblkl:=H.at_.blk.le;have hblkb:=H.at_.blk.big;have hle2:=ht.le;have hbig2:=ht.big;have hle:=hl.le;have hbig:=hl.big;have HTG:=aF ht;have HL:=aF hl;have HWE:Hid (writE b t.place=if (tyB b t.place).2≠0 then (tyB b t.place).2 else fail22 (!mutB b t.place)):=aF rfl;generalize isIdent t.name=ii at HI HQ;generalize writE b t.place=we at HQ HWE;generalize mutB b t.place=mu at HMU HWE;generalize tyB b t.place=ty at HTT HWE;obtain ⟨ti,te⟩:=ty;simp only at HWE HTT;obtain ⟨m,hmm⟩:∃m,t.args.length=m:=⟨_,rfl⟩;have HN:=aF hmm;clear hQ H ht hl hp hfd hz hfd2;unfold bdC at *;unfold tmC;rw [hk,hn,hmm];rw [hmm] at hle;have HTN:=aF hn;clear hn hk hmm;have hT:=dL (aX _ (((w.alloc (.cells ((bdC b bh)).toArray 28)).alloc (.cells ((tmL 3 1 A c B m d t C f t.name)).toArray 53)).alloc (.cells (arT).toArray 148)));have HY:=aF hT.1;have HZZ:=aF hT.2.1;have HB:=aF (bel3 w (.cells ((bdC b bh)).toArray 28) (.cells ((tmL 3 1 A c B m d t C f t.name)).toArray 53) (.cells (arT).toArray 148));clear hT;go_enter Tryz.func62,Tryz.ntmps62
 go_wp2_with fail
 go_quiet (fail)
 all_goals go_wp2_with fail
 go_loopw [7] (fun v wr=>∃k:Nat,k<=1/\v = .int .i64 k/\Hid (aA (bdC b bh) wr w.heap.size)/\Hid (aA (tmL 3 1 A c B m d t C f t.name) wr (w.heap.size+1))/\Hid (Below w.heap.size w wr)/\Hid (R=if (t.targets.drop k).all (fun k=>decide (0<=k/\k<(b.blocks.length:Int)))=true then Q else 3)) (fun v _=>1 - (intOf v).toNat)
 case atStart=>exact ⟨0,by omega,rfl,aF HY.out,aF HZZ.out,aF (aG HB.out _),HF⟩
 case round=>
  clear HY HZZ HB HF;obtain ⟨k,hk2,rfl,HY,HZ,HB,hr⟩:=hrel;obtain ⟨y0,y1,y2,y3,y4,y5,y6⟩:=aS HY.out;obtain ⟨z0,z1,z2,z3,z4,z5⟩:=aR HZ.out;by_cases hlt:k<1
  next=>
   have hlt2:k<t.targets.length:=by rw [HTN.out];exact hlt
   have hd:=cV hlt2;obtain ⟨b5,o5,rfl,hb5,hx⟩:=HTG.out.sl.at_ hlt2;obtain ⟨x,hxx⟩:∃x,t.targets[k]=x:=⟨_,rfl⟩;rw [hxx] at hd hx;have x0:wr.cell? ⟨b5,o5+k,none⟩=some (.int .i64 x):=cO HB.out (by simpa [RInt] using hx);by_cases hin:0<=x/\x<(b.blocks.length:Int)
   ·have HF2:Hid (R=if (t.targets.drop (k+1)).all (fun k=>decide (0<=k/\k<(b.blocks.length:Int)))=true then Q else 3):=aF (by rw [hr.out,hd,cB];simp [hin]);have e1:decide (x<0)=false:=by simp;omega
    have e2:decide ((b.blocks.length:Int)<=x)=false:=by simp;omega
    clear hd hx hxx hr hin;go_wp2_with fail
    go_quiet (fail)
    all_goals go_wp2_with fail
    go_roundw
    case rel=>exact ⟨k+1,by omega,by go_num,aF HY.out,aF HZ.out,aF (aG HB.out _),HF2⟩
    case measure=>simp [intOf];omega
   ·have HF2:Hid (R=3):=aF (by rw [hr.out,hd,cB];simp;intro h1 h2;exact absurd ⟨h1,h2⟩ hin);clear hd hx hxx hr;by_cases hx0:x<0
    ·have e1:decide (x<0)=true:=by simp;omega
     clear hin hx0;go_wp2_with fail
     go_quiet (fail)
     all_goals go_wp2_with fail
     go_ret;exact ⟨by rw [HF2.out];rfl,aG HB.out _⟩
    ·have e1:decide (x<0)=false:=by simp;omega
     have e2:decide ((b.blocks.length:Int)<=x)=true:=by simp;omega
     clear hin hx0;go_wp2_with fail
     go_quiet (fail)
     all_goals go_wp2_with fail
     go_ret;exact ⟨by rw [HF2.out];rfl,aG HB.out _⟩
  next=>
   have HR:Hid (R=Q):=aF (by rw [hr.out,bE (by rw [HTN.out];omega)];rfl);clear hr;cases ii
   next=>
    have HF2:Hid (R=12):=aF (by rw [HR.out,<- HQ.out];rfl);go_wp2_with (go_at_call 89;refine (HI.out _).mono ?_;rintro e' w9 ⟨rfl,hw⟩;obtain rfl:=hw.symm)
    go_ret;exact ⟨by rw [HF2.out];rfl,HB.out⟩
   next=>
   by_cases hln:65535<m
   next=>
    have HF2:Hid (R=15):=aF (by rw [HR.out,<- HQ.out,HN.out];simp [hln]);go_wp2_with (go_at_call 89;refine (HI.out _).mono ?_;rintro e' w9 ⟨rfl,hw⟩;obtain rfl:=hw.symm)
    go_ret;exact ⟨by rw [HF2.out];rfl,HB.out⟩
   next=>
   have HOPS:Hid (R=if opsE b t.args []≠0 then opsE b t.args [] else we):=aF (by rw [HR.out,<- HQ.out,HN.out];simp [hln]);clear HR HQ;go_wp2_with (go_at_call 89;refine (HI.out _).mono ?_;rintro e' w9 ⟨rfl,hw⟩;obtain rfl:=hw.symm)
   clear hlt hk2;go_loopw [8] (fun v wr=>∃j:Nat,j<=m/\v = .int .i64 j/\Hid (aA (bdC b bh) wr w.heap.size)/\Hid (aA (tmL 3 1 A c B m d t C f t.name) wr (w.heap.size+1))/\Hid (Below w.heap.size w wr)/\Hid (opsE b t.args []=opsE b (t.args.drop j) [])) (fun v _=>m - (intOf v).toNat)
   case atStart=>exact ⟨0,by omega,rfl,aF HY.out,aF HZ.out,HB,aF rfl⟩
   case round=>
    clear HY HZ HB y0 y1 y2 y3 y4 y5 y6 z0 z1 z2 z3 z4 z5;obtain ⟨j,hj,rfl,HY,HZ,HB,hr⟩:=hrel;obtain ⟨y0,y1,y2,y3,y4,y5,y6⟩:=aS HY.out;obtain ⟨z0,z1,z2,z3,z4,z5⟩:=aR HZ.out;by_cases hlt:j<m
    next=>
     have hl1:j<t.args.length:=by rw [HN.out];exact hlt
     obtain ⟨b5,o5,rfl,hb5,hxo⟩:=HL.out.sl.at_ hl1;have hd:=cV hl1;obtain ⟨o,hoo⟩:∃o,t.args[j]=o:=⟨_,rfl⟩;rw [hoo] at hxo hd;obtain ⟨p0,⟨p1,A2,c2,p2,hc1,hc2,hsl⟩,p3⟩:=hxo;have HPJ:Hid (Slc 2 RPj w A2 c2 o.place.proj):=aF ⟨hsl,hc1,hc2⟩;have P0:=aF p0;have P1:=aF p1;have P2:=aF (show w.cell? ⟨b5,o5+j * 4+2,none⟩=_ from p2);have P3:=aF p3;have HOO:=aF (fun W hb=>HOP.out W hb o A2 c2 HPJ.out);unfold opC at HOO
     have HV2:Hid ((opE b o≠0->R=opE b o)/\(opE b o=0->opsE b t.args []=opsE b (t.args.drop (j+1)) [])):=aF ⟨fun he=>by
      have h9:opsE b t.args []=opE b o:=by rw [hr.out,hd,eY he]
      rw [HOPS.out,h9,bA he],fun he=>by rw [hr.out,hd,fE he]⟩
     generalize opE b o=eo at HOO HV2;clear hr hd hoo p0 p1 p2 p3 hsl hc1 hc2 hl1;go_wp2_with fail
     have hS:aB w (bdC b bh) (tmL 3 1 A c (some ⟨b5,o5,none⟩) m d t C f t.name) wr.drew:=⟨HY.out,HZ.out,HB.out.drew⟩;clear y0 y1 y2 y3 y4 y5 y6 z0 z1 z2 z3 z4 z5;refine cT (S:=fun X=>aB w (bdC b bh) (tmL 3 1 A c (some ⟨b5,o5,none⟩) m d t C f t.name) X) [0,1,2,3,4,5,6,7] (by kernel_rfl) ?_;(iterate 6 (refine cR (v:=?_) ?_ hS ?_;rotate_left;(next=>(rintro X ⟨hX,hY,hZ⟩;obtain ⟨s0,s1,s2,s3,s4,s5,s6⟩:=aS hX;have u2:=hY 2 _ rfl;have p0:=cO hZ P0.out;have p1:=cO hZ P1.out;have p2:=cO hZ P2.out;have p3:=cO hZ P3.out;(try simp only [aI]);go_simp;rfl));simp only [aM]));(refine cY (fun K1 hK1=>?_);simp only [aM];rw [bA (by rfl)];go_simp);refine (HOO.out _ hS.2.2).mono ?_;rintro e' w2 ⟨rfl,hb⟩;replace hS:=bJ (cP hS.1 hb) (bJ (cP hS.2.1 hb) (hS.2.2.trans (hb.mono hS.2.2.size)));have HS2:=aF hS;clear hb;refine hK1.out _ _ (fun _=>hS) ?_;clear hK1;((refine cR (v:=?_) ?_ hS ?_;rotate_left;(next=>(rintro X -;(try simp only [aI]);go_simp;rfl));simp only [aM]))
     refine cZ ?_;clear hS;by_cases he:eo=0
     ·subst he;have HV3:=aF (HV2.out.2 rfl);clear HV2;go_wp2_with fail
      go_roundw
      case rel=>exact ⟨j+1,by omega,by go_num,aF HS2.out.1,aF HS2.out.2.1,aF HS2.out.2.2,HV3⟩
      case measure=>simp [intOf];omega
     ·have HF2:=aF (HV2.out.1 he);have e1:(eo != 0)=true:=by simp [he]
      clear he HV2;go_wp2_with fail
      go_ret;exact ⟨by rw [HF2.out];rfl,HS2.out.2.2⟩
    next=>
     have hz0:opsE b t.args []=0:=(by rw [hr.out,bE (by rw [HN.out];omega),dJ]);have HQ2:Hid (R=we):=aF (by rw [HOPS.out,aZ (by simp [hz0])]);clear hr hz0;go_wp2_with fail
     go_quiet (fail)
     by_cases he:te=0
     next=>
      have HQ3:Hid (R=fail22 (!mu)):=aF (by rw [HQ2.out,HWE.out];simp [he]);subst he;clear HQ2 HWE;cases mu
      all_goals
       go_wp2_with (first | (go_at_call 92;refine (HTT.out _ (aG HB.out _)).mono ?_;rintro e' w2 ⟨rfl,hb⟩;have HB2:=aF ((aG HB.out _).trans (hb.mono (aG HB.out _).size));have HY2:=aF (cP (W:=wr.drewN _) HY.out hb);have HZ2:=aF (cP (W:=wr.drewN _) HZ.out hb);clear y0 y1 y2 y3 y4 y5 y6 z0 z1 z2 z3 z4 z5;obtain ⟨y0,y1,y2,y3,y4,y5,y6⟩:=aS HY2.out;obtain ⟨z0,z1,z2,z3,z4,z5⟩:=aR HZ2.out;clear hb) | (go_at_call 93;refine (HMU.out _ HB2.out).mono ?_;rintro e' w3 ⟨rfl,hb⟩;have HB3:=aF (HB2.out.trans (hb.mono HB2.out.size));have HZ3:=aF (cP HZ2.out hb);clear y0 y1 y2 y3 y4 y5 y6 z0 z1 z2 z3 z4 z5;have k0:=HZ3.out 0 _ rfl;clear hb))
       go_ret;exact ⟨by rw [HQ3.out];rfl,HB3.out⟩
     next=>
      have HQ3:Hid (R=te):=aF (by rw [HQ2.out,HWE.out];simp [he]);have e1:(te != 0)=true:=by simp [he]
      clear HQ2 HWE he;go_wp2_with (go_at_call 92;refine (HTT.out _ (aG HB.out _)).mono ?_;rintro e' w2 ⟨rfl,hb⟩;have HB2:=aF ((aG HB.out _).trans (hb.mono (aG HB.out _).size));have HY2:=aF (cP (W:=wr.drewN _) HY.out hb);have HZ2:=aF (cP (W:=wr.drewN _) HZ.out hb);clear y0 y1 y2 y3 y4 y5 y6 z0 z1 z2 z3 z4 z5;obtain ⟨y0,y1,y2,y3,y4,y5,y6⟩:=aS HY2.out;obtain ⟨z0,z1,z2,z3,z4,z5⟩:=aR HZ2.out;clear hb)
      go_ret;exact ⟨by rw [HQ3.out];rfl,HB2.out⟩
theorem tB {b:Bdy} {bh:BH} {w:World} (_H:Rk w b bh) (t:Trm) (A B C:Option Addr) (c d f:Nat) (ht:Slc 1 RInt w A c t.targets) (hl:Slc 4 ROp w B d t.args) (_hp:Slc 2 RPj w C f t.place.proj) (hk:t.kind=4) (hfd:fieldsT t=false):
 Calls Tryz.prog 62 #[.agg (bdC b bh).toArray,.agg (tmC t A c B d C f).toArray] w fun e' w'=>e' = .returned (.int .i64 (tmE b t))/\Below w.heap.size w w':=by
 have HZ:=aF (fun W=>dQ t.place C f W);have HF:Hid (tmE b t=2):=aF (by rw [tmE,aZ (by omega),bA hfd]);generalize tmE b t=R at HF ⊢;have hfd2:=hfd;unfold fieldsT at hfd2;rw [hk] at hfd2;simp only [reduceIte,Int.reduceEq] at hfd2;obtain ⟨n,hn⟩:∃n,t.targets.length=n:=⟨_,rfl⟩;obtain ⟨m,hm⟩:∃m,t.args.length=m:=⟨_,rfl⟩;obtain ⟨z,hzz⟩:∃z,zeroP t.place=z:=⟨_,rfl⟩;have hmb:m<=9223372036854775807:=by have h1:=hl.le;have h2:=hl.big;omega
 have hnb:n<=9223372036854775807:=by have h1:=ht.le;have h2:=ht.big;omega
 obtain ⟨u,hu⟩:∃u,decide (t.name.size=0)=u:=⟨_,rfl⟩;have hne:=eG t.name;rw [hu] at hne;try rw [hu] at hfd2
 rw [hn] at hfd2;try rw [hm] at hfd2
 try rw [hzz] at hfd2
 rw [hzz] at HZ;clear _H ht hl _hp hfd hzz;unfold bdC tmC;rw [hk,hn,hm];clear hk hn hm;by_cases hn:n=1
 case neg=>
  have e1:((n:Int) != 1)=true:=by simp;omega
  clear hfd2 hne HZ hu;go_enter Tryz.func62,Tryz.ntmps62
  go_wp2_with fail
  go_quiet (fail)
  all_goals go_wp2_with fail
  all_goals first
   | (exfalso;omega)
   | (go_ret;exact ⟨by rw [HF.out];rfl,by first | exact aG aH _ | exact aH⟩)
 subst hn;cases u
 case false=>
  clear hfd2 HZ hu;go_enter Tryz.func62,Tryz.ntmps62
  go_wp2_with fail
  go_quiet (fail)
  all_goals go_wp2_with fail
  all_goals first
   | (exfalso;omega)
   | (go_ret;exact ⟨by rw [HF.out];rfl,by first | exact aG aH _ | exact aH⟩)
 have hnm:t.name={ data:= #[] }:=by
  have h:=of_decide_eq_true hu;cases hh:t.name with
  | mk dd=>
    rw [hh] at h;exact congrArg ByteArray.mk (Array.eq_empty_of_size_eq_zero (show dd.size=0 from h))
 rw [hnm];clear hu hne hnm;have hm0:0<m:=by simp at hfd2;omega
 have e3:decide (0<(m:Int))=true:=by simp;omega
 clear hfd2;go_enter Tryz.func62,Tryz.ntmps62
 go_wp2_with fail
 go_quiet (fail)
 all_goals go_wp2_with fail
 all_goals first
  | (exfalso;omega)
  | (go_ret;exact ⟨by rw [HF.out];rfl,by first | exact aG aH _ | exact aH⟩)
theorem oQ {b:Bdy} {bh:BH} {w:World} (H:Rk w b bh) (t:Trm) (A B C:Option Addr) (c d f:Nat) (ht:Slc 1 RInt w A c t.targets) (hl:Slc 4 ROp w B d t.args) (hp:Slc 2 RPj w C f t.place.proj) (hk:t.kind=4) (hfd:fieldsT t=true):
 Calls Tryz.prog 62 #[.agg (bdC b bh).toArray,.agg (tmC t A c B d C f).toArray] w fun e' w'=>e' = .returned (.int .i64 (tmE b t))/\Below w.heap.size w w':=by
 have HZ:=aF (fun W=>dQ t.place C f W);have HOP:=aF (fun W (hb:Below w.heap.size w W) (o:Opd) (A:Option Addr) (c:Nat) (hp:Slc 2 RPj w A c o.place.proj)=>dK (H.keep hb) o A c (hp.keep RPj.keeps hb));have HTT:=aF (fun (W:World) (hb:Below w.heap.size w W)=>eF b bh t.place C f W (H.keep hb).at_ (hp.keep RPj.keeps hb) H.ok.okay);have HHD:=aF (fun (W:World) (hb:Below w.heap.size w W)=>nL t.place 0 C f W (hp.keep RPj.keeps hb));have hfd2:=hfd;unfold fieldsT at hfd2;rw [hk] at hfd2;simp only [reduceIte,Int.reduceEq,bP,decide_eq_true_eq] at hfd2;obtain ⟨⟨hn,hm⟩,hnm0⟩:=hfd2;obtain ⟨Q,hQ⟩:∃Q,(if opsE b t.args []≠0 then opsE b t.args [] else (if (tyB b t.place).2≠0 then (tyB b t.place).2 else fail22 (hasD t.place.proj 0)))=Q:=⟨_,rfl⟩;have HQ:=aF hQ
 have HF:Hid (tmE b t=if (t.targets.drop 0).all (fun k=>decide (0<=k/\k<(b.blocks.length:Int)))=true then Q else 3):=aF (by
  rw [bW,tmE,aZ (by omega),aZ (by rw [hfd];simp),<- hQ];cases t.targets.all (fun k=>decide (0<=k/\k<(b.blocks.length:Int)))
  ·simp
  ·rw [bU hm,dJ]
   simp [hk])
 generalize tmE b t=R at HF ⊢;have hblkl:=H.at_.blk.le;have hblkb:=H.at_.blk.big;have hle2:=ht.le;have hbig2:=ht.big;have hle:=hl.le;have hbig:=hl.big;have HTG:=aF ht;have HL:=aF hl;generalize hasD t.place.proj 0=hdd at HHD HQ;generalize tyB b t.place=ty at HTT HQ;obtain ⟨ti,te⟩:=ty;simp only at HQ HTT
 have hnm:t.name={ data:= #[] }:=by
  have h:=hnm0;cases hh:t.name with
  | mk dd=>
    rw [hh] at h;exact congrArg ByteArray.mk (Array.eq_empty_of_size_eq_zero (show dd.size=0 from h))
 obtain ⟨m,hmm⟩:∃m,t.args.length=m:=⟨_,rfl⟩;have HN:=aF hmm;clear hQ H ht hl hp hfd hnm0;unfold bdC at *;unfold tmC;rw [hk,hn,hmm,hnm];rw [hmm] at hle;obtain rfl:m=0:=by omega
 have HTN:=aF hn;clear hn hk hmm hnm hm;have hT:=dL (aX _ (((w.alloc (.cells ((bdC b bh)).toArray 28)).alloc (.cells ((tmL 4 1 A c B 0 d t C f { data:= #[] })).toArray 53)).alloc (.cells (arT).toArray 148)));have HY:=aF hT.1;have HZZ:=aF hT.2.1;have HB:=aF (bel3 w (.cells ((bdC b bh)).toArray 28) (.cells ((tmL 4 1 A c B 0 d t C f { data:= #[] })).toArray 53) (.cells (arT).toArray 148));clear hT;go_enter Tryz.func62,Tryz.ntmps62
 go_wp2_with fail
 go_quiet (fail)
 all_goals go_wp2_with fail
 go_loopw [7] (fun v wr=>∃k:Nat,k<=1/\v = .int .i64 k/\Hid (aA (bdC b bh) wr w.heap.size)/\Hid (aA (tmL 4 1 A c B 0 d t C f { data:= #[] }) wr (w.heap.size+1))/\Hid (Below w.heap.size w wr)/\Hid (R=if (t.targets.drop k).all (fun k=>decide (0<=k/\k<(b.blocks.length:Int)))=true then Q else 3)) (fun v _=>1 - (intOf v).toNat)
 case atStart=>exact ⟨0,by omega,rfl,aF HY.out,aF HZZ.out,aF (aG HB.out _),HF⟩
 case round=>
  clear HY HZZ HB HF;obtain ⟨k,hk2,rfl,HY,HZ,HB,hr⟩:=hrel;obtain ⟨y0,y1,y2,y3,y4,y5,y6⟩:=aS HY.out;obtain ⟨z0,z1,z2,z3,z4,z5⟩:=aR HZ.out;by_cases hlt:k<1
  next=>
   have hlt2:k<t.targets.length:=by rw [HTN.out];exact hlt
   have hd:=cV hlt2;obtain ⟨b5,o5,rfl,hb5,hx⟩:=HTG.out.sl.at_ hlt2;obtain ⟨x,hxx⟩:∃x,t.targets[k]=x:=⟨_,rfl⟩;rw [hxx] at hd hx;have x0:wr.cell? ⟨b5,o5+k,none⟩=some (.int .i64 x):=cO HB.out (by simpa [RInt] using hx);by_cases hin:0<=x/\x<(b.blocks.length:Int)
   ·have HF2:Hid (R=if (t.targets.drop (k+1)).all (fun k=>decide (0<=k/\k<(b.blocks.length:Int)))=true then Q else 3):=aF (by rw [hr.out,hd,cB];simp [hin]);have e1:decide (x<0)=false:=by simp;omega
    have e2:decide ((b.blocks.length:Int)<=x)=false:=by simp;omega
    clear hd hx hxx hr hin;go_wp2_with fail
    go_quiet (fail)
    all_goals go_wp2_with fail
    go_roundw
    case rel=>exact ⟨k+1,by omega,by go_num,aF HY.out,aF HZ.out,aF (aG HB.out _),HF2⟩
    case measure=>simp [intOf];omega
   ·have HF2:Hid (R=3):=aF (by rw [hr.out,hd,cB];simp;intro h1 h2;exact absurd ⟨h1,h2⟩ hin);clear hd hx hxx hr;by_cases hx0:x<0
    ·have e1:decide (x<0)=true:=by simp;omega
     clear hin hx0;go_wp2_with fail
     go_quiet (fail)
     all_goals go_wp2_with fail
     go_ret;exact ⟨by rw [HF2.out];rfl,aG HB.out _⟩
    ·have e1:decide (x<0)=false:=by simp;omega
     have e2:decide ((b.blocks.length:Int)<=x)=true:=by simp;omega
     clear hin hx0;go_wp2_with fail
     go_quiet (fail)
     all_goals go_wp2_with fail
     go_ret;exact ⟨by rw [HF2.out];rfl,aG HB.out _⟩
  next=>
   have HR:Hid (R=Q):=aF (by rw [hr.out,bE (by rw [HTN.out];omega)];rfl);clear hr;have HOPS:Hid (R=if opsE b t.args []≠0 then opsE b t.args [] else if te≠0 then te else fail22 hdd):=aF (by rw [HR.out,<- HQ.out]);clear HR HQ;go_wp2_with fail
   clear hlt hk2;go_loopw [8] (fun v wr=>∃j:Nat,j<=0/\v = .int .i64 j/\Hid (aA (bdC b bh) wr w.heap.size)/\Hid (aA (tmL 4 1 A c B 0 d t C f { data:= #[] }) wr (w.heap.size+1))/\Hid (Below w.heap.size w wr)/\Hid (opsE b t.args []=opsE b (t.args.drop j) [])) (fun v _=>0 - (intOf v).toNat)
   case atStart=>exact ⟨0,by omega,rfl,aF HY.out,aF HZ.out,HB,aF rfl⟩
   case round=>
    clear HY HZ HB y0 y1 y2 y3 y4 y5 y6 z0 z1 z2 z3 z4 z5;obtain ⟨j,hj,rfl,HY,HZ,HB,hr⟩:=hrel;obtain ⟨y0,y1,y2,y3,y4,y5,y6⟩:=aS HY.out;obtain ⟨z0,z1,z2,z3,z4,z5⟩:=aR HZ.out;by_cases hlt:j<0
    next=>exact absurd hlt (by omega)
    next=>
     have hz0:opsE b t.args []=0:=(by rw [hr.out,bE (by rw [HN.out];omega),dJ]);have HQ2:Hid (R=if te≠0 then te else fail22 hdd):=aF (by rw [HOPS.out,aZ (by simp [hz0])]);clear hr hz0;go_wp2_with fail
     go_quiet (fail)
     by_cases he:te=0
     next=>
      have HQ3:Hid (R=fail22 hdd):=aF (by rw [HQ2.out];simp [he]);subst he;clear HQ2;cases hdd
      all_goals
       go_wp2_with (first | (go_at_call 92;refine (HTT.out _ (aG HB.out _)).mono ?_;rintro e' w2 ⟨rfl,hb⟩;have HB2:=aF ((aG HB.out _).trans (hb.mono (aG HB.out _).size));have HY2:=aF (cP (W:=wr.drewN _) HY.out hb);have HZ2:=aF (cP (W:=wr.drewN _) HZ.out hb);clear y0 y1 y2 y3 y4 y5 y6 z0 z1 z2 z3 z4 z5;obtain ⟨y0,y1,y2,y3,y4,y5,y6⟩:=aS HY2.out;obtain ⟨z0,z1,z2,z3,z4,z5⟩:=aR HZ2.out;clear hb) | (go_at_call 99;refine (HHD.out _ HB2.out).mono ?_;rintro e' w3 ⟨rfl,hb⟩;have HB3:=aF (HB2.out.trans (hb.mono HB2.out.size));clear hb))
       go_ret;exact ⟨by rw [HQ3.out];rfl,HB3.out⟩
     next=>
      have HQ3:Hid (R=te):=aF (by rw [HQ2.out];simp [he]);have e1:(te != 0)=true:=by simp [he]
      clear HQ2 he;go_wp2_with (go_at_call 92;refine (HTT.out _ (aG HB.out _)).mono ?_;rintro e' w2 ⟨rfl,hb⟩;have HB2:=aF ((aG HB.out _).trans (hb.mono (aG HB.out _).size));have HY2:=aF (cP (W:=wr.drewN _) HY.out hb);have HZ2:=aF (cP (W:=wr.drewN _) HZ.out hb);clear y0 y1 y2 y3 y4 y5 y6 z0 z1 z2 z3 z4 z5;obtain ⟨y0,y1,y2,y3,y4,y5,y6⟩:=aS HY2.out;obtain ⟨z0,z1,z2,z3,z4,z5⟩:=aR HZ2.out;clear hb)
      go_ret;exact ⟨by rw [HQ3.out];rfl,HB2.out⟩
end
end Go.Proofs.YtcfchohkmkilpaaGreatDoor
