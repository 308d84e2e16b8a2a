/-
  Parts of the proof: V67B5 V67G5 V67.
-/
import Derived.Test.YtcfchohkmkilpaaGreatDoorLP0
import Derived.Test.YtcfchohkmkilpaaGreatDoorLP22
import Derived.Test.YtcfchohkmkilpaaGreatDoorLP13
import Derived.Test.YtcfchohkmkilpaaGreatDoorLP10
import Derived.Test.YtcfchohkmkilpaaGreatDoorLP9
import Derived.Test.YtcfchohkmkilpaaGreatDoorLP11
import Derived.Test.YtcfchohkmkilpaaGreatDoorLP23
namespace Go.Proofs.YtcfchohkmkilpaaGreatDoor
set_option maxRecDepth 100000
set_option maxHeartbeats 16000000
section
open Go Go.RowKit Go.Maps
theorem tA {b:Bdy} {bh:BH} {w:World} (_H:Rk w b bh) (t:Trm) (A B C:Option Addr) (c d f:Nat) (ht:Slc 1 RInt w A c t.targets) (hl:Slc 4 ROp w B d t.args) (_hp:Slc 2 RPj w C f t.place.proj) (hk:t.kind=5) (hfd:fieldsT t=false):
 Calls Tryz.prog 62 #[.agg (bdC b bh).toArray,.agg (tmC t A c B d C f).toArray] w fun e' w'=>e' = .returned (.int .i64 (tmE b t))/\Below w.heap.size w w':=by
 have HZ:=aF (fun W=>dQ t.place C f W);have HF:Hid (tmE b t=2):=aF (by rw [tmE,aZ (by omega),bA hfd]);generalize tmE b t=R at HF ⊢;have hfd2:=hfd;unfold fieldsT at hfd2;rw [hk] at hfd2;simp only [reduceIte,Int.reduceEq] at hfd2;obtain ⟨n,hn⟩:∃n,t.targets.length=n:=⟨_,rfl⟩;obtain ⟨m,hm⟩:∃m,t.args.length=m:=⟨_,rfl⟩;obtain ⟨z,hzz⟩:∃z,zeroP t.place=z:=⟨_,rfl⟩;have hmb:m<=9223372036854775807:=by have h1:=hl.le;have h2:=hl.big;omega
 have hnb:n<=9223372036854775807:=by have h1:=ht.le;have h2:=ht.big;omega
 obtain ⟨u,hu⟩:∃u,decide (t.name.size=0)=u:=⟨_,rfl⟩;have hne:=eG t.name;rw [hu] at hne;try rw [hu] at hfd2
 rw [hn] at hfd2;try rw [hm] at hfd2
 try rw [hzz] at hfd2
 rw [hzz] at HZ;clear _H ht hl _hp hfd hzz;unfold bdC tmC;rw [hk,hn,hm];clear hk hn hm;by_cases hn:n=0
 case neg=>
  have e1:((n:Int) != 0)=true:=by simp;omega
  clear hfd2 hne HZ hu;go_enter Tryz.func62,Tryz.ntmps62
  go_wp2_with fail
  go_quiet (fail)
  all_goals go_wp2_with fail
  all_goals first
   | (exfalso;omega)
   | (go_ret;exact ⟨by rw [HF.out];rfl,by first | exact aG aH _ | exact aH⟩)
 subst hn;cases u
 case false=>
  clear hfd2 HZ hu;go_enter Tryz.func62,Tryz.ntmps62
  go_wp2_with fail
  go_quiet (fail)
  all_goals go_wp2_with fail
  all_goals first
   | (exfalso;omega)
   | (go_ret;exact ⟨by rw [HF.out];rfl,by first | exact aG aH _ | exact aH⟩)
 have hnm:t.name={ data:= #[] }:=by
  have h:=of_decide_eq_true hu;cases hh:t.name with
  | mk dd=>
    rw [hh] at h;exact congrArg ByteArray.mk (Array.eq_empty_of_size_eq_zero (show dd.size=0 from h))
 rw [hnm];clear hu hne hnm;cases z
 case false=>
  clear hfd2;go_enter Tryz.func62,Tryz.ntmps62
  go_wp2_with fail
  have hS:=gD w (bdC b bh) (tmL 5 0 A c B m d t C f { data:= #[] }) arT 28 53 148;refine cT (S:=fun X=>aD w (bdC b bh) (tmL 5 0 A c B m d t C f { data:= #[] }) arT X) [0,1,2,3,4,5,6,7,8,9,10,11,12,13,14,15,16,17,18,19,20,21,22,23,24,25,26,27,28,29,30,31,32,33,34,35,36,37,38,39,40,41,42,43,44,45,46,47,48,49,50,51,52,53,54,55,56,57] (by kernel_rfl) ?_;(iterate 28 (refine cR (v:=?_) ?_ hS ?_;rotate_left;(next=>(rintro X ⟨hX,hY,hA,hZ⟩;obtain ⟨s0,s1,s2,s3,s4,s5⟩:=aR hY;have a0:=hA 5 _ rfl;(try simp only [aI]);go_simp;rfl));simp only [aM]));(refine cY (fun K1 hK1=>?_);simp only [aM];rw [bA (by rfl)];go_simp);refine (HZ.out _).mono ?_;rintro e' w1 ⟨rfl,hb⟩;replace hS:=bJ (cP hS.1 hb) (bJ (cP hS.2.1 hb) (bJ (cP hS.2.2.1 hb) (hS.2.2.2.trans (hb.mono hS.2.2.2.size))));have HS2:=aF hS;clear hb;refine hK1.out _ _ (fun _=>hS) ?_;clear hK1;(iterate 4 (refine cR (v:=?_) ?_ hS ?_;rotate_left;(next=>(rintro X ⟨hX,hY,hA,hZ⟩;obtain ⟨s0,s1,s2,s3,s4,s5⟩:=aR hY;have a0:=hA 5 _ rfl;(try simp only [aI]);go_simp;rfl));simp only [aM]));(iterate 9 (refine dA (v:=undef) (by kernel_rfl) (fun _ _ _ h=>h) (Or.inr ⟨by rfl,rfl⟩) hS ?_;simp only [aM]));(iterate 2 (refine cR (v:=?_) ?_ hS ?_;rotate_left;(next=>(rintro X ⟨hX,hY,hA,hZ⟩;obtain ⟨s0,s1,s2,s3,s4,s5⟩:=aR hY;have a0:=hA 5 _ rfl;(try simp only [aI]);go_simp;rfl));simp only [aM]));(iterate 13 (refine dA (v:=undef) (by kernel_rfl) (fun _ _ _ h=>h) (Or.inr ⟨by rfl,rfl⟩) hS ?_;simp only [aM]));((refine cR (v:=?_) ?_ hS ?_;rotate_left;(next=>(rintro X ⟨hX,hY,hA,hZ⟩;obtain ⟨s0,s1,s2,s3,s4,s5⟩:=aR hY;have a0:=hA 5 _ rfl;(try simp only [aI]);go_simp;rfl));simp only [aM]))
  refine cZ ?_;clear hS;go_wp2_with fail
  all_goals first
   | (exfalso;omega)
   | (go_ret;exact ⟨by rw [HF.out];rfl,HS2.out.2.2.2⟩)
 have hm0:0<m:=by simp at hfd2;omega
 have e3:decide (0<(m:Int))=true:=by simp;omega
 clear hfd2;go_enter Tryz.func62,Tryz.ntmps62
 go_wp2_with fail
 have hS:=gD w (bdC b bh) (tmL 5 0 A c B m d t C f { data:= #[] }) arT 28 53 148;refine cT (S:=fun X=>aD w (bdC b bh) (tmL 5 0 A c B m d t C f { data:= #[] }) arT X) [0,1,2,3,4,5,6,7,8,9,10,11,12,13,14,15,16,17,18,19,20,21,22,23,24,25,26,27,28,29,30,31,32,33,34,35,36,37,38,39,40,41,42,43,44,45,46,47,48,49,50,51,52,53,54,55,56,57] (by kernel_rfl) ?_;(iterate 28 (refine cR (v:=?_) ?_ hS ?_;rotate_left;(next=>(rintro X ⟨hX,hY,hA,hZ⟩;obtain ⟨s0,s1,s2,s3,s4,s5⟩:=aR hY;have a0:=hA 5 _ rfl;(try simp only [aI]);go_simp;rfl));simp only [aM]));(refine cY (fun K1 hK1=>?_);simp only [aM];rw [bA (by rfl)];go_simp);refine (HZ.out _).mono ?_;rintro e' w1 ⟨rfl,hb⟩;replace hS:=bJ (cP hS.1 hb) (bJ (cP hS.2.1 hb) (bJ (cP hS.2.2.1 hb) (hS.2.2.2.trans (hb.mono hS.2.2.2.size))));have HS2:=aF hS;clear hb;refine hK1.out _ _ (fun _=>hS) ?_;clear hK1;(iterate 8 (refine cR (v:=?_) ?_ hS ?_;rotate_left;(next=>(rintro X ⟨hX,hY,hA,hZ⟩;obtain ⟨s0,s1,s2,s3,s4,s5⟩:=aR hY;have a0:=hA 5 _ rfl;(try simp only [aI]);go_simp;rfl));simp only [aM]));(iterate 4 (refine dA (v:=undef) (by kernel_rfl) (fun _ _ _ h=>h) (Or.inr ⟨by rfl,rfl⟩) hS ?_;simp only [aM]));(iterate 17 (refine cR (v:=?_) ?_ hS ?_;rotate_left;(next=>(rintro X ⟨hX,hY,hA,hZ⟩;obtain ⟨s0,s1,s2,s3,s4,s5⟩:=aR hY;have a0:=hA 5 _ rfl;(try simp only [aI]);go_simp;rfl));simp only [aM]));refine cZ ?_;clear hS;go_wp2_with fail
 all_goals first
  | (exfalso;omega)
  | (go_ret;exact ⟨by rw [HF.out];rfl,HS2.out.2.2.2⟩)
theorem oP {b:Bdy} {bh:BH} {w:World} (H:Rk w b bh) (t:Trm) (A B C:Option Addr) (c d f:Nat) (ht:Slc 1 RInt w A c t.targets) (hl:Slc 4 ROp w B d t.args) (_hp:Slc 2 RPj w C f t.place.proj) (hk:t.kind=5) (hfd:fieldsT t=true):
 Calls Tryz.prog 62 #[.agg (bdC b bh).toArray,.agg (tmC t A c B d C f).toArray] w fun e' w'=>e' = .returned (.int .i64 (tmE b t))/\Below w.heap.size w w':=by
 have HZ:=aF (fun W=>dQ t.place C f W);have HOP:=aF (fun W (hb:Below w.heap.size w W) (o:Opd) (A:Option Addr) (c:Nat) (hp:Slc 2 RPj w A c o.place.proj)=>dK (H.keep hb) o A c (hp.keep RPj.keeps hb));have hfd2:=hfd;unfold fieldsT at hfd2;rw [hk] at hfd2;simp only [reduceIte,Int.reduceEq,bP,decide_eq_true_eq] at hfd2;obtain ⟨⟨⟨hn,hm⟩,hzz⟩,hnm0⟩:=hfd2;obtain ⟨Q,hQ⟩:∃Q,(if opsE b t.args []≠0 then opsE b t.args [] else 0)=Q:=⟨_,rfl⟩;have HQ:=aF hQ
 have HF:Hid (tmE b t=if (t.targets.drop 0).all (fun k=>decide (0<=k/\k<(b.blocks.length:Int)))=true then Q else 3):=aF (by
  rw [bW,tmE,aZ (by omega),aZ (by rw [hfd];simp),<- hQ];cases t.targets.all (fun k=>decide (0<=k/\k<(b.blocks.length:Int)))
  ·simp
  ·rw [bU hm,dJ]
   simp [hk])
 generalize tmE b t=R at HF ⊢;have hblkl:=H.at_.blk.le;have hblkb:=H.at_.blk.big;have hle2:=ht.le;have hbig2:=ht.big;have hle:=hl.le;have hbig:=hl.big;have HTG:=aF ht;have HL:=aF hl
 have hnm:t.name={ data:= #[] }:=by
  have h:=hnm0;cases hh:t.name with
  | mk dd=>
    rw [hh] at h;exact congrArg ByteArray.mk (Array.eq_empty_of_size_eq_zero (show dd.size=0 from h))
 rw [hzz] at HZ;obtain ⟨m,hmm⟩:∃m,t.args.length=m:=⟨_,rfl⟩;have HN:=aF hmm;clear hQ H ht hl _hp hfd hnm0;unfold bdC at *;unfold tmC;rw [hk,hn,hmm,hnm];rw [hmm] at hle;obtain rfl:m=0:=by omega
 have HTN:=aF hn;clear hn hk hmm hnm hm;clear hzz;go_enter Tryz.func62,Tryz.ntmps62
 go_wp2_with fail
 have hS:=gD w (bdC b bh) (tmL 5 0 A c B 0 d t C f { data:= #[] }) arT 28 53 148;refine cT (S:=fun X=>aD w (bdC b bh) (tmL 5 0 A c B 0 d t C f { data:= #[] }) arT X) [0,1,2,3,4,5,6,7,8,9,10,11,12,13,14,15,16,17,18,19,20,21,22,23,24,25,26,27,28,29,30,31,32,33,34,35,36,37,38,39,40,41,42,43,44,45,46,47,48,49,50,51,52,53,54,55,56,57] (by kernel_rfl) ?_;(iterate 28 (refine cR (v:=?_) ?_ hS ?_;rotate_left;(next=>(rintro X ⟨hX,hY,hA,hZ⟩;obtain ⟨s0,s1,s2,s3,s4,s5⟩:=aR hY;have a0:=hA 5 _ rfl;(try simp only [aI]);go_simp;rfl));simp only [aM]));(refine cY (fun K1 hK1=>?_);simp only [aM];rw [bA (by rfl)];go_simp);refine (HZ.out _).mono ?_;rintro e' w1 ⟨rfl,hb⟩;replace hS:=bJ (cP hS.1 hb) (bJ (cP hS.2.1 hb) (bJ (cP hS.2.2.1 hb) (hS.2.2.2.trans (hb.mono hS.2.2.2.size))));have HS2:=aF hS;clear hb;refine hK1.out _ _ (fun _=>hS) ?_;clear hK1;(iterate 8 (refine cR (v:=?_) ?_ hS ?_;rotate_left;(next=>(rintro X ⟨hX,hY,hA,hZ⟩;obtain ⟨s0,s1,s2,s3,s4,s5⟩:=aR hY;have a0:=hA 5 _ rfl;(try simp only [aI]);go_simp;rfl));simp only [aM]));(iterate 4 (refine dA (v:=undef) (by kernel_rfl) (fun _ _ _ h=>h) (Or.inr ⟨by rfl,rfl⟩) hS ?_;simp only [aM]));(iterate 17 (refine cR (v:=?_) ?_ hS ?_;rotate_left;(next=>(rintro X ⟨hX,hY,hA,hZ⟩;obtain ⟨s0,s1,s2,s3,s4,s5⟩:=aR hY;have a0:=hA 5 _ rfl;(try simp only [aI]);go_simp;rfl));simp only [aM]));refine cZ ?_;clear hS;go_wp2_with fail
 have HY:=aF HS2.out.1;have HZZ:=aF HS2.out.2.1;have HB:=aF HS2.out.2.2.2;clear HS2;go_loopw [7] (fun v wr=>∃k:Nat,k<=0/\v = .int .i64 k/\Hid (aA (bdC b bh) wr w.heap.size)/\Hid (aA (tmL 5 0 A c B 0 d t C f { data:= #[] }) wr (w.heap.size+1))/\Hid (Below w.heap.size w wr)/\Hid (R=if (t.targets.drop k).all (fun k=>decide (0<=k/\k<(b.blocks.length:Int)))=true then Q else 3)) (fun v _=>0 - (intOf v).toNat)
 case atStart=>exact ⟨0,by omega,rfl,HY,HZZ,HB,HF⟩
 case round=>
  clear HY HZZ HB HF;obtain ⟨k,hk2,rfl,HY,HZ,HB,hr⟩:=hrel;obtain ⟨y0,y1,y2,y3,y4,y5,y6⟩:=aS HY.out;obtain ⟨z0,z1,z2,z3,z4,z5⟩:=aR HZ.out;by_cases hlt:k<0
  next=>exact absurd hlt (by omega)
  next=>
   have HR:Hid (R=Q):=aF (by rw [hr.out,bE (by rw [HTN.out];omega)];rfl);clear hr;have HOPS:Hid (R=if opsE b t.args []≠0 then opsE b t.args [] else 0):=aF (by rw [HR.out,<- HQ.out]);clear HR HQ;go_wp2_with fail
   clear hlt hk2;go_loopw [8] (fun v wr=>∃j:Nat,j<=0/\v = .int .i64 j/\Hid (aA (bdC b bh) wr w.heap.size)/\Hid (aA (tmL 5 0 A c B 0 d t C f { data:= #[] }) wr (w.heap.size+1))/\Hid (Below w.heap.size w wr)/\Hid (opsE b t.args []=opsE b (t.args.drop j) [])) (fun v _=>0 - (intOf v).toNat)
   case atStart=>exact ⟨0,by omega,rfl,aF HY.out,aF HZ.out,HB,aF rfl⟩
   case round=>
    clear HY HZ HB y0 y1 y2 y3 y4 y5 y6 z0 z1 z2 z3 z4 z5;obtain ⟨j,hj,rfl,HY,HZ,HB,hr⟩:=hrel;obtain ⟨y0,y1,y2,y3,y4,y5,y6⟩:=aS HY.out;obtain ⟨z0,z1,z2,z3,z4,z5⟩:=aR HZ.out;by_cases hlt:j<0
    next=>exact absurd hlt (by omega)
    next=>
     have hz0:opsE b t.args []=0:=(by rw [hr.out,bE (by rw [HN.out];omega),dJ]);have HQ2:Hid (R=0):=aF (by rw [HOPS.out,aZ (by simp [hz0])]);clear hr hz0;go_wp2_with fail
     go_quiet (fail)
     all_goals go_wp2_with fail
     go_ret;exact ⟨by rw [HQ2.out];rfl,aG HB.out _⟩
theorem sZ {b:Bdy} {bh:BH} {w:World} (t:Trm) (A B C:Option Addr) (c d f:Nat) (h0:t.kind<0\/5<t.kind):
 Calls Tryz.prog 62 #[.agg (bdC b bh).toArray,.agg (tmC t A c B d C f).toArray] w fun e' w'=>e' = .returned (.int .i64 (tmE b t))/\Below w.heap.size w w':=by
 have HF:Hid (tmE b t=14):=aF (by rw [tmE,bA h0]);generalize tmE b t=R at HF ⊢;unfold bdC tmC;go_enter Tryz.func62,Tryz.ntmps62
 go_wp2_with fail
 all_goals first
  | (exfalso;omega)
  | (go_ret;exact ⟨by rw [HF.out];rfl,aH⟩)
theorem vN {b:Bdy} {bh:BH} {w:World} (H:Rk w b bh) (t:Trm) (A B C:Option Addr) (c d f:Nat) (ht:Slc 1 RInt w A c t.targets) (hl:Slc 4 ROp w B d t.args) (hp:Slc 2 RPj w C f t.place.proj) (hz:t.name.size<=9223372036854775807):
 Calls Tryz.prog 62 #[.agg (bdC b bh).toArray,.agg (tmC t A c B d C f).toArray] w fun e' w'=>e' = .returned (.int .i64 (tmE b t))/\Below w.heap.size w w':=by
 by_cases h0:t.kind<0\/5<t.kind
 ·exact sZ t A B C c d f h0
 obtain ⟨q,hq⟩:∃q,fieldsT t=q:=⟨_,rfl⟩;rcases (show t.kind=0\/t.kind=1\/t.kind=2\/t.kind=3\/t.kind=4\/t.kind=5 by omega) with h | h | h | h | h | h
 all_goals cases q
 ·exact tF H t A B C c d f ht hl hp h hq
 ·exact oV H t A B C c d f ht hl hp h hq
 ·exact tE H t A B C c d f ht hl hp h hq
 ·exact oU H t A B C c d f ht hl hp h hq
 ·exact tD H t A B C c d f ht hl hp h hq
 ·exact oS H t A B C c d f ht hl hp h hq
 ·exact tC H t A B C c d f ht hl hp h hq
 ·exact oR H t A B C c d f ht hl hp h hq hz
 ·exact tB H t A B C c d f ht hl hp h hq
 ·exact oQ H t A B C c d f ht hl hp h hq
 ·exact tA H t A B C c d f ht hl hp h hq
 ·exact oP H t A B C c d f ht hl hp h hq
end
end Go.Proofs.YtcfchohkmkilpaaGreatDoor
