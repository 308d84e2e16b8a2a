/-
  Parts of the proof: V67B5 V67G5 V67 V71 Z2.
-/
import Derived.Test.YtbnljlpefpllcaaGreatDoorME0
import Derived.Test.YtbnljlpefpllcaaGreatDoorME22
import Derived.Test.YtbnljlpefpllcaaGreatDoorME13
import Derived.Test.YtbnljlpefpllcaaGreatDoorME17
import Derived.Test.YtbnljlpefpllcaaGreatDoorME5
import Derived.Test.YtbnljlpefpllcaaGreatDoorME23
import Derived.Test.YtbnljlpefpllcaaGreatDoorME20
import Derived.Test.YtbnljlpefpllcaaGreatDoorME15
import Derived.Test.YtbnljlpefpllcaaGreatDoorME4
import Derived.Test.YtbnljlpefpllcaaGreatDoorME16
import Derived.Test.YtbnljlpefpllcaaGreatDoorSg
namespace Go.Proofs.YtbnljlpefpllcaaGreatDoor
set_option maxRecDepth 100000
set_option maxHeartbeats 16000000
section
open Go Go.RowKit Go.Maps
theorem vB {b:Bdy} {bh:BH} {w:World} (_H:Rk w b bh) (t:Trm) (A B C:Option Addr) (c d f:Nat) (ht:Slc 1 RInt w A c t.targets) (hl:Slc 4 ROp w B d t.args) (_hp:Slc 2 RPj w C f t.place.proj) (hk:t.kind=5) (hfd:fieldsT t=false):
 Calls Tryz.prog 63 #[.agg (bdC b bh).toArray,.agg (tmC t A c B d C f).toArray] w fun e' w'=>e' = .returned (.int .i64 (tmE b t))∧Below w.heap.size w w':=by
 have HZ:=aF (fun W=>dS t.place C f W)
 have HF:Hid (tmE b t=2):=aF (by rw [tmE,aX (by omega),aY hfd])
 generalize tmE b t=R at HF ⊢
 have hfd2:=hfd
 unfold fieldsT at hfd2
 rw [hk] at hfd2
 simp only [reduceIte,Int.reduceEq] at hfd2
 obtain ⟨n,hn⟩:∃n,t.targets.length=n:=⟨_,rfl⟩
 obtain ⟨m,hm⟩:∃m,t.args.length=m:=⟨_,rfl⟩
 obtain ⟨z,hzz⟩:∃z,zeroP t.place=z:=⟨_,rfl⟩
 have hmb:m≤9223372036854775807:=by have h1:=hl.le;have h2:=hl.big;omega
 have hnb:n≤9223372036854775807:=by have h1:=ht.le;have h2:=ht.big;omega
 obtain ⟨u,hu⟩:∃u,decide (t.name.size=0)=u:=⟨_,rfl⟩
 have hne:=eN t.name
 rw [hu] at hne
 try rw [hu] at hfd2
 rw [hn] at hfd2
 try rw [hm] at hfd2
 try rw [hzz] at hfd2
 rw [hzz] at HZ
 clear _H ht hl _hp hfd hzz
 unfold bdC tmC
 rw [hk,hn,hm]
 clear hk hn hm
 by_cases hn:n=0
 case neg=>
  have e1:((n:Int) != 0)=true:=by simp;omega
  clear hfd2 hne HZ hu
  go_enter Tryz.func63,Tryz.ntmps63
  go_wp2_with fail
  go_quiet (fail)
  all_goals go_wp2_with fail
  all_goals first
   | (exfalso;omega)
   | (go_ret;exact ⟨by rw [HF.out];rfl,by first | exact bA aG _ | exact aG⟩)
 subst hn
 cases u
 case false=>
  clear hfd2 HZ hu
  go_enter Tryz.func63,Tryz.ntmps63
  go_wp2_with fail
  go_quiet (fail)
  all_goals go_wp2_with fail
  all_goals first
   | (exfalso;omega)
   | (go_ret;exact ⟨by rw [HF.out];rfl,by first | exact bA aG _ | exact aG⟩)
 have hnm:t.name={ data:= #[] }:=by
  have h:=of_decide_eq_true hu
  cases hh:t.name with
  | mk dd=>
    rw [hh] at h
    exact congrArg ByteArray.mk (Array.eq_empty_of_size_eq_zero (show dd.size=0 from h))
 rw [hnm]
 clear hu hne hnm
 cases z
 case false=>
  clear hfd2
  go_enter Tryz.func63,Tryz.ntmps63
  go_wp2_with fail
  have hS:=gL w (bdC b bh) (tmL 5 0 A c B m d t C f { data:= #[] }) arT 28 57 172
  refine cP (S:=fun X=>aD w (bdC b bh) (tmL 5 0 A c B m d t C f { data:= #[] }) arT X) [0,1,2,3,4,5,6,7,8,9,10,11,12,13,14,15,16,17,18,19,20,21,22,23,24,25,26,27,28,29,30,31,32,33,34,35,36,37,38,39,40,41,42,43,44,45,46,47,48,49,50,51,52,53,54,55,56,57] (by kernel_rfl) ?_
  (iterate 28 (refine cQ (v:=?_) ?_ hS ?_;rotate_left;(next=>(rintro X ⟨hX,hY,hA,hZ⟩;obtain ⟨s0,s1,s2,s3,s4,s5⟩:=aP hY;have a0:=hA 5 _ rfl;(try simp only [aH]);go_simp;rfl));simp only [aH,Act.put,aJ]))
  (refine cS (by kernel_rfl) (fun K1 hK1=>?_);simp only [aH,Act.put,aJ];rw [aY (by rfl)];go_simp)
  refine (HZ.out _).mono ?_
  rintro e' w1 ⟨rfl,hb⟩
  replace hS:=bI (cells_kept hS.1 hb) (bI (cells_kept hS.2.1 hb) (bI (cells_kept hS.2.2.1 hb) (hS.2.2.2.trans (hb.mono hS.2.2.2.size))))
  have HS2:=aF hS
  clear hb
  refine hK1.out _ _ (fun _=>hS) ?_
  clear hK1
  (iterate 4 (refine cQ (v:=?_) ?_ hS ?_;rotate_left;(next=>(rintro X ⟨hX,hY,hA,hZ⟩;obtain ⟨s0,s1,s2,s3,s4,s5⟩:=aP hY;have a0:=hA 5 _ rfl;(try simp only [aH]);go_simp;rfl));simp only [aH,Act.put,aJ]))
  (iterate 9 (refine dA (v:=undef) (by kernel_rfl) (fun _ _ _ h=>h) (Or.inr ⟨by rfl,rfl⟩) hS ?_;simp only [aH,Act.put,aJ]))
  (iterate 2 (refine cQ (v:=?_) ?_ hS ?_;rotate_left;(next=>(rintro X ⟨hX,hY,hA,hZ⟩;obtain ⟨s0,s1,s2,s3,s4,s5⟩:=aP hY;have a0:=hA 5 _ rfl;(try simp only [aH]);go_simp;rfl));simp only [aH,Act.put,aJ]))
  (iterate 13 (refine dA (v:=undef) (by kernel_rfl) (fun _ _ _ h=>h) (Or.inr ⟨by rfl,rfl⟩) hS ?_;simp only [aH,Act.put,aJ]))
  (iterate 1 (refine cQ (v:=?_) ?_ hS ?_;rotate_left;(next=>(rintro X ⟨hX,hY,hA,hZ⟩;obtain ⟨s0,s1,s2,s3,s4,s5⟩:=aP hY;have a0:=hA 5 _ rfl;(try simp only [aH]);go_simp;rfl));simp only [aH,Act.put,aJ]))
  refine cV (by kernel_rfl) ?_
  clear hS
  go_wp2_with fail
  all_goals first
   | (exfalso;omega)
   | (go_ret;exact ⟨by rw [HF.out];rfl,HS2.out.2.2.2⟩)
 have hm0:0<m:=by simp at hfd2;omega
 have e3:decide (0<(m:Int))=true:=by simp;omega
 clear hfd2
 go_enter Tryz.func63,Tryz.ntmps63
 go_wp2_with fail
 have hS:=gL w (bdC b bh) (tmL 5 0 A c B m d t C f { data:= #[] }) arT 28 57 172
 refine cP (S:=fun X=>aD w (bdC b bh) (tmL 5 0 A c B m d t C f { data:= #[] }) arT X) [0,1,2,3,4,5,6,7,8,9,10,11,12,13,14,15,16,17,18,19,20,21,22,23,24,25,26,27,28,29,30,31,32,33,34,35,36,37,38,39,40,41,42,43,44,45,46,47,48,49,50,51,52,53,54,55,56,57] (by kernel_rfl) ?_
 (iterate 28 (refine cQ (v:=?_) ?_ hS ?_;rotate_left;(next=>(rintro X ⟨hX,hY,hA,hZ⟩;obtain ⟨s0,s1,s2,s3,s4,s5⟩:=aP hY;have a0:=hA 5 _ rfl;(try simp only [aH]);go_simp;rfl));simp only [aH,Act.put,aJ]))
 (refine cS (by kernel_rfl) (fun K1 hK1=>?_);simp only [aH,Act.put,aJ];rw [aY (by rfl)];go_simp)
 refine (HZ.out _).mono ?_
 rintro e' w1 ⟨rfl,hb⟩
 replace hS:=bI (cells_kept hS.1 hb) (bI (cells_kept hS.2.1 hb) (bI (cells_kept hS.2.2.1 hb) (hS.2.2.2.trans (hb.mono hS.2.2.2.size))))
 have HS2:=aF hS
 clear hb
 refine hK1.out _ _ (fun _=>hS) ?_
 clear hK1
 (iterate 8 (refine cQ (v:=?_) ?_ hS ?_;rotate_left;(next=>(rintro X ⟨hX,hY,hA,hZ⟩;obtain ⟨s0,s1,s2,s3,s4,s5⟩:=aP hY;have a0:=hA 5 _ rfl;(try simp only [aH]);go_simp;rfl));simp only [aH,Act.put,aJ]))
 (iterate 4 (refine dA (v:=undef) (by kernel_rfl) (fun _ _ _ h=>h) (Or.inr ⟨by rfl,rfl⟩) hS ?_;simp only [aH,Act.put,aJ]))
 (iterate 17 (refine cQ (v:=?_) ?_ hS ?_;rotate_left;(next=>(rintro X ⟨hX,hY,hA,hZ⟩;obtain ⟨s0,s1,s2,s3,s4,s5⟩:=aP hY;have a0:=hA 5 _ rfl;(try simp only [aH]);go_simp;rfl));simp only [aH,Act.put,aJ]))
 refine cV (by kernel_rfl) ?_
 clear hS
 go_wp2_with fail
 all_goals first
  | (exfalso;omega)
  | (go_ret;exact ⟨by rw [HF.out];rfl,HS2.out.2.2.2⟩)
theorem rM {b:Bdy} {bh:BH} {w:World} (H:Rk w b bh) (t:Trm) (A B C:Option Addr) (c d f:Nat) (ht:Slc 1 RInt w A c t.targets) (hl:Slc 4 ROp w B d t.args) (_hp:Slc 2 RPj w C f t.place.proj) (hk:t.kind=5) (hfd:fieldsT t=true):
 Calls Tryz.prog 63 #[.agg (bdC b bh).toArray,.agg (tmC t A c B d C f).toArray] w fun e' w'=>e' = .returned (.int .i64 (tmE b t))∧Below w.heap.size w w':=by
 have HZ:=aF (fun W=>dS t.place C f W)
 have HOP:=aF (fun W (hb:Below w.heap.size w W) (o:Opd) (A:Option Addr) (c:Nat) (hp:Slc 2 RPj w A c o.place.proj)=>dJ (H.keep hb) o A c (hp.keep RPj.keeps hb))
 have hfd2:=hfd
 unfold fieldsT at hfd2
 rw [hk] at hfd2
 simp only [reduceIte,Int.reduceEq,bP,decide_eq_true_eq] at hfd2
 obtain ⟨⟨⟨hn,hm⟩,hzz⟩,hnm0⟩:=hfd2
 obtain ⟨Q,hQ⟩:∃Q,(if opsE b t.args []≠0 then opsE b t.args [] else 0)=Q:=⟨_,rfl⟩
 have HQ:=aF hQ
 have HF:Hid (tmE b t=if (t.targets.drop 0).all (fun k=>decide (0≤k∧k<(b.blocks.length:Int)))=true then Q else 3):=aF (by
  rw [bW,tmE,aX (by omega),aX (by rw [hfd];simp),← hQ]
  cases t.targets.all (fun k=>decide (0≤k∧k<(b.blocks.length:Int)))
  ·simp
  ·rw [bU hm,dH]
   simp [hk])
 generalize tmE b t=R at HF ⊢
 have hblkl:=H.at_.blk.le
 have hblkb:=H.at_.blk.big
 have hle2:=ht.le
 have hbig2:=ht.big
 have hle:=hl.le
 have hbig:=hl.big
 have HTG:=aF ht
 have HL:=aF hl
 have hnm:t.name={ data:= #[] }:=by
  have h:=hnm0
  cases hh:t.name with
  | mk dd=>
    rw [hh] at h
    exact congrArg ByteArray.mk (Array.eq_empty_of_size_eq_zero (show dd.size=0 from h))
 rw [hzz] at HZ
 obtain ⟨m,hmm⟩:∃m,t.args.length=m:=⟨_,rfl⟩
 have HN:=aF hmm
 clear hQ H ht hl _hp hfd hnm0
 unfold bdC at *
 unfold tmC
 rw [hk,hn,hmm,hnm]
 rw [hmm] at hle
 obtain rfl:m=0:=by omega
 have HTN:=aF hn
 clear hn hk hmm hnm hm
 clear hzz
 go_enter Tryz.func63,Tryz.ntmps63
 go_wp2_with fail
 have hS:=gL w (bdC b bh) (tmL 5 0 A c B 0 d t C f { data:= #[] }) arT 28 57 172
 refine cP (S:=fun X=>aD w (bdC b bh) (tmL 5 0 A c B 0 d t C f { data:= #[] }) arT X) [0,1,2,3,4,5,6,7,8,9,10,11,12,13,14,15,16,17,18,19,20,21,22,23,24,25,26,27,28,29,30,31,32,33,34,35,36,37,38,39,40,41,42,43,44,45,46,47,48,49,50,51,52,53,54,55,56,57] (by kernel_rfl) ?_
 (iterate 28 (refine cQ (v:=?_) ?_ hS ?_;rotate_left;(next=>(rintro X ⟨hX,hY,hA,hZ⟩;obtain ⟨s0,s1,s2,s3,s4,s5⟩:=aP hY;have a0:=hA 5 _ rfl;(try simp only [aH]);go_simp;rfl));simp only [aH,Act.put,aJ]))
 (refine cS (by kernel_rfl) (fun K1 hK1=>?_);simp only [aH,Act.put,aJ];rw [aY (by rfl)];go_simp)
 refine (HZ.out _).mono ?_
 rintro e' w1 ⟨rfl,hb⟩
 replace hS:=bI (cells_kept hS.1 hb) (bI (cells_kept hS.2.1 hb) (bI (cells_kept hS.2.2.1 hb) (hS.2.2.2.trans (hb.mono hS.2.2.2.size))))
 have HS2:=aF hS
 clear hb
 refine hK1.out _ _ (fun _=>hS) ?_
 clear hK1
 (iterate 8 (refine cQ (v:=?_) ?_ hS ?_;rotate_left;(next=>(rintro X ⟨hX,hY,hA,hZ⟩;obtain ⟨s0,s1,s2,s3,s4,s5⟩:=aP hY;have a0:=hA 5 _ rfl;(try simp only [aH]);go_simp;rfl));simp only [aH,Act.put,aJ]))
 (iterate 4 (refine dA (v:=undef) (by kernel_rfl) (fun _ _ _ h=>h) (Or.inr ⟨by rfl,rfl⟩) hS ?_;simp only [aH,Act.put,aJ]))
 (iterate 17 (refine cQ (v:=?_) ?_ hS ?_;rotate_left;(next=>(rintro X ⟨hX,hY,hA,hZ⟩;obtain ⟨s0,s1,s2,s3,s4,s5⟩:=aP hY;have a0:=hA 5 _ rfl;(try simp only [aH]);go_simp;rfl));simp only [aH,Act.put,aJ]))
 refine cV (by kernel_rfl) ?_
 clear hS
 go_wp2_with fail
 have HY:=aF HS2.out.1
 have HZZ:=aF HS2.out.2.1
 have HB:=aF HS2.out.2.2.2
 clear HS2
 go_loopw [7] (fun v wr=>∃k:Nat,k≤0∧v = .int .i64 k∧Hid (aA (bdC b bh) wr w.heap.size)∧Hid (aA (tmL 5 0 A c B 0 d t C f { data:= #[] }) wr (w.heap.size+1))∧Hid (Below w.heap.size w wr)∧Hid (R=if (t.targets.drop k).all (fun k=>decide (0≤k∧k<(b.blocks.length:Int)))=true then Q else 3)) (fun v _=>0 - (intOf v).toNat)
 case atStart=>exact ⟨0,by omega,rfl,HY,HZZ,HB,HF⟩
 case round=>
  clear HY HZZ HB HF
  obtain ⟨k,hk2,rfl,HY,HZ,HB,hr⟩:=hrel
  obtain ⟨y0,y1,y2,y3,y4,y5,y6⟩:=aQ HY.out
  obtain ⟨z0,z1,z2,z3,z4,z5⟩:=aP HZ.out
  by_cases hlt:k<0
  next=>exact absurd hlt (by omega)
  next=>
   have HR:Hid (R=Q):=aF (by rw [hr.out,bD (by rw [HTN.out];omega)];rfl)
   clear hr
   have HOPS:Hid (R=if opsE b t.args []≠0 then opsE b t.args [] else 0):=aF (by rw [HR.out,← HQ.out])
   clear HR HQ
   go_wp2_with fail
   clear hlt hk2
   go_loopw [8] (fun v wr=>∃j:Nat,j≤0∧v = .int .i64 j∧Hid (aA (bdC b bh) wr w.heap.size)∧Hid (aA (tmL 5 0 A c B 0 d t C f { data:= #[] }) wr (w.heap.size+1))∧Hid (Below w.heap.size w wr)∧Hid (opsE b t.args []=opsE b (t.args.drop j) [])) (fun v _=>0 - (intOf v).toNat)
   case atStart=>exact ⟨0,by omega,rfl,aF HY.out,aF HZ.out,HB,aF rfl⟩
   case round=>
    clear HY HZ HB y0 y1 y2 y3 y4 y5 y6 z0 z1 z2 z3 z4 z5
    obtain ⟨j,hj,rfl,HY,HZ,HB,hr⟩:=hrel
    obtain ⟨y0,y1,y2,y3,y4,y5,y6⟩:=aQ HY.out
    obtain ⟨z0,z1,z2,z3,z4,z5⟩:=aP HZ.out
    by_cases hlt:j<0
    next=>exact absurd hlt (by omega)
    next=>
     have hz0:opsE b t.args []=0:=by rw [hr.out,bD (by rw [HN.out];omega),dH]
     have HQ2:Hid (R=0):=aF (by rw [HOPS.out,aX (by simp [hz0])])
     clear hr hz0
     go_wp2_with fail
     go_quiet (fail)
     all_goals go_wp2_with fail
     go_ret
     exact ⟨by rw [HQ2.out];rfl,bA HB.out _⟩
theorem vA {b:Bdy} {bh:BH} {w:World} (t:Trm) (A B C:Option Addr) (c d f:Nat) (h0:t.kind<0∨5<t.kind):
 Calls Tryz.prog 63 #[.agg (bdC b bh).toArray,.agg (tmC t A c B d C f).toArray] w fun e' w'=>e' = .returned (.int .i64 (tmE b t))∧Below w.heap.size w w':=by
 have HF:Hid (tmE b t=14):=aF (by rw [tmE,aY h0])
 generalize tmE b t=R at HF ⊢
 unfold bdC tmC
 go_enter Tryz.func63,Tryz.ntmps63
 go_wp2_with fail
 all_goals first
  | (exfalso;omega)
  | (go_ret;exact ⟨by rw [HF.out];rfl,aG⟩)
theorem xV {b:Bdy} {bh:BH} {w:World} (H:Rk w b bh) (t:Trm) (A B C:Option Addr) (c d f:Nat) (ht:Slc 1 RInt w A c t.targets) (hl:Slc 4 ROp w B d t.args) (hp:Slc 2 RPj w C f t.place.proj) (hz:t.name.size≤9223372036854775807):
 Calls Tryz.prog 63 #[.agg (bdC b bh).toArray,.agg (tmC t A c B d C f).toArray] w fun e' w'=>e' = .returned (.int .i64 (tmE b t))∧Below w.heap.size w w':=by
 by_cases h0:t.kind<0∨5<t.kind
 ·exact vA t A B C c d f h0
 obtain ⟨q,hq⟩:∃q,fieldsT t=q:=⟨_,rfl⟩
 rcases (show t.kind=0∨t.kind=1∨t.kind=2∨t.kind=3∨t.kind=4∨t.kind=5 by omega) with h | h | h | h | h | h
 all_goals cases q
 ·exact vG H t A B C c d f ht hl hp h hq
 ·exact rR H t A B C c d f ht hl hp h hq
 ·exact vF H t A B C c d f ht hl hp h hq
 ·exact rQ H t A B C c d f ht hl hp h hq
 ·exact vE H t A B C c d f ht hl hp h hq
 ·exact rP H t A B C c d f ht hl hp h hq
 ·exact vD H t A B C c d f ht hl hp h hq
 ·exact rO H t A B C c d f ht hl hp h hq hz
 ·exact vC H t A B C c d f ht hl hp h hq
 ·exact rN H t A B C c d f ht hl hp h hq
 ·exact vB H t A B C c d f ht hl hp h hq
 ·exact rM H t A B C c d f ht hl hp h hq
theorem rY (b:Bdy) (bh:BH) (w:World) (H:BdAt w b bh) (hz:NmOk b):
 Calls Tryz.prog 17 #[.agg (bdC b bh).toArray] w fun e' w'=>e' = .returned (.int .i64 (chkB b))∧Below w.heap.size w w':=
 rW b bh w H hz.blks (fun W hb=>yD b bh W (H.keep hb) hz)
  (fun hd _W hb s A0 A B c0 c d h0 h1 h2=>xFK ⟨H.keep hb,dY hd⟩ s A0 A B c0 c d (h0.keep RPj.keeps hb) (h1.keep RPj.keeps hb) (h2.keep ROp.keeps hb))
  (fun hd _W hb t A B C c d f h0 h1 h2 h3=>xV ⟨H.keep hb,dY hd⟩ t A B C c d f (h0.keep RInt.keeps hb) (h1.keep ROp.keeps hb) (h2.keep RPj.keeps hb) h3)
theorem xG (ts:List Ty) (A:Option Addr) (c:Nat) (w:World) (hs:Slc 5 RTy w A c ts):
 Calls Tryz.prog 24 #[.slice A ts.length c] w fun e' w'=>(∃q,e' = .returned (.int .i64 q)∧(q≤0→ts.length≤200))∧Below w.heap.size w w':=by
 have HL:=aF (zB ts A c w hs)
 have HW:=aF (fun W (hb:Below w.heap.size w W) (hl:ts.length≤200)=>xBA ts A c W (hs.keep RTy.keeps hb) hl)
 clear hs
 obtain ⟨n,hn⟩:∃n,ts.length=n:=⟨_,rfl⟩
 rw [hn] at HL HW ⊢
 go_enter Tryz.func24,Tryz.ntmps24
 go_wp2_with (first | (go_at_call 74;refine (HW.out _ HB.out (HQ.out (by omega))).mono ?_;rintro e' w2 ⟨⟨q2,rfl⟩,hb2⟩;have HB2:=aF (HB.out.trans (hb2.mono HB.out.size));clear hb2;cases q2) | (go_at_call 73;refine HL.out.mono ?_;rintro e' w1 ⟨⟨q,rfl,hq⟩,hb⟩;have HB:=aF hb;have HQ:=aF hq;clear hb hq))
 all_goals
  go_ret
  first
   | exact ⟨⟨_,rfl,fun h=>absurd h (by omega)⟩,HB2.out⟩
   | exact ⟨⟨_,rfl,fun h=>absurd h (by omega)⟩,HB.out⟩
   | exact ⟨⟨_,rfl,fun _=>HQ.out (by omega)⟩,HB2.out⟩
structure NotSkip (b:Bdy):Prop where
 nm:ShortB b→namesZ b≤3000
 typ:b.types.length≤200
 out:b.outl.length≤200
 reg:b.regions.length≤200
 blk:b.blocks.length≤200
theorem xBV (b:Bdy) (bh:BH) (w:World) (H:BdAt w b bh) (hz:NmOk b):
 Calls Tryz.prog 9 #[.agg (bdC b bh).toArray] w fun e' w'=>(∃q:Int,e' = .returned (.int .i64 q)∧(q≤0→NotSkip b))∧Below w.heap.size w w':=by
 obtain ⟨A1,c1,A2,c2,A3,c3,A4,c4,A5,c5⟩:=bh
 have r1:=H.reg.le
 have r2:=H.reg.big
 have o1:=H.out.le
 have o2:=H.out.big
 have t1:=H.typ.le
 have t2:=H.typ.big
 have b1:=H.blk.le
 have b2:=H.blk.big
 simp only at r1 r2 o1 o2 t1 t2 b1 b2
 have HL:Hid (∀W,Below w.heap.size w W→Calls Tryz.prog 23 #[.agg #[Value.string b.name,.slice A1 b.regions.length c1,.slice A2 b.outl.length c2,.slice A3 b.types.length c3,.slice A4 b.locals.length c4,.int .i64 b.args,.slice A5 b.blocks.length c5]] W fun e' w'=>(∃q:Int,e' = .returned (.int .i64 q)∧(q≤0→ShortB b→namesZ b≤3000))∧Below W.heap.size W w'):=aF (fun W hb=>qS b ⟨A1,c1,A2,c2,A3,c3,A4,c4,A5,c5⟩ W (H.keep hb) hz)
 have HT:=aF (fun W hb=>xG b.types A3 c3 W (H.typ.keep RTy.keeps hb))
 have HK:=aF (fun W hb=>kW b.types (b.regions.length:Int) A3 c3 W (H.typ.keep RTy.keeps hb))
 have HD:=aF (fun W hb i hi h64 hok=>vL b.types i A3 c3 W (H.typ.keep RTy.keeps hb) hi h64 hok)
 have HOK:=aF (fun h=>uV (n:=(b.regions.length:Int)) (ts:=b.types) h)
 clear H
 unfold bdC
 simp only
 obtain ⟨W,hW⟩:∃W,w.alloc (.cells #[Value.string b.name,.slice A1 b.regions.length c1,.slice A2 b.outl.length c2,.slice A3 b.types.length c3,.slice A4 b.locals.length c4,.int .i64 b.args,.slice A5 b.blocks.length c5] 28)=W:=⟨_,rfl⟩
 have HC0:Hid (aA (bdM b A1 c1 A2 c2 A3 c3 A4 c4 A5 c5 []) W w.heap.size):=aF (by rw [← hW];exact cW w [Value.string b.name,.slice A1 b.regions.length c1,.slice A2 b.outl.length c2,.slice A3 b.types.length c3,.slice A4 b.locals.length c4,.int .i64 b.args,.slice A5 b.blocks.length c5] 28)
 have HB0:Hid (Below w.heap.size w W):=aF (by rw [← hW];exact alF _ _)
 have HK7:Hid (W.heap[w.heap.size]?=some (.cells #[Value.string b.name,.slice A1 b.regions.length c1,.slice A2 b.outl.length c2,.slice A3 b.types.length c3,.slice A4 b.locals.length c4,.int .i64 b.args,.slice A5 b.blocks.length c5] 28 (0,0))):=aF (by rw [← hW];exact heap_alloc_new w _)
 obtain ⟨x0,x1,x2,x3,x4,x5,x6,_⟩:=blk7 HK7.out
 change Calls _ _ #[.agg #[Value.string b.name,.slice A1 b.regions.length c1,.slice A2 b.outl.length c2,.slice A3 b.types.length c3,.slice A4 b.locals.length c4,.int .i64 b.args,.slice A5 b.blocks.length c5]] _ _
 go_enter Tryz.func9,Tryz.ntmps9
 go_wp2_with fail
 go_at_call 23
 refine (HL.out W HB0.out).mono ?_
 rintro e' w1 ⟨⟨q,rfl,hq⟩,hb⟩
 have HCC:=aF (cells_kept HC0.out hb)
 have HB:=aF (keep0 hb HB0.out)
 have HQ:=aF hq
 clear hb hq HC0 HB0 HL x0 x1 x2 x3 x4 x5 x6
 by_cases hq1:0<q
 ·go_wp2_with fail
  all_goals (go_ret;exact ⟨⟨_,rfl,fun h=>absurd h (by omega)⟩,HB.out⟩)
 have hq2:q≤0:=by omega
 have HN:=aF (HQ.out hq2)
 obtain ⟨y0,y1,y2,y3,y4,y5,y6⟩:=aQ HCC.out
 go_wp2_with fail
 go_at_call 24
 refine (HT.out w1 HB.out).mono ?_
 rintro e' w2 ⟨⟨p,rfl,hp⟩,hb⟩
 replace HCC:=aF (cells_kept HCC.out hb)
 replace HB:=aF (keep0 hb HB.out)
 have HP:=aF hp
 clear hb hp HT HQ hq1 y0 y1 y2 y3 y4 y5 y6
 by_cases hq1:0<p
 ·go_wp2_with fail
  all_goals (go_ret;exact ⟨⟨_,rfl,fun h=>absurd h (by omega)⟩,HB.out⟩)
 have hp2:p≤0:=by omega
 have HTL:=aF (HP.out hp2)
 obtain ⟨y0,y1,y2,y3,y4,y5,y6⟩:=aQ HCC.out
 by_cases g1:200<b.outl.length
 ·go_wp2_with fail
  all_goals (go_ret;exact ⟨⟨_,rfl,fun h=>absurd h (by omega)⟩,HB.out⟩)
 by_cases g2:200<b.regions.length
 ·go_wp2_with fail
  all_goals (go_ret;exact ⟨⟨_,rfl,fun h=>absurd h (by omega)⟩,HB.out⟩)
 by_cases g3:200<b.blocks.length
 ·go_wp2_with fail
  all_goals (go_ret;exact ⟨⟨_,rfl,fun h=>absurd h (by omega)⟩,HB.out⟩)
 have HNS:Hid (NotSkip b):=aF ⟨HN.out,HTL.out,by omega,by omega,by omega⟩
 go_wp2_with fail
 go_at_call 25
 refine (HK.out w2 HB.out).mono ?_
 rintro e' w3 ⟨rfl,hb⟩
 replace HCC:=aF (cells_kept HCC.out hb)
 replace HB:=aF (keep0 hb HB.out)
 clear hb y0 y1 y2 y3 y4 y5 y6
 by_cases hty:typesC (b.regions.length:Int) b.types=0
 case neg=>
  generalize typesC (b.regions.length:Int) b.types=ty at *
  go_wp2_with fail
  all_goals (go_ret;exact ⟨⟨_,rfl,fun _=>HNS.out⟩,HB.out⟩)
 rw [hty]
 have HDP:=aF (HOK.out hty)
 have HTL2:=HTL.out
 clear hty HK HOK
 obtain ⟨y0,y1,y2,y3,y4,y5,y6⟩:=aQ HCC.out
 go_wp2_with fail
 clear y0 y1 y2 y3 y4 y5 y6
 go_loopw [41] (fun i wr=>∃k:Nat,k≤b.types.length∧i = .int .i64 k∧Hid (aA (bdM b A1 c1 A2 c2 A3 c3 A4 c4 A5 c5 []) wr w.heap.size)∧Hid (Below w.heap.size w wr)) (fun i _=>b.types.length - (intOf i).toNat)
 case atStart=>exact ⟨0,by omega,rfl,HCC,HB⟩
 case round=>
  clear HCC HB
  obtain ⟨k,hk,rfl,HCC,HB⟩:=hrel
  by_cases hlt:k<b.types.length
  ·obtain ⟨y0,y1,y2,y3,y4,y5,y6⟩:=aQ HCC.out
   go_wp2_with fail
   go_at_call 26
   refine (HD.out wr HB.out k hlt (by omega) HDP.out).mono ?_
   rintro e' w4 ⟨⟨d,rfl⟩,hb⟩
   have HC4:=aF (cells_kept HCC.out hb)
   have HB4:=aF (keep0 hb HB.out)
   clear hb
   by_cases hd:8<d
   ·go_wp2_with fail
    go_ret
    exact ⟨⟨_,rfl,fun h=>absurd h (by omega)⟩,HB4.out⟩
   ·go_wp2_with fail
    go_roundw
    case rel=>exact ⟨k+1,by omega,by go_num,HC4,HB4⟩
    case measure=>simp [intOf];omega
  ·go_wp2_with fail
   go_ret
   exact ⟨⟨_,rfl,fun _=>HNS.out⟩,HB.out⟩
end
section
open Go Go.RowKit
theorem xS {α : Type} {enc : α → Value} {R:Rd α} (hR:∀(w:World) (B b o:Nat) (x : α),w.cell? ⟨b,o,none⟩=some (enc x)→R w B b o x) (W:World) (T:TypeId) (l:List α) (n:Nat) (hn:n=l.length) (hl:n≤1000000):Slc 1 R (W.alloc (.cells (l.map enc).toArray T)) (some ⟨W.heap.size,0,none⟩) n l:=by
 subst hn
 refine ⟨fun _=>⟨W.heap.size,0,rfl,by simp,fun i x hi=>hR _ _ _ _ _ ?_⟩,by simp,by omega⟩
 have hk:=heap_alloc_new W (.cells (l.map enc).toArray T)
 rw [eF hk]
 simp [hi]
theorem uN {w:World} {A:Option Addr} {c:Nat} {l:List UInt8} (h:Slc 1 RB w A c l):Lib.BytesIn w A l.length (l.map fun x=>(x.toNat:Int)):=fun hn=>by
 obtain ⟨b,o,hA,_,hx⟩:=h.sl hn
 refine ⟨b,o,hA,fun i hi=>?_⟩
 have:=hx i l[i] (bB hi)
 rw [Nat.mul_one] at this
 rw [List.getD_eq_getElem?_getD,cO,bB hi]
 exact this
theorem kA (l:List UInt8):Lib.bytesOf (l.map fun x=>(x.toNat:Int))=l:=by
 unfold Lib.bytesOf
 rw [List.map_map]
 conv=>rhs;rw [← List.map_id l]
 exact List.map_congr_left (fun x _=>by simp)
theorem lU {l m:List UInt8} {A B:Option Addr} {c d:Nat} {w:World} (h1:Slc 1 RB w A c l) (h2:Slc 1 RB w B d m) (n k:Nat) (hn:l.length=n) (hk:m.length=k):
 Calls Tryz.prog 13 #[.slice A n c,.slice B k d] w fun e' w'=>e' = .returned (.bool (decide (l=m)))∧w'=w:=by
 subst hn hk
 refine (Tryz.bytes_Equal_all A B l.length c m.length d _ _ w (by simp) (by simp) (uN h1) (uN h2)).mono ?_
 rintro e' w' ⟨rfl,rfl⟩
 refine ⟨?_,rfl⟩
 rw [kA,kA]
 exact congrArg (fun b=>Ending.returned (Value.bool b)) (by by_cases h:l=m <;> simp [h])
theorem xAS (w:World) (hT:TabsOk w):Calls Tryz.prog 10 #[] w (fun e' w'=>e' = .returned (.bool true)∧Below w.heap.size w w'):=by
 obtain ⟨W,hW⟩:∃W,w.alloc (.cells #[.string ⟨#[97]⟩,.string ⟨#[102]⟩,.string ⟨#[120]⟩] 9)=W:=⟨_,rfl⟩
 have hb:Below w.heap.size w W:=by rw [← hW];exact eG _ _
 have hs:Slc 1 RN W (some ⟨w.heap.size,0,none⟩) 3 exT:=by rw [← hW];exact xS (enc:=Value.string) (fun _ _ _ _ _ h=>h) w _ exT 3 rfl (by omega)
 have hid:∀s∈exT,isIdent s=true:=by decide
 have HN:=aF ((kZ exT _ 3 W hs (by decide)).mono (fun e' w' h=>(⟨h.1,by have:=h.2.1 hid;rwa [xEF] at this⟩:Below W.heap.size W w'∧∃t B d,e' = .returned (.tuple #[.pointer (some ⟨t,0,none⟩),.int .i64 0])∧TabAt w' t B d exT)))
 have HT:=aF (hT.keep hb)
 have HB:=aF hb
 clear hb hs hT
 go_enter Tryz.func10,Tryz.ntmps10
 go_wp2_with fail
 go_at_call 22
 refine HN.out.mono ?_
 rintro e' w1 ⟨hb1,t,B,d,rfl,ht1⟩
 have HB1:=aF (HB.out.trans (hb1.mono HB.out.size))
 have HT1:=aF (HT.out.keep hb1)
 have HTB1:=aF ht1
 clear hb1 ht1 HB HT
 go_wp2_with fail
 go_at_call 27
 refine (sM w1).mono ?_
 rintro e' w2 ⟨bh,rfl,hbd,hb2⟩
 have HB2:=aF (HB1.out.trans (hb2.mono HB1.out.size))
 have HE:=aF (lB exB bh t B d exT w2 hbd (HT1.out.keep hb2) (HTB1.out.keep hb2) (by rw [← xEF];exact kP exT) (by decide) (fun _=>by rw [zQ];decide))
 have HTB2:=aF (HTB1.out.keep hb2)
 clear hb2 hbd HB1 HT1 HTB1
 go_wp2_with fail
 go_at_call 11
 refine HE.out.mono ?_
 rintro e' w3 ⟨hb3,_,_,h3⟩
 obtain ⟨A,c,rfl,hc⟩:=h3 xHK xHI
 rw [zQ] at hc ⊢
 have HB3:=aF (HB2.out.trans (hb3.mono HB2.out.size))
 have HTB3:=aF (HTB2.out.keep hb3)
 have HC3:=aF hc
 clear hb3 h3 hc HE HTB2 HB2
 go_wp2_with fail
 have HD:=aF (fun W4 (hb:Below w3.heap.size w3 W4)=>(show Calls Tryz.prog 14 #[.slice A 10 c,.pointer (some ⟨t,0,none⟩)] W4 (fun e' w'=>∃A1 a1 A2 a2 A3 a3 A4 a4 A5 a5,e' = .returned (.tuple #[.agg #[.string ⟨#[102]⟩,.slice A1 1 a1,.slice A2 0 a2,.slice A3 1 a3,.slice A4 1 a4,.int .i64 0,.slice A5 0 a5],.int .i64 0])∧Below W4.heap.size W4 w') from (sE exL A c t B d exT W4 (HC3.out.keep RB.keeps hb) (by decide) (HTB3.out.keep hb)).mono (fun e' w' h=>by
  obtain ⟨⟨A1,a1,A2,a2,A3,a3,A4,a4,A5,a5⟩,h1,_,h3⟩:=h
  rw [xHJ] at h1
  exact ⟨A1,a1,A2,a2,A3,a3,A4,a4,A5,a5,h1,h3⟩)))
 go_at_call 14
 refine (sD none 0 0 w3).mono ?_
 rintro e' w4 ⟨rfl,hb4⟩
 have HB44:=aF hb4
 clear hb4
 go_wp2_with fail
 generalize hW4:w4.alloc (.cells #[.string ⟨#[]⟩,.slice none 0 0,.slice none 0 0,.slice none 0 0,.slice none 0 0,.int .i64 0,.slice none 0 0] 28)=W4
 have hb4:=HB44.out
 have hb4:Below w3.heap.size w3 W4:=by rw [← hW4];exact keep0 (eG _ _) hb4
 have HB4:=aF (HB3.out.trans (hb4.mono HB3.out.size))
 have HD4:=aF (HD.out W4 hb4)
 have HC4:=aF (HC3.out.keep RB.keeps hb4)
 clear hb4 HD HC3 HTB3 HB3
 go_at_call 14
 refine HD4.out.mono ?_
 rintro e' w5 ⟨A1,a1,A2,a2,A3,a3,A4,a4,A5,a5,rfl,hb5⟩
 obtain ⟨W5,hW5⟩:∃W5,w5.alloc (.cells #[.string ⟨#[102]⟩,.slice A1 1 a1,.slice A2 0 a2,.slice A3 1 a3,.slice A4 1 a4,.int .i64 0,.slice A5 0 a5] 28)=W5:=⟨_,rfl⟩
 have hb5:Below W4.heap.size W4 W5:=by rw [← hW5];exact keep0 (eG _ _) hb5
 have hk5:W5.heap[w5.heap.size]?=some (.cells #[.string ⟨#[102]⟩,.slice A1 1 a1,.slice A2 0 a2,.slice A3 1 a3,.slice A4 1 a4,.int .i64 0,.slice A5 0 a5] 28 (0,0)):=by rw [← hW5];exact heap_alloc_new _ _
 obtain ⟨W6,hW6⟩:∃W6,W5.alloc (.cells #[.int .u8 1,.int .u8 1,.int .u8 0,.int .u8 0,.int .u8 1,.int .u8 2,.int .u8 1,.int .u8 2,.int .u8 0,.int .u8 0] 5)=W6:=⟨_,rfl⟩
 have hb6:Below W5.heap.size W5 W6:=by rw [← hW6];exact eG _ _
 have hs6:Slc 1 RB W6 (some ⟨W5.heap.size,0,none⟩) 10 exL:=by rw [← hW6];exact xS (enc:=encB) (fun _ _ _ _ _ h=>h) W5 _ exL 10 rfl (by omega)
 have HQ:=aF (lU ((HC4.out.keep RB.keeps hb5).keep RB.keeps hb6) hs6 10 10 rfl rfl)
 rw [show decide (exL=exL)=true by simp] at HQ
 obtain ⟨u0,u1,u2,u3,u4,u5,u6,_⟩:=blk7 ((hb6.block _ (Array.getElem?_eq_some_iff.1 hk5).1).trans hk5)
 have HB6:=aF (HB4.out.trans ((keep0 hb6 hb5).mono HB4.out.size))
 clear hb5 hk5 hb6 hs6 HD4 HC4 HB4
 go_wp2_with fail
 go_at_call 13
 refine HQ.out.mono ?_
 rintro e' w7 ⟨rfl,rfl⟩
 go_wp2_with fail
 go_ret
 exact ⟨rfl,HB6.out⟩
end
end Go.Proofs.YtbnljlpefpllcaaGreatDoor
