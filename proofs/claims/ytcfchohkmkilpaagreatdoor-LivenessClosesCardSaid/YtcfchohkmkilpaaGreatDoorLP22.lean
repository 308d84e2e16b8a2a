/-
  Parts of the proof: V59U V59V V60 V67B0 V67G0 V67B1.
-/
import Derived.Test.YtcfchohkmkilpaaGreatDoorLP0
import Derived.Test.YtcfchohkmkilpaaGreatDoorLP14
import Derived.Test.YtcfchohkmkilpaaGreatDoorLP13
import Derived.Test.YtcfchohkmkilpaaGreatDoorLP21
import Derived.Test.YtcfchohkmkilpaaGreatDoorLP10
import Derived.Test.YtcfchohkmkilpaaGreatDoorLP9
import Derived.Test.YtcfchohkmkilpaaGreatDoorLP11
namespace Go.Proofs.YtcfchohkmkilpaaGreatDoor
set_option maxRecDepth 100000
set_option maxHeartbeats 16000000
section
open Go Go.RowKit Go.Maps
theorem xDA {b:Bdy} {bh:BH} {w:World} (H:Rk w b bh) (rv:Rvl) (t:Nat) (ht:t<b.types.length) (A B:Option Addr) (c d:Nat) (hl:Slc 4 ROp w B d rv.args) (h:shapeE rv=0) (hk:rv.kind=2) (hop:0<=rv.op/\rv.op<=1) (hpos:0<rv.args.length):
 Calls Tryz.prog 94 #[.agg (bdC b bh).toArray,.agg (rvC rv A c B d).toArray,.int .i64 t] w fun e' w'=>e' = .returned (.int .i64 (rvE b rv t))/\Below w.heap.size w w':=by
 obtain ⟨op,hope⟩:∃op,rv.op=op:=⟨_,rfl⟩;rw [hope] at hop;obtain ⟨hop0,hop1⟩:=hop;obtain ⟨q1,hq1⟩:∃q:Int,(if op=1 then 1 else 2)=q:=⟨_,rfl⟩;obtain ⟨q2,hq2⟩:∃q:Int,(if op=1 then 1 else 2)=q:=⟨_,rfl⟩;have e10:decide (op<0)=false:=by simp;omega
 have e11:decide (1<op)=false:=by simp;omega
 have HSH:=aF (fun W=>eJ rv A B c d W);have HOP:=aF (fun W (hb:Below w.heap.size w W) (o:Opd) (A:Option Addr) (c:Nat) (hp:Slc 2 RPj w A c o.place.proj)=>dK (H.keep hb) o A c (hp.keep RPj.keeps hb));have HKK:=aF (fun W (hb:Below w.heap.size w W) (o:Opd) (A:Option Addr) (c:Nat) (hp:Slc 2 RPj w A c o.place.proj) (ho:opE b o=0)=>gO (H.keep hb).at_ H.ok o q1 A c (hp.keep RPj.keeps hb) ho)
 have HF0:Hid (rvE b rv t=if opsE b rv.args []≠0 then opsE b rv.args [] else if rv.args.all (fun o=>decide (kindO b o=q1))=true then fail22 (decide (b.types[t].kind≠q2)) else 22):=aF (by
  have hkt:kindT b (t:Int)=b.types[t].kind:=by unfold kindT;simp [ht]
  rw [jP h ht,hk,<- hq1,<- hq2];rcases (show op=0\/op=1 by omega) with e | e
  all_goals
   rw [e] at hope;simp only [operE,hope,hkt,e]
   rfl)
 have HQ1:=aF hq1;have HQ2:=aF hq2;clear hq1 hq2;rw [h] at HSH;obtain ⟨bb,oo,hA3,hbb,hx⟩:=H.at_.typ.sl.at_ ht;have hle3:=H.at_.typ.le;have hbig3:=H.at_.typ.big;obtain ⟨r0,-⟩:=hx;have hle:=hl.le;have hbig:=hl.big;obtain ⟨b5,o5,rfl,hb5,-⟩:=hl.sl.at_ hpos;have HL:=aF hl;obtain ⟨n,hn⟩:∃n,rv.args.length=n:=⟨_,rfl⟩;have HN:=aF hn;generalize rvE b rv t=R at HF0 ⊢;generalize b.types[t].kind=tk at r0 HF0;clear H h hl;unfold bdC at *;unfold rvC at *;rw [hA3] at HOP HKK ⊢;rw [hn] at hle;rw [hk,hope,hn] at HSH ⊢;clear hn hpos hope hk;go_enter Tryz.func94,Tryz.ntmps94
 go_wp2_with (go_at_call 128;refine (HSH.out _).mono ?_;rintro e' w1 ⟨rfl,hb⟩;have HB:=aF ((bel2 _ _ _).trans (hb.mono (bel2 _ _ _).size));obtain ⟨y,z⟩:=cU hb;have HY:=aF y;have HZ:=aF z;obtain ⟨y0,y1,y2,y3,y4,y5,y6⟩:=aS HY.out;obtain ⟨z0,z1,z2,z3,z4,z5,z6⟩:=aS HZ.out;have q0:=cO HB.out r0;clear y z hb)
 go_quiet (fail)
 all_goals go_wp2_with fail
 go_loopw [9] (fun v wr=>∃j:Nat,j<=n/\v = .int .i64 j/\Hid (aA (bdT b bh bb oo) wr w.heap.size)/\Hid (aA (rvL 2 op rv A c b5 o5 n d) wr (w.heap.size+1))/\Hid (Below w.heap.size w wr)/\Hid (opsE b rv.args []=opsE b (rv.args.drop j) [])) (fun v _=>n - (intOf v).toNat)
 case atStart=>exact ⟨0,by omega,rfl,aF HY.out,aF HZ.out,aF (aG HB.out _),aF rfl⟩
 case round=>
  clear HY HZ HB y0 y1 y2 y3 y4 y5 y6 z0 z1 z2 z3 z4 z5 z6 q0 r0;obtain ⟨j,hj,rfl,HY,HZ,HB,hr⟩:=hrel;have z6:=HZ.out 6 _ rfl;obtain ⟨z0,z1⟩:=aN HZ.out;by_cases hlt:j<n
  next=>
   have hl1:j<rv.args.length:=by rw [HN.out];exact hlt
   obtain ⟨b7,o7,hB7,hb7,hxo⟩:=HL.out.sl.at_ hl1;simp only [cI,Addr.mk.injEq,and_true] at hB7;obtain ⟨rfl,rfl⟩:=hB7;have hmem:=bM hl1;have hd:=cV hl1;obtain ⟨o,hoo⟩:∃o,rv.args[j]=o:=⟨_,rfl⟩;rw [hoo] at hxo hd hmem;obtain ⟨p0,⟨p1,A2,c2,p2,hc1,hc2,hsl⟩,p3⟩:=hxo;have HPJ:Hid (Slc 2 RPj w A2 c2 o.place.proj):=aF ⟨hsl,hc1,hc2⟩;have P0:=aF p0;have P1:=aF p1;have P2:=aF (show w.cell? ⟨b5,o5+j * 4+2,none⟩=_ from p2);have P3:=aF p3;have HOO:=aF (fun W hb=>HOP.out W hb o A2 c2 HPJ.out);unfold opC at HOO
   have HV2:Hid ((opE b o≠0->R=opE b o)/\(opE b o=0->opsE b rv.args []=opsE b (rv.args.drop (j+1)) [])):=aF ⟨fun he=>by
    have h9:opsE b rv.args []=opE b o:=by rw [hr.out,hd,eY he]
    rw [HF0.out,h9,bA he],fun he=>by rw [hr.out,hd,fE he]⟩
   generalize opE b o=eo at HOO HV2;clear hr hd hmem hoo p0 p1 p2 p3 hsl hc1 hc2 hl1;go_wp2_with fail
   have hS:aB w (bdT b bh bb oo) (rvL 2 op rv A c b5 o5 n d) wr.drew:=⟨HY.out,HZ.out,HB.out.drew⟩;clear z0 z1 z6;refine cT (S:=fun X=>aB w (bdT b bh bb oo) (rvL 2 op rv A c b5 o5 n d) X) [0,1,2,3,4,5,6,7] (by kernel_rfl) ?_;(iterate 6 (refine cR (v:=?_) ?_ hS ?_;rotate_left;(next=>(rintro X ⟨hX,hY,hZ⟩;obtain ⟨s0,s1,s2,s3,s4,s5,s6⟩:=aS hX;have u6:=hY 6 _ rfl;have u0:=hY 0 _ rfl;have p0:=cO hZ P0.out;have p1:=cO hZ P1.out;have p2:=cO hZ P2.out;have p3:=cO hZ P3.out;(try simp only [aI]);go_simp;rfl));simp only [aM]));(refine cY (fun K1 hK1=>?_);simp only [aM];rw [bA (by rfl)];go_simp);refine (HOO.out _ hS.2.2).mono ?_;rintro e' w2 ⟨rfl,hb⟩;replace hS:=bJ (cP hS.1 hb) (bJ (cP hS.2.1 hb) (hS.2.2.trans (hb.mono hS.2.2.size)));have HS2:=aF hS;clear hb;refine hK1.out _ _ (fun _=>hS) ?_;clear hK1;((refine cR (v:=?_) ?_ hS ?_;rotate_left;(next=>(rintro X -;(try simp only [aI]);go_simp;rfl));simp only [aM]))
   refine cZ ?_;clear hS;by_cases he:eo=0
   ·subst he;have HV3:=aF (HV2.out.2 rfl);clear HV2;go_wp2_with fail
    have hS:aB w (bdT b bh bb oo) (rvL 2 op rv A c b5 o5 n d) w2.drew:=⟨HS2.out.1,HS2.out.2.1,HS2.out.2.2.drew⟩;refine cT (S:=fun X=>aB w (bdT b bh bb oo) (rvL 2 op rv A c b5 o5 n d) X) [0,1,2,3,4,5,6,7,8,9,10,11,12,13,14,15,16,17,18,19,20,21] (by kernel_rfl) ?_;(iterate 4 (refine cR (v:=?_) ?_ hS ?_;rotate_left;(next=>(rintro X ⟨hX,hY,hZ⟩;obtain ⟨s0,s1,s2,s3,s4,s5,s6⟩:=aS hX;have u6:=hY 6 _ rfl;have u0:=hY 0 _ rfl;have p0:=cO hZ P0.out;have p1:=cO hZ P1.out;have p2:=cO hZ P2.out;have p3:=cO hZ P3.out;(try simp only [aI]);go_simp;rfl));simp only [aM]));(iterate 17 (refine dA (v:=undef) (by kernel_rfl) (fun _ _ _ h=>h) (Or.inr ⟨by rfl,rfl⟩) hS ?_;simp only [aM]));((refine cR (v:=?_) ?_ hS ?_;rotate_left;(next=>(rintro X -;(try simp only [aI]);go_simp;rfl));simp only [aM]))
    refine cZ ?_;clear hS;go_wp2_with fail
    go_roundw
    case rel=>exact ⟨j+1,by omega,by go_num,aF HS2.out.1,aF HS2.out.2.1,aF HS2.out.2.2.drew,HV3⟩
    case measure=>simp [intOf];omega
   ·have HF:=aF (HV2.out.1 he);have e1:(eo != 0)=true:=by simp [he]
    clear he HV2;go_wp2_with fail
    go_ret;exact ⟨by rw [HF.out];rfl,HS2.out.2.2⟩
  next=>
   have hz:opsE b rv.args []=0:=by rw [hr.out,bE (by rw [HN.out];omega),dJ]
   have HALL:=aF (iM hz);have HQ:Hid (R=if (rv.args.drop 0).all (fun o=>decide (kindO b o=q1))=true then fail22 (decide (tk≠q2)) else 22):=aF (by rw [HF0.out,aZ (by simp [hz]),bW]);clear hr hz HF0
   have hcs:(q1=1/\q2=1/\(op == 1)=true)\/(q1=2/\q2=2/\(op == 1)=false):=by
    rw [<- HQ1.out,<- HQ2.out];by_cases g:op=1
    ·left;simp [g]
    ·right;simp [g]
   rcases hcs with ⟨g0,g1,e12⟩ | ⟨g0,g1,e12⟩
   all_goals
    have HX1:=aF g0;have HX2:=aF g1;clear g0 g1;go_wp2_with fail
    clear hlt hj;go_loopw [13] (fun v wr=>∃j:Nat,j<=n/\v = .int .i64 j/\Hid (aA (bdT b bh bb oo) wr w.heap.size)/\Hid (aA (rvL 2 op rv A c b5 o5 n d) wr (w.heap.size+1))/\Hid (Below w.heap.size w wr)/\Hid (R=if (rv.args.drop j).all (fun o=>decide (kindO b o=q1))=true then fail22 (decide (tk≠q2)) else 22)) (fun v _=>n - (intOf v).toNat)
    case atStart=>exact ⟨0,by omega,rfl,HY,HZ,HB,HQ⟩
    case round=>
     clear HY HZ HB HQ z0 z1 z6;obtain ⟨j,hj,rfl,HY,HZ,HB,hr⟩:=hrel;have z6:=HZ.out 6 _ rfl;have z0:=HZ.out 0 _ rfl;by_cases hlt:j<n
     next=>
      have hl1:j<rv.args.length:=by rw [HN.out];exact hlt
      obtain ⟨b7,o7,hB7,hb7,hxo⟩:=HL.out.sl.at_ hl1;simp only [cI,Addr.mk.injEq,and_true] at hB7;obtain ⟨rfl,rfl⟩:=hB7;have hmem:=bM hl1;have hd:=cV hl1;obtain ⟨o,hoo⟩:∃o,rv.args[j]=o:=⟨_,rfl⟩;rw [hoo] at hxo hd hmem;obtain ⟨p0,⟨p1,A2,c2,p2,hc1,hc2,hsl⟩,p3⟩:=hxo;have HPJ:Hid (Slc 2 RPj w A2 c2 o.place.proj):=aF ⟨hsl,hc1,hc2⟩;have P0:=aF p0;have P1:=aF p1;have P2:=aF (show w.cell? ⟨b5,o5+j * 4+2,none⟩=_ from p2);have P3:=aF p3;have HOO:=aF (fun W hb=>HKK.out W hb o A2 c2 HPJ.out (HALL.out o hmem));unfold opC at HOO
      have HV2:Hid ((kindO b o≠q1->R=22)/\(kindO b o=q1->R=if (rv.args.drop (j+1)).all (fun o=>decide (kindO b o=q1))=true then fail22 (decide (tk≠q2)) else 22)):=aF (by
       rw [hr.out,hd,cB];constructor
       ·intro h;simp [h]
       ·intro h;simp [h])
      obtain ⟨kq,hkq⟩:∃q,decide (kindO b o=q1)=q:=⟨_,rfl⟩;rw [hkq] at HOO;rw [HX1.out] at HOO;have HKQ:=aF hkq;clear hr hd hmem hoo p0 p1 p2 p3 hsl hc1 hc2 hl1 hkq;go_wp2_with fail
      have hS:aB w (bdT b bh bb oo) (rvL 2 op rv A c b5 o5 n d) wr.drew:=⟨HY.out,HZ.out,HB.out.drew⟩;clear z0 z6;refine cT (S:=fun X=>aB w (bdT b bh bb oo) (rvL 2 op rv A c b5 o5 n d) X) [0,1,2,3,4,5,6,7,8] (by kernel_rfl) ?_;(iterate 7 (refine cR (v:=?_) ?_ hS ?_;rotate_left;(next=>(rintro X ⟨hX,hY,hZ⟩;obtain ⟨s0,s1,s2,s3,s4,s5,s6⟩:=aS hX;have u6:=hY 6 _ rfl;have u0:=hY 0 _ rfl;have p0:=cO hZ P0.out;have p1:=cO hZ P1.out;have p2:=cO hZ P2.out;have p3:=cO hZ P3.out;(try simp only [aI]);go_simp;rfl));simp only [aM]));(refine cY (fun K1 hK1=>?_);simp only [aM];rw [bA (by rfl)];go_simp);refine (HOO.out _ hS.2.2).mono ?_;rintro e' w2 ⟨rfl,hb⟩;replace hS:=bJ (cP hS.1 hb) (bJ (cP hS.2.1 hb) (hS.2.2.trans (hb.mono hS.2.2.size)));have HS2:=aF hS;clear hb;refine hK1.out _ _ (fun _=>hS) ?_;clear hK1;((refine cR (v:=?_) ?_ hS ?_;rotate_left;(next=>(rintro X -;(try simp only [aI]);go_simp;rfl));simp only [aM]))
      refine cZ ?_;clear hS;cases kq
      ·have HF:Hid (R=22):=aF (HV2.out.1 (by have:=HKQ.out;simpa using this));clear HV2;go_wp2_with fail
       go_ret;exact ⟨by rw [HF.out];rfl,HS2.out.2.2⟩
      ·have HF:=aF (HV2.out.2 (by have:=HKQ.out;simpa using this));clear HV2;go_wp2_with fail
       go_roundw
       case rel=>exact ⟨j+1,by omega,by go_num,aF HS2.out.1,aF HS2.out.2.1,aF HS2.out.2.2,HF⟩
       case measure=>simp [intOf];omega
     next=>
      have HF:Hid (R=fail22 (decide (tk≠q2))):=aF (by rw [hr.out,bE (by rw [HN.out];omega)];rfl);have e9:(tk != q2)=decide (tk≠q2):=by rw [bQ];simp
      clear hr;by_cases h9:tk=q2
      ·have e8:(tk != q2)=false:=by simp [h9]
       rw [HX2.out] at e8;have HF2:Hid (R=0):=aF (by rw [HF.out];simp [h9,fail22]);clear e9 h9;go_wp2_with fail
       go_ret;exact ⟨by rw [HF2.out];rfl,HB.out⟩
      ·have e8:(tk != q2)=true:=by simp [h9]
       rw [HX2.out] at e8;have HF2:Hid (R=22):=aF (by rw [HF.out];simp [h9,fail22]);clear e9 h9;go_wp2_with fail
       go_ret;exact ⟨by rw [HF2.out];rfl,HB.out⟩
theorem xDB {b:Bdy} {bh:BH} {w:World} (H:Rk w b bh) (rv:Rvl) (t:Nat) (ht:t<b.types.length) (A B:Option Addr) (c d:Nat) (hl:Slc 4 ROp w B d rv.args) (h:shapeE rv=0) (hk:rv.kind=3) (hop:0<=rv.op/\rv.op<=5) (hpos:0<rv.args.length):
 Calls Tryz.prog 94 #[.agg (bdC b bh).toArray,.agg (rvC rv A c B d).toArray,.int .i64 t] w fun e' w'=>e' = .returned (.int .i64 (rvE b rv t))/\Below w.heap.size w w':=by
 obtain ⟨op,hope⟩:∃op,rv.op=op:=⟨_,rfl⟩;rw [hope] at hop;obtain ⟨hop0,hop1⟩:=hop;obtain ⟨q1,hq1⟩:∃q:Int,(if op=5 then 1 else 2)=q:=⟨_,rfl⟩;obtain ⟨q2,hq2⟩:∃q:Int,(if 3<=op then 1 else 2)=q:=⟨_,rfl⟩;have e10:decide (op<0)=false:=by simp;omega
 have e11:decide (5<op)=false:=by simp;omega
 have HSH:=aF (fun W=>eJ rv A B c d W);have HOP:=aF (fun W (hb:Below w.heap.size w W) (o:Opd) (A:Option Addr) (c:Nat) (hp:Slc 2 RPj w A c o.place.proj)=>dK (H.keep hb) o A c (hp.keep RPj.keeps hb));have HKK:=aF (fun W (hb:Below w.heap.size w W) (o:Opd) (A:Option Addr) (c:Nat) (hp:Slc 2 RPj w A c o.place.proj) (ho:opE b o=0)=>gO (H.keep hb).at_ H.ok o q1 A c (hp.keep RPj.keeps hb) ho)
 have HF0:Hid (rvE b rv t=if opsE b rv.args []≠0 then opsE b rv.args [] else if rv.args.all (fun o=>decide (kindO b o=q1))=true then fail22 (decide (b.types[t].kind≠q2)) else 22):=aF (by
  have hkt:kindT b (t:Int)=b.types[t].kind:=by unfold kindT;simp [ht]
  rw [jP h ht,hk,<- hq1,<- hq2];rcases (show op=0\/op=1\/op=2\/op=3\/op=4\/op=5 by omega) with e | e | e | e | e | e
  all_goals
   rw [e] at hope;simp only [operE,hope,hkt,e]
   rfl)
 have HQ1:=aF hq1;have HQ2:=aF hq2;clear hq1 hq2;rw [h] at HSH;obtain ⟨bb,oo,hA3,hbb,hx⟩:=H.at_.typ.sl.at_ ht;have hle3:=H.at_.typ.le;have hbig3:=H.at_.typ.big;obtain ⟨r0,-⟩:=hx;have hle:=hl.le;have hbig:=hl.big;obtain ⟨b5,o5,rfl,hb5,-⟩:=hl.sl.at_ hpos;have HL:=aF hl;obtain ⟨n,hn⟩:∃n,rv.args.length=n:=⟨_,rfl⟩;have HN:=aF hn;generalize rvE b rv t=R at HF0 ⊢;generalize b.types[t].kind=tk at r0 HF0;clear H h hl;unfold bdC at *;unfold rvC at *;rw [hA3] at HOP HKK ⊢;rw [hn] at hle;rw [hk,hope,hn] at HSH ⊢;clear hn hpos hope hk;go_enter Tryz.func94,Tryz.ntmps94
 go_wp2_with (go_at_call 128;refine (HSH.out _).mono ?_;rintro e' w1 ⟨rfl,hb⟩;have HB:=aF ((bel2 _ _ _).trans (hb.mono (bel2 _ _ _).size));obtain ⟨y,z⟩:=cU hb;have HY:=aF y;have HZ:=aF z;obtain ⟨y0,y1,y2,y3,y4,y5,y6⟩:=aS HY.out;obtain ⟨z0,z1,z2,z3,z4,z5,z6⟩:=aS HZ.out;have q0:=cO HB.out r0;clear y z hb)
 go_quiet (fail)
 all_goals go_wp2_with fail
 go_loopw [9] (fun v wr=>∃j:Nat,j<=n/\v = .int .i64 j/\Hid (aA (bdT b bh bb oo) wr w.heap.size)/\Hid (aA (rvL 3 op rv A c b5 o5 n d) wr (w.heap.size+1))/\Hid (Below w.heap.size w wr)/\Hid (opsE b rv.args []=opsE b (rv.args.drop j) [])) (fun v _=>n - (intOf v).toNat)
 case atStart=>exact ⟨0,by omega,rfl,aF HY.out,aF HZ.out,aF (aG HB.out _),aF rfl⟩
 case round=>
  clear HY HZ HB y0 y1 y2 y3 y4 y5 y6 z0 z1 z2 z3 z4 z5 z6 q0 r0;obtain ⟨j,hj,rfl,HY,HZ,HB,hr⟩:=hrel;have z6:=HZ.out 6 _ rfl;obtain ⟨z0,z1⟩:=aN HZ.out;by_cases hlt:j<n
  next=>
   have hl1:j<rv.args.length:=by rw [HN.out];exact hlt
   obtain ⟨b7,o7,hB7,hb7,hxo⟩:=HL.out.sl.at_ hl1;simp only [cI,Addr.mk.injEq,and_true] at hB7;obtain ⟨rfl,rfl⟩:=hB7;have hmem:=bM hl1;have hd:=cV hl1;obtain ⟨o,hoo⟩:∃o,rv.args[j]=o:=⟨_,rfl⟩;rw [hoo] at hxo hd hmem;obtain ⟨p0,⟨p1,A2,c2,p2,hc1,hc2,hsl⟩,p3⟩:=hxo;have HPJ:Hid (Slc 2 RPj w A2 c2 o.place.proj):=aF ⟨hsl,hc1,hc2⟩;have P0:=aF p0;have P1:=aF p1;have P2:=aF (show w.cell? ⟨b5,o5+j * 4+2,none⟩=_ from p2);have P3:=aF p3;have HOO:=aF (fun W hb=>HOP.out W hb o A2 c2 HPJ.out);unfold opC at HOO
   have HV2:Hid ((opE b o≠0->R=opE b o)/\(opE b o=0->opsE b rv.args []=opsE b (rv.args.drop (j+1)) [])):=aF ⟨fun he=>by
    have h9:opsE b rv.args []=opE b o:=by rw [hr.out,hd,eY he]
    rw [HF0.out,h9,bA he],fun he=>by rw [hr.out,hd,fE he]⟩
   generalize opE b o=eo at HOO HV2;clear hr hd hmem hoo p0 p1 p2 p3 hsl hc1 hc2 hl1;go_wp2_with fail
   have hS:aB w (bdT b bh bb oo) (rvL 3 op rv A c b5 o5 n d) wr.drew:=⟨HY.out,HZ.out,HB.out.drew⟩;clear z0 z1 z6;refine cT (S:=fun X=>aB w (bdT b bh bb oo) (rvL 3 op rv A c b5 o5 n d) X) [0,1,2,3,4,5,6,7] (by kernel_rfl) ?_;(iterate 6 (refine cR (v:=?_) ?_ hS ?_;rotate_left;(next=>(rintro X ⟨hX,hY,hZ⟩;obtain ⟨s0,s1,s2,s3,s4,s5,s6⟩:=aS hX;have u6:=hY 6 _ rfl;have u0:=hY 0 _ rfl;have p0:=cO hZ P0.out;have p1:=cO hZ P1.out;have p2:=cO hZ P2.out;have p3:=cO hZ P3.out;(try simp only [aI]);go_simp;rfl));simp only [aM]));(refine cY (fun K1 hK1=>?_);simp only [aM];rw [bA (by rfl)];go_simp);refine (HOO.out _ hS.2.2).mono ?_;rintro e' w2 ⟨rfl,hb⟩;replace hS:=bJ (cP hS.1 hb) (bJ (cP hS.2.1 hb) (hS.2.2.trans (hb.mono hS.2.2.size)));have HS2:=aF hS;clear hb;refine hK1.out _ _ (fun _=>hS) ?_;clear hK1;((refine cR (v:=?_) ?_ hS ?_;rotate_left;(next=>(rintro X -;(try simp only [aI]);go_simp;rfl));simp only [aM]))
   refine cZ ?_;clear hS;by_cases he:eo=0
   ·subst he;have HV3:=aF (HV2.out.2 rfl);clear HV2;go_wp2_with fail
    have hS:aB w (bdT b bh bb oo) (rvL 3 op rv A c b5 o5 n d) w2.drew:=⟨HS2.out.1,HS2.out.2.1,HS2.out.2.2.drew⟩;refine cT (S:=fun X=>aB w (bdT b bh bb oo) (rvL 3 op rv A c b5 o5 n d) X) [0,1,2,3,4,5,6,7,8,9,10,11,12,13,14,15,16,17,18,19,20,21] (by kernel_rfl) ?_;(iterate 4 (refine cR (v:=?_) ?_ hS ?_;rotate_left;(next=>(rintro X ⟨hX,hY,hZ⟩;obtain ⟨s0,s1,s2,s3,s4,s5,s6⟩:=aS hX;have u6:=hY 6 _ rfl;have u0:=hY 0 _ rfl;have p0:=cO hZ P0.out;have p1:=cO hZ P1.out;have p2:=cO hZ P2.out;have p3:=cO hZ P3.out;(try simp only [aI]);go_simp;rfl));simp only [aM]));(iterate 17 (refine dA (v:=undef) (by kernel_rfl) (fun _ _ _ h=>h) (Or.inr ⟨by rfl,rfl⟩) hS ?_;simp only [aM]));((refine cR (v:=?_) ?_ hS ?_;rotate_left;(next=>(rintro X -;(try simp only [aI]);go_simp;rfl));simp only [aM]))
    refine cZ ?_;clear hS;go_wp2_with fail
    go_roundw
    case rel=>exact ⟨j+1,by omega,by go_num,aF HS2.out.1,aF HS2.out.2.1,aF HS2.out.2.2.drew,HV3⟩
    case measure=>simp [intOf];omega
   ·have HF:=aF (HV2.out.1 he);have e1:(eo != 0)=true:=by simp [he]
    clear he HV2;go_wp2_with fail
    go_ret;exact ⟨by rw [HF.out];rfl,HS2.out.2.2⟩
  next=>
   have hz:opsE b rv.args []=0:=by rw [hr.out,bE (by rw [HN.out];omega),dJ]
   have HALL:=aF (iM hz);have HQ:Hid (R=if (rv.args.drop 0).all (fun o=>decide (kindO b o=q1))=true then fail22 (decide (tk≠q2)) else 22):=aF (by rw [HF0.out,aZ (by simp [hz]),bW]);clear hr hz HF0
   have hcs:(q1=2/\q2=2/\(op == 5)=false/\decide (3<=op)=false)\/(q1=2/\q2=1/\(op == 5)=false/\decide (3<=op)=true)\/(q1=1/\q2=1/\(op == 5)=true/\decide (3<=op)=true):=by
    rw [<- HQ1.out,<- HQ2.out];by_cases g:op=5
    ·right;right;simp [g]
    ·by_cases g2:3<=op
     ·right;left;simp [g,g2]
     ·left;simp [g,g2]
   rcases hcs with ⟨g0,g1,e12,e13⟩ | ⟨g0,g1,e12,e13⟩ | ⟨g0,g1,e12,e13⟩
   all_goals
    have HX1:=aF g0;have HX2:=aF g1;clear g0 g1;go_wp2_with fail
    clear hlt hj;go_loopw [13] (fun v wr=>∃j:Nat,j<=n/\v = .int .i64 j/\Hid (aA (bdT b bh bb oo) wr w.heap.size)/\Hid (aA (rvL 3 op rv A c b5 o5 n d) wr (w.heap.size+1))/\Hid (Below w.heap.size w wr)/\Hid (R=if (rv.args.drop j).all (fun o=>decide (kindO b o=q1))=true then fail22 (decide (tk≠q2)) else 22)) (fun v _=>n - (intOf v).toNat)
    case atStart=>exact ⟨0,by omega,rfl,HY,HZ,HB,HQ⟩
    case round=>
     clear HY HZ HB HQ z0 z1 z6;obtain ⟨j,hj,rfl,HY,HZ,HB,hr⟩:=hrel;have z6:=HZ.out 6 _ rfl;have z0:=HZ.out 0 _ rfl;by_cases hlt:j<n
     next=>
      have hl1:j<rv.args.length:=by rw [HN.out];exact hlt
      obtain ⟨b7,o7,hB7,hb7,hxo⟩:=HL.out.sl.at_ hl1;simp only [cI,Addr.mk.injEq,and_true] at hB7;obtain ⟨rfl,rfl⟩:=hB7;have hmem:=bM hl1;have hd:=cV hl1;obtain ⟨o,hoo⟩:∃o,rv.args[j]=o:=⟨_,rfl⟩;rw [hoo] at hxo hd hmem;obtain ⟨p0,⟨p1,A2,c2,p2,hc1,hc2,hsl⟩,p3⟩:=hxo;have HPJ:Hid (Slc 2 RPj w A2 c2 o.place.proj):=aF ⟨hsl,hc1,hc2⟩;have P0:=aF p0;have P1:=aF p1;have P2:=aF (show w.cell? ⟨b5,o5+j * 4+2,none⟩=_ from p2);have P3:=aF p3;have HOO:=aF (fun W hb=>HKK.out W hb o A2 c2 HPJ.out (HALL.out o hmem));unfold opC at HOO
      have HV2:Hid ((kindO b o≠q1->R=22)/\(kindO b o=q1->R=if (rv.args.drop (j+1)).all (fun o=>decide (kindO b o=q1))=true then fail22 (decide (tk≠q2)) else 22)):=aF (by
       rw [hr.out,hd,cB];constructor
       ·intro h;simp [h]
       ·intro h;simp [h])
      obtain ⟨kq,hkq⟩:∃q,decide (kindO b o=q1)=q:=⟨_,rfl⟩;rw [hkq] at HOO;rw [HX1.out] at HOO;have HKQ:=aF hkq;clear hr hd hmem hoo p0 p1 p2 p3 hsl hc1 hc2 hl1 hkq;go_wp2_with fail
      have hS:aB w (bdT b bh bb oo) (rvL 3 op rv A c b5 o5 n d) wr.drew:=⟨HY.out,HZ.out,HB.out.drew⟩;clear z0 z6;refine cT (S:=fun X=>aB w (bdT b bh bb oo) (rvL 3 op rv A c b5 o5 n d) X) [0,1,2,3,4,5,6,7,8] (by kernel_rfl) ?_;(iterate 7 (refine cR (v:=?_) ?_ hS ?_;rotate_left;(next=>(rintro X ⟨hX,hY,hZ⟩;obtain ⟨s0,s1,s2,s3,s4,s5,s6⟩:=aS hX;have u6:=hY 6 _ rfl;have u0:=hY 0 _ rfl;have p0:=cO hZ P0.out;have p1:=cO hZ P1.out;have p2:=cO hZ P2.out;have p3:=cO hZ P3.out;(try simp only [aI]);go_simp;rfl));simp only [aM]));(refine cY (fun K1 hK1=>?_);simp only [aM];rw [bA (by rfl)];go_simp);refine (HOO.out _ hS.2.2).mono ?_;rintro e' w2 ⟨rfl,hb⟩;replace hS:=bJ (cP hS.1 hb) (bJ (cP hS.2.1 hb) (hS.2.2.trans (hb.mono hS.2.2.size)));have HS2:=aF hS;clear hb;refine hK1.out _ _ (fun _=>hS) ?_;clear hK1;((refine cR (v:=?_) ?_ hS ?_;rotate_left;(next=>(rintro X -;(try simp only [aI]);go_simp;rfl));simp only [aM]))
      refine cZ ?_;clear hS;cases kq
      ·have HF:Hid (R=22):=aF (HV2.out.1 (by have:=HKQ.out;simpa using this));clear HV2;go_wp2_with fail
       go_ret;exact ⟨by rw [HF.out];rfl,HS2.out.2.2⟩
      ·have HF:=aF (HV2.out.2 (by have:=HKQ.out;simpa using this));clear HV2;go_wp2_with fail
       go_roundw
       case rel=>exact ⟨j+1,by omega,by go_num,aF HS2.out.1,aF HS2.out.2.1,aF HS2.out.2.2,HF⟩
       case measure=>simp [intOf];omega
     next=>
      have HF:Hid (R=fail22 (decide (tk≠q2))):=aF (by rw [hr.out,bE (by rw [HN.out];omega)];rfl);have e9:(tk != q2)=decide (tk≠q2):=by rw [bQ];simp
      clear hr;by_cases h9:tk=q2
      ·have e8:(tk != q2)=false:=by simp [h9]
       rw [HX2.out] at e8;have HF2:Hid (R=0):=aF (by rw [HF.out];simp [h9,fail22]);clear e9 h9;go_wp2_with fail
       go_ret;exact ⟨by rw [HF2.out];rfl,HB.out⟩
      ·have e8:(tk != q2)=true:=by simp [h9]
       rw [HX2.out] at e8;have HF2:Hid (R=22):=aF (by rw [HF.out];simp [h9,fail22]);clear e9 h9;go_wp2_with fail
       go_ret;exact ⟨by rw [HF2.out];rfl,HB.out⟩
end
section
open Go Go.RowKit
theorem zX {b:Bdy} {bh:BH} {w:World} (H:Rk w b bh) (rv:Rvl) (t:Nat) (ht:t<b.types.length) (A B:Option Addr) (c d:Nat) (hp:Slc 2 RPj w A c rv.place.proj) (hl:Slc 4 ROp w B d rv.args):
 Calls Tryz.prog 94 #[.agg (bdC b bh).toArray,.agg (rvC rv A c B d).toArray,.int .i64 t] w fun e' w'=>e' = .returned (.int .i64 (rvE b rv t))/\Below w.heap.size w w':=by
 by_cases h:shapeE rv=0
 case neg=>exact tY rv t A B c d h
 obtain ⟨⟨h0,h1⟩,hu⟩:=jO h;rcases (show rv.kind=0\/rv.kind=1\/rv.kind=2\/rv.kind=3\/rv.kind=4 by omega) with hk | hk | hk | hk | hk
 ·exact zU H rv t ht A B c d hl h hk
 ·exact zW H rv t ht A B c d hp h hk
 ·by_cases hr:rv.op<0\/1<rv.op
  ·exact lG H rv t ht A B c d h (Or.inl ⟨hk,hr⟩)
  ·have hpos:0<rv.args.length:=by
    unfold unusedR at hu;rw [aZ (by omega),aZ (by omega),bA hk] at hu;simp only [bP,decide_eq_true_eq] at hu;omega
   exact xDA H rv t ht A B c d hl h hk (by omega) hpos
 ·by_cases hr:rv.op<0\/5<rv.op
  ·exact lG H rv t ht A B c d h (Or.inr ⟨hk,hr⟩)
  ·have hpos:0<rv.args.length:=by
    unfold unusedR at hu;rw [aZ (by omega),aZ (by omega),aZ (by omega),bA hk] at hu;simp only [bP,decide_eq_true_eq] at hu;omega
   exact xDB H rv t ht A B c d hl h hk (by omega) hpos
 ·exact vV H rv t ht A B c d hl h hk
theorem xCY {b:Bdy} {bh:BH} {w:World} (H:Rk w b bh) (s:Stm) (A0 A B:Option Addr) (c0 c d:Nat) (hp0:Slc 2 RPj w A0 c0 s.place.proj) (hp:Slc 2 RPj w A c s.rv.place.proj) (hl:Slc 4 ROp w B d s.rv.args):
 Calls Tryz.prog 61 #[.agg (bdC b bh).toArray,.agg (stC s A0 c0 A c B d).toArray] w fun e' w'=>e' = .returned (.int .i64 (stE b s))/\Below w.heap.size w w':=
 vP H s A0 A B c0 c d hp0 hl (fun _W hb t ht=>zX (H.keep hb) s.rv t ht A B c d (hp.keep RPj.keeps hb) (hl.keep ROp.keeps hb))
end
section
open Go Go.RowKit Go.Maps
theorem tF {b:Bdy} {bh:BH} {w:World} (_H:Rk w b bh) (t:Trm) (A B C:Option Addr) (c d f:Nat) (ht:Slc 1 RInt w A c t.targets) (hl:Slc 4 ROp w B d t.args) (_hp:Slc 2 RPj w C f t.place.proj) (hk:t.kind=0) (hfd:fieldsT t=false):
 Calls Tryz.prog 62 #[.agg (bdC b bh).toArray,.agg (tmC t A c B d C f).toArray] w fun e' w'=>e' = .returned (.int .i64 (tmE b t))/\Below w.heap.size w w':=by
 have HZ:=aF (fun W=>dQ t.place C f W);have HF:Hid (tmE b t=2):=aF (by rw [tmE,aZ (by omega),bA hfd]);generalize tmE b t=R at HF ⊢;have hfd2:=hfd;unfold fieldsT at hfd2;rw [hk] at hfd2;simp only [reduceIte,Int.reduceEq] at hfd2;obtain ⟨n,hn⟩:∃n,t.targets.length=n:=⟨_,rfl⟩;obtain ⟨m,hm⟩:∃m,t.args.length=m:=⟨_,rfl⟩;obtain ⟨z,hzz⟩:∃z,zeroP t.place=z:=⟨_,rfl⟩;have hmb:m<=9223372036854775807:=by have h1:=hl.le;have h2:=hl.big;omega
 have hnb:n<=9223372036854775807:=by have h1:=ht.le;have h2:=ht.big;omega
 obtain ⟨u,hu⟩:∃u,decide (t.name.size=0)=u:=⟨_,rfl⟩;have hne:=eG t.name;rw [hu] at hne;try rw [hu] at hfd2
 rw [hn] at hfd2;try rw [hm] at hfd2
 try rw [hzz] at hfd2
 rw [hzz] at HZ;clear _H ht hl _hp hfd hzz;unfold bdC tmC;rw [hk,hn,hm];clear hk hn hm;by_cases hn:n=1
 case neg=>
  have e1:((n:Int) != 1)=true:=by simp;omega
  clear hfd2 hne HZ hu;go_enter Tryz.func62,Tryz.ntmps62
  go_wp2_with fail
  go_quiet (fail)
  all_goals go_wp2_with fail
  all_goals first
   | (exfalso;omega)
   | (go_ret;exact ⟨by rw [HF.out];rfl,by first | exact aG aH _ | exact aH⟩)
 subst hn;cases u
 case false=>
  clear hfd2 HZ hu;go_enter Tryz.func62,Tryz.ntmps62
  go_wp2_with fail
  go_quiet (fail)
  all_goals go_wp2_with fail
  all_goals first
   | (exfalso;omega)
   | (go_ret;exact ⟨by rw [HF.out];rfl,by first | exact aG aH _ | exact aH⟩)
 have hnm:t.name={ data:= #[] }:=by
  have h:=of_decide_eq_true hu;cases hh:t.name with
  | mk dd=>
    rw [hh] at h;exact congrArg ByteArray.mk (Array.eq_empty_of_size_eq_zero (show dd.size=0 from h))
 rw [hnm];clear hu hne hnm;cases z
 case false=>
  clear hfd2;go_enter Tryz.func62,Tryz.ntmps62
  go_wp2_with fail
  have hS:=gD w (bdC b bh) (tmL 0 1 A c B m d t C f { data:= #[] }) arT 28 53 148;refine cT (S:=fun X=>aD w (bdC b bh) (tmL 0 1 A c B m d t C f { data:= #[] }) arT X) [0,1,2,3,4,5,6,7,8,9,10,11,12,13,14,15,16,17,18,19,20,21,22,23,24,25,26,27,28,29,30,31,32,33,34,35,36,37,38,39,40,41,42,43,44,45,46,47,48,49,50,51,52,53,54,55,56,57] (by kernel_rfl) ?_;(iterate 28 (refine cR (v:=?_) ?_ hS ?_;rotate_left;(next=>(rintro X ⟨hX,hY,hA,hZ⟩;obtain ⟨s0,s1,s2,s3,s4,s5⟩:=aR hY;have a0:=hA 0 _ rfl;(try simp only [aI]);go_simp;rfl));simp only [aM]));(refine cY (fun K1 hK1=>?_);simp only [aM];rw [bA (by rfl)];go_simp);refine (HZ.out _).mono ?_;rintro e' w1 ⟨rfl,hb⟩;replace hS:=bJ (cP hS.1 hb) (bJ (cP hS.2.1 hb) (bJ (cP hS.2.2.1 hb) (hS.2.2.2.trans (hb.mono hS.2.2.2.size))));have HS2:=aF hS;clear hb;refine hK1.out _ _ (fun _=>hS) ?_;clear hK1;(iterate 4 (refine cR (v:=?_) ?_ hS ?_;rotate_left;(next=>(rintro X ⟨hX,hY,hA,hZ⟩;obtain ⟨s0,s1,s2,s3,s4,s5⟩:=aR hY;have a0:=hA 0 _ rfl;(try simp only [aI]);go_simp;rfl));simp only [aM]));(iterate 9 (refine dA (v:=undef) (by kernel_rfl) (fun _ _ _ h=>h) (Or.inr ⟨by rfl,rfl⟩) hS ?_;simp only [aM]));(iterate 2 (refine cR (v:=?_) ?_ hS ?_;rotate_left;(next=>(rintro X ⟨hX,hY,hA,hZ⟩;obtain ⟨s0,s1,s2,s3,s4,s5⟩:=aR hY;have a0:=hA 0 _ rfl;(try simp only [aI]);go_simp;rfl));simp only [aM]));(iterate 13 (refine dA (v:=undef) (by kernel_rfl) (fun _ _ _ h=>h) (Or.inr ⟨by rfl,rfl⟩) hS ?_;simp only [aM]));((refine cR (v:=?_) ?_ hS ?_;rotate_left;(next=>(rintro X ⟨hX,hY,hA,hZ⟩;obtain ⟨s0,s1,s2,s3,s4,s5⟩:=aR hY;have a0:=hA 0 _ rfl;(try simp only [aI]);go_simp;rfl));simp only [aM]))
  refine cZ ?_;clear hS;go_wp2_with fail
  all_goals first
   | (exfalso;omega)
   | (go_ret;exact ⟨by rw [HF.out];rfl,HS2.out.2.2.2⟩)
 have hm0:0<m:=by simp at hfd2;omega
 have e3:decide (0<(m:Int))=true:=by simp;omega
 clear hfd2;go_enter Tryz.func62,Tryz.ntmps62
 go_wp2_with fail
 have hS:=gD w (bdC b bh) (tmL 0 1 A c B m d t C f { data:= #[] }) arT 28 53 148;refine cT (S:=fun X=>aD w (bdC b bh) (tmL 0 1 A c B m d t C f { data:= #[] }) arT X) [0,1,2,3,4,5,6,7,8,9,10,11,12,13,14,15,16,17,18,19,20,21,22,23,24,25,26,27,28,29,30,31,32,33,34,35,36,37,38,39,40,41,42,43,44,45,46,47,48,49,50,51,52,53,54,55,56,57] (by kernel_rfl) ?_;(iterate 28 (refine cR (v:=?_) ?_ hS ?_;rotate_left;(next=>(rintro X ⟨hX,hY,hA,hZ⟩;obtain ⟨s0,s1,s2,s3,s4,s5⟩:=aR hY;have a0:=hA 0 _ rfl;(try simp only [aI]);go_simp;rfl));simp only [aM]));(refine cY (fun K1 hK1=>?_);simp only [aM];rw [bA (by rfl)];go_simp);refine (HZ.out _).mono ?_;rintro e' w1 ⟨rfl,hb⟩;replace hS:=bJ (cP hS.1 hb) (bJ (cP hS.2.1 hb) (bJ (cP hS.2.2.1 hb) (hS.2.2.2.trans (hb.mono hS.2.2.2.size))));have HS2:=aF hS;clear hb;refine hK1.out _ _ (fun _=>hS) ?_;clear hK1;(iterate 8 (refine cR (v:=?_) ?_ hS ?_;rotate_left;(next=>(rintro X ⟨hX,hY,hA,hZ⟩;obtain ⟨s0,s1,s2,s3,s4,s5⟩:=aR hY;have a0:=hA 0 _ rfl;(try simp only [aI]);go_simp;rfl));simp only [aM]));(iterate 4 (refine dA (v:=undef) (by kernel_rfl) (fun _ _ _ h=>h) (Or.inr ⟨by rfl,rfl⟩) hS ?_;simp only [aM]));(iterate 17 (refine cR (v:=?_) ?_ hS ?_;rotate_left;(next=>(rintro X ⟨hX,hY,hA,hZ⟩;obtain ⟨s0,s1,s2,s3,s4,s5⟩:=aR hY;have a0:=hA 0 _ rfl;(try simp only [aI]);go_simp;rfl));simp only [aM]));refine cZ ?_;clear hS;go_wp2_with fail
 all_goals first
  | (exfalso;omega)
  | (go_ret;exact ⟨by rw [HF.out];rfl,HS2.out.2.2.2⟩)
theorem oV {b:Bdy} {bh:BH} {w:World} (H:Rk w b bh) (t:Trm) (A B C:Option Addr) (c d f:Nat) (ht:Slc 1 RInt w A c t.targets) (hl:Slc 4 ROp w B d t.args) (_hp:Slc 2 RPj w C f t.place.proj) (hk:t.kind=0) (hfd:fieldsT t=true):
 Calls Tryz.prog 62 #[.agg (bdC b bh).toArray,.agg (tmC t A c B d C f).toArray] w fun e' w'=>e' = .returned (.int .i64 (tmE b t))/\Below w.heap.size w w':=by
 have HZ:=aF (fun W=>dQ t.place C f W);have HOP:=aF (fun W (hb:Below w.heap.size w W) (o:Opd) (A:Option Addr) (c:Nat) (hp:Slc 2 RPj w A c o.place.proj)=>dK (H.keep hb) o A c (hp.keep RPj.keeps hb));have hfd2:=hfd;unfold fieldsT at hfd2;rw [hk] at hfd2;simp only [reduceIte,Int.reduceEq,bP,decide_eq_true_eq] at hfd2;obtain ⟨⟨⟨hn,hm⟩,hzz⟩,hnm0⟩:=hfd2;obtain ⟨Q,hQ⟩:∃Q,(if opsE b t.args []≠0 then opsE b t.args [] else 0)=Q:=⟨_,rfl⟩;have HQ:=aF hQ
 have HF:Hid (tmE b t=if (t.targets.drop 0).all (fun k=>decide (0<=k/\k<(b.blocks.length:Int)))=true then Q else 3):=aF (by
  rw [bW,tmE,aZ (by omega),aZ (by rw [hfd];simp),<- hQ];cases t.targets.all (fun k=>decide (0<=k/\k<(b.blocks.length:Int)))
  ·simp
  ·rw [bU hm,dJ]
   simp [hk])
 generalize tmE b t=R at HF ⊢;have hblkl:=H.at_.blk.le;have hblkb:=H.at_.blk.big;have hle2:=ht.le;have hbig2:=ht.big;have hle:=hl.le;have hbig:=hl.big;have HTG:=aF ht;have HL:=aF hl
 have hnm:t.name={ data:= #[] }:=by
  have h:=hnm0;cases hh:t.name with
  | mk dd=>
    rw [hh] at h;exact congrArg ByteArray.mk (Array.eq_empty_of_size_eq_zero (show dd.size=0 from h))
 rw [hzz] at HZ;obtain ⟨m,hmm⟩:∃m,t.args.length=m:=⟨_,rfl⟩;have HN:=aF hmm;clear hQ H ht hl _hp hfd hnm0;unfold bdC at *;unfold tmC;rw [hk,hn,hmm,hnm];rw [hmm] at hle;obtain rfl:m=0:=by omega
 have HTN:=aF hn;clear hn hk hmm hnm hm;clear hzz;go_enter Tryz.func62,Tryz.ntmps62
 go_wp2_with fail
 have hS:=gD w (bdC b bh) (tmL 0 1 A c B 0 d t C f { data:= #[] }) arT 28 53 148;refine cT (S:=fun X=>aD w (bdC b bh) (tmL 0 1 A c B 0 d t C f { data:= #[] }) arT X) [0,1,2,3,4,5,6,7,8,9,10,11,12,13,14,15,16,17,18,19,20,21,22,23,24,25,26,27,28,29,30,31,32,33,34,35,36,37,38,39,40,41,42,43,44,45,46,47,48,49,50,51,52,53,54,55,56,57] (by kernel_rfl) ?_;(iterate 28 (refine cR (v:=?_) ?_ hS ?_;rotate_left;(next=>(rintro X ⟨hX,hY,hA,hZ⟩;obtain ⟨s0,s1,s2,s3,s4,s5⟩:=aR hY;have a0:=hA 0 _ rfl;(try simp only [aI]);go_simp;rfl));simp only [aM]));(refine cY (fun K1 hK1=>?_);simp only [aM];rw [bA (by rfl)];go_simp);refine (HZ.out _).mono ?_;rintro e' w1 ⟨rfl,hb⟩;replace hS:=bJ (cP hS.1 hb) (bJ (cP hS.2.1 hb) (bJ (cP hS.2.2.1 hb) (hS.2.2.2.trans (hb.mono hS.2.2.2.size))));have HS2:=aF hS;clear hb;refine hK1.out _ _ (fun _=>hS) ?_;clear hK1;(iterate 8 (refine cR (v:=?_) ?_ hS ?_;rotate_left;(next=>(rintro X ⟨hX,hY,hA,hZ⟩;obtain ⟨s0,s1,s2,s3,s4,s5⟩:=aR hY;have a0:=hA 0 _ rfl;(try simp only [aI]);go_simp;rfl));simp only [aM]));(iterate 4 (refine dA (v:=undef) (by kernel_rfl) (fun _ _ _ h=>h) (Or.inr ⟨by rfl,rfl⟩) hS ?_;simp only [aM]));(iterate 17 (refine cR (v:=?_) ?_ hS ?_;rotate_left;(next=>(rintro X ⟨hX,hY,hA,hZ⟩;obtain ⟨s0,s1,s2,s3,s4,s5⟩:=aR hY;have a0:=hA 0 _ rfl;(try simp only [aI]);go_simp;rfl));simp only [aM]));refine cZ ?_;clear hS;go_wp2_with fail
 have HY:=aF HS2.out.1;have HZZ:=aF HS2.out.2.1;have HB:=aF HS2.out.2.2.2;clear HS2;go_loopw [7] (fun v wr=>∃k:Nat,k<=1/\v = .int .i64 k/\Hid (aA (bdC b bh) wr w.heap.size)/\Hid (aA (tmL 0 1 A c B 0 d t C f { data:= #[] }) wr (w.heap.size+1))/\Hid (Below w.heap.size w wr)/\Hid (R=if (t.targets.drop k).all (fun k=>decide (0<=k/\k<(b.blocks.length:Int)))=true then Q else 3)) (fun v _=>1 - (intOf v).toNat)
 case atStart=>exact ⟨0,by omega,rfl,HY,HZZ,HB,HF⟩
 case round=>
  clear HY HZZ HB HF;obtain ⟨k,hk2,rfl,HY,HZ,HB,hr⟩:=hrel;obtain ⟨y0,y1,y2,y3,y4,y5,y6⟩:=aS HY.out;obtain ⟨z0,z1,z2,z3,z4,z5⟩:=aR HZ.out;by_cases hlt:k<1
  next=>
   have hlt2:k<t.targets.length:=by rw [HTN.out];exact hlt
   have hd:=cV hlt2;obtain ⟨b5,o5,rfl,hb5,hx⟩:=HTG.out.sl.at_ hlt2;obtain ⟨x,hxx⟩:∃x,t.targets[k]=x:=⟨_,rfl⟩;rw [hxx] at hd hx;have x0:wr.cell? ⟨b5,o5+k,none⟩=some (.int .i64 x):=cO HB.out (by simpa [RInt] using hx);by_cases hin:0<=x/\x<(b.blocks.length:Int)
   ·have HF2:Hid (R=if (t.targets.drop (k+1)).all (fun k=>decide (0<=k/\k<(b.blocks.length:Int)))=true then Q else 3):=aF (by rw [hr.out,hd,cB];simp [hin]);have e1:decide (x<0)=false:=by simp;omega
    have e2:decide ((b.blocks.length:Int)<=x)=false:=by simp;omega
    clear hd hx hxx hr hin;go_wp2_with fail
    go_quiet (fail)
    all_goals go_wp2_with fail
    go_roundw
    case rel=>exact ⟨k+1,by omega,by go_num,aF HY.out,aF HZ.out,aF (aG HB.out _),HF2⟩
    case measure=>simp [intOf];omega
   ·have HF2:Hid (R=3):=aF (by rw [hr.out,hd,cB];simp;intro h1 h2;exact absurd ⟨h1,h2⟩ hin);clear hd hx hxx hr;by_cases hx0:x<0
    ·have e1:decide (x<0)=true:=by simp;omega
     clear hin hx0;go_wp2_with fail
     go_quiet (fail)
     all_goals go_wp2_with fail
     go_ret;exact ⟨by rw [HF2.out];rfl,aG HB.out _⟩
    ·have e1:decide (x<0)=false:=by simp;omega
     have e2:decide ((b.blocks.length:Int)<=x)=true:=by simp;omega
     clear hin hx0;go_wp2_with fail
     go_quiet (fail)
     all_goals go_wp2_with fail
     go_ret;exact ⟨by rw [HF2.out];rfl,aG HB.out _⟩
  next=>
   have HR:Hid (R=Q):=aF (by rw [hr.out,bE (by rw [HTN.out];omega)];rfl);clear hr;have HOPS:Hid (R=if opsE b t.args []≠0 then opsE b t.args [] else 0):=aF (by rw [HR.out,<- HQ.out]);clear HR HQ;go_wp2_with fail
   clear hlt hk2;go_loopw [8] (fun v wr=>∃j:Nat,j<=0/\v = .int .i64 j/\Hid (aA (bdC b bh) wr w.heap.size)/\Hid (aA (tmL 0 1 A c B 0 d t C f { data:= #[] }) wr (w.heap.size+1))/\Hid (Below w.heap.size w wr)/\Hid (opsE b t.args []=opsE b (t.args.drop j) [])) (fun v _=>0 - (intOf v).toNat)
   case atStart=>exact ⟨0,by omega,rfl,aF HY.out,aF HZ.out,HB,aF rfl⟩
   case round=>
    clear HY HZ HB y0 y1 y2 y3 y4 y5 y6 z0 z1 z2 z3 z4 z5;obtain ⟨j,hj,rfl,HY,HZ,HB,hr⟩:=hrel;obtain ⟨y0,y1,y2,y3,y4,y5,y6⟩:=aS HY.out;obtain ⟨z0,z1,z2,z3,z4,z5⟩:=aR HZ.out;by_cases hlt:j<0
    next=>exact absurd hlt (by omega)
    next=>
     have hz0:opsE b t.args []=0:=(by rw [hr.out,bE (by rw [HN.out];omega),dJ]);have HQ2:Hid (R=0):=aF (by rw [HOPS.out,aZ (by simp [hz0])]);clear hr hz0;go_wp2_with fail
     go_quiet (fail)
     all_goals go_wp2_with fail
     go_ret;exact ⟨by rw [HQ2.out];rfl,aG HB.out _⟩
theorem tE {b:Bdy} {bh:BH} {w:World} (_H:Rk w b bh) (t:Trm) (A B C:Option Addr) (c d f:Nat) (ht:Slc 1 RInt w A c t.targets) (hl:Slc 4 ROp w B d t.args) (_hp:Slc 2 RPj w C f t.place.proj) (hk:t.kind=1) (hfd:fieldsT t=false):
 Calls Tryz.prog 62 #[.agg (bdC b bh).toArray,.agg (tmC t A c B d C f).toArray] w fun e' w'=>e' = .returned (.int .i64 (tmE b t))/\Below w.heap.size w w':=by
 have HZ:=aF (fun W=>dQ t.place C f W);have HF:Hid (tmE b t=2):=aF (by rw [tmE,aZ (by omega),bA hfd]);generalize tmE b t=R at HF ⊢;have hfd2:=hfd;unfold fieldsT at hfd2;rw [hk] at hfd2;simp only [reduceIte,Int.reduceEq] at hfd2;obtain ⟨n,hn⟩:∃n,t.targets.length=n:=⟨_,rfl⟩;obtain ⟨m,hm⟩:∃m,t.args.length=m:=⟨_,rfl⟩;obtain ⟨z,hzz⟩:∃z,zeroP t.place=z:=⟨_,rfl⟩;have hmb:m<=9223372036854775807:=by have h1:=hl.le;have h2:=hl.big;omega
 have hnb:n<=9223372036854775807:=by have h1:=ht.le;have h2:=ht.big;omega
 obtain ⟨u,hu⟩:∃u,decide (t.name.size=0)=u:=⟨_,rfl⟩;have hne:=eG t.name;rw [hu] at hne;try rw [hu] at hfd2
 rw [hn] at hfd2;try rw [hm] at hfd2
 try rw [hzz] at hfd2
 rw [hzz] at HZ;clear _H ht hl _hp hfd hzz;unfold bdC tmC;rw [hk,hn,hm];clear hk hn hm;by_cases hn:n=2
 case neg=>
  have e1:((n:Int) != 2)=true:=by simp;omega
  clear hfd2 hne HZ hu;go_enter Tryz.func62,Tryz.ntmps62
  go_wp2_with fail
  go_quiet (fail)
  all_goals go_wp2_with fail
  all_goals first
   | (exfalso;omega)
   | (go_ret;exact ⟨by rw [HF.out];rfl,by first | exact aG aH _ | exact aH⟩)
 subst hn;cases u
 case false=>
  clear hfd2 HZ hu;go_enter Tryz.func62,Tryz.ntmps62
  go_wp2_with fail
  go_quiet (fail)
  all_goals go_wp2_with fail
  all_goals first
   | (exfalso;omega)
   | (go_ret;exact ⟨by rw [HF.out];rfl,by first | exact aG aH _ | exact aH⟩)
 have hnm:t.name={ data:= #[] }:=by
  have h:=of_decide_eq_true hu;cases hh:t.name with
  | mk dd=>
    rw [hh] at h;exact congrArg ByteArray.mk (Array.eq_empty_of_size_eq_zero (show dd.size=0 from h))
 rw [hnm];clear hu hne hnm;cases z
 case false=>
  clear hfd2;go_enter Tryz.func62,Tryz.ntmps62
  go_wp2_with fail
  have hS:=gD w (bdC b bh) (tmL 1 2 A c B m d t C f { data:= #[] }) arT 28 53 148;refine cT (S:=fun X=>aD w (bdC b bh) (tmL 1 2 A c B m d t C f { data:= #[] }) arT X) [0,1,2,3,4,5,6,7,8,9,10,11,12,13,14,15,16,17,18,19,20,21,22,23,24,25,26,27,28,29,30,31,32,33,34,35,36,37,38,39,40,41,42,43,44,45,46,47,48,49,50,51,52,53,54,55,56,57] (by kernel_rfl) ?_;(iterate 28 (refine cR (v:=?_) ?_ hS ?_;rotate_left;(next=>(rintro X ⟨hX,hY,hA,hZ⟩;obtain ⟨s0,s1,s2,s3,s4,s5⟩:=aR hY;have a0:=hA 1 _ rfl;(try simp only [aI]);go_simp;rfl));simp only [aM]));(refine cY (fun K1 hK1=>?_);simp only [aM];rw [bA (by rfl)];go_simp);refine (HZ.out _).mono ?_;rintro e' w1 ⟨rfl,hb⟩;replace hS:=bJ (cP hS.1 hb) (bJ (cP hS.2.1 hb) (bJ (cP hS.2.2.1 hb) (hS.2.2.2.trans (hb.mono hS.2.2.2.size))));have HS2:=aF hS;clear hb;refine hK1.out _ _ (fun _=>hS) ?_;clear hK1;(iterate 4 (refine cR (v:=?_) ?_ hS ?_;rotate_left;(next=>(rintro X ⟨hX,hY,hA,hZ⟩;obtain ⟨s0,s1,s2,s3,s4,s5⟩:=aR hY;have a0:=hA 1 _ rfl;(try simp only [aI]);go_simp;rfl));simp only [aM]));(iterate 9 (refine dA (v:=undef) (by kernel_rfl) (fun _ _ _ h=>h) (Or.inr ⟨by rfl,rfl⟩) hS ?_;simp only [aM]));(iterate 2 (refine cR (v:=?_) ?_ hS ?_;rotate_left;(next=>(rintro X ⟨hX,hY,hA,hZ⟩;obtain ⟨s0,s1,s2,s3,s4,s5⟩:=aR hY;have a0:=hA 1 _ rfl;(try simp only [aI]);go_simp;rfl));simp only [aM]));(iterate 13 (refine dA (v:=undef) (by kernel_rfl) (fun _ _ _ h=>h) (Or.inr ⟨by rfl,rfl⟩) hS ?_;simp only [aM]));((refine cR (v:=?_) ?_ hS ?_;rotate_left;(next=>(rintro X ⟨hX,hY,hA,hZ⟩;obtain ⟨s0,s1,s2,s3,s4,s5⟩:=aR hY;have a0:=hA 1 _ rfl;(try simp only [aI]);go_simp;rfl));simp only [aM]))
  refine cZ ?_;clear hS;go_wp2_with fail
  all_goals first
   | (exfalso;omega)
   | (go_ret;exact ⟨by rw [HF.out];rfl,HS2.out.2.2.2⟩)
 have hm0:m≠1:=by simp at hfd2;omega
 have e3:((m:Int) != 1)=true:=by simp;omega
 clear hfd2;go_enter Tryz.func62,Tryz.ntmps62
 go_wp2_with fail
 have hS:=gD w (bdC b bh) (tmL 1 2 A c B m d t C f { data:= #[] }) arT 28 53 148;refine cT (S:=fun X=>aD w (bdC b bh) (tmL 1 2 A c B m d t C f { data:= #[] }) arT X) [0,1,2,3,4,5,6,7,8,9,10,11,12,13,14,15,16,17,18,19,20,21,22,23,24,25,26,27,28,29,30,31,32,33,34,35,36,37,38,39,40,41,42,43,44,45,46,47,48,49,50,51,52,53,54,55,56,57] (by kernel_rfl) ?_;(iterate 28 (refine cR (v:=?_) ?_ hS ?_;rotate_left;(next=>(rintro X ⟨hX,hY,hA,hZ⟩;obtain ⟨s0,s1,s2,s3,s4,s5⟩:=aR hY;have a0:=hA 1 _ rfl;(try simp only [aI]);go_simp;rfl));simp only [aM]));(refine cY (fun K1 hK1=>?_);simp only [aM];rw [bA (by rfl)];go_simp);refine (HZ.out _).mono ?_;rintro e' w1 ⟨rfl,hb⟩;replace hS:=bJ (cP hS.1 hb) (bJ (cP hS.2.1 hb) (bJ (cP hS.2.2.1 hb) (hS.2.2.2.trans (hb.mono hS.2.2.2.size))));have HS2:=aF hS;clear hb;refine hK1.out _ _ (fun _=>hS) ?_;clear hK1;(iterate 8 (refine cR (v:=?_) ?_ hS ?_;rotate_left;(next=>(rintro X ⟨hX,hY,hA,hZ⟩;obtain ⟨s0,s1,s2,s3,s4,s5⟩:=aR hY;have a0:=hA 1 _ rfl;(try simp only [aI]);go_simp;rfl));simp only [aM]));(iterate 4 (refine cR (v:=?_) ?_ hS ?_;rotate_left;(next=>(rintro X ⟨hX,hY,hA,hZ⟩;obtain ⟨s0,s1,s2,s3,s4,s5⟩:=aR hY;have a0:=hA 1 _ rfl;(try simp only [aI]);go_simp;rfl));simp only [aM]));(iterate 3 (refine cR (v:=?_) ?_ hS ?_;rotate_left;(next=>(rintro X ⟨hX,hY,hA,hZ⟩;obtain ⟨s0,s1,s2,s3,s4,s5⟩:=aR hY;have a0:=hA 1 _ rfl;(try simp only [aI]);go_simp;rfl));simp only [aM]));(iterate 13 (refine dA (v:=undef) (by kernel_rfl) (fun _ _ _ h=>h) (Or.inr ⟨by rfl,rfl⟩) hS ?_;simp only [aM]));((refine cR (v:=?_) ?_ hS ?_;rotate_left;(next=>(rintro X ⟨hX,hY,hA,hZ⟩;obtain ⟨s0,s1,s2,s3,s4,s5⟩:=aR hY;have a0:=hA 1 _ rfl;(try simp only [aI]);go_simp;rfl));simp only [aM]))
 refine cZ ?_;clear hS;go_wp2_with fail
 all_goals first
  | (exfalso;omega)
  | (go_ret;exact ⟨by rw [HF.out];rfl,HS2.out.2.2.2⟩)
end
end Go.Proofs.YtcfchohkmkilpaaGreatDoor
