/-
  Parts of the proof: V59U V59V V70 A4.
-/
import Derived.Test.YtmknfbfppmkcfaaGreatDoorPM0
import Derived.Test.YtmknfbfppmkcfaaGreatDoorPM16
import Derived.Test.YtmknfbfppmkcfaaGreatDoorPM15
import Derived.Test.YtmknfbfppmkcfaaGreatDoorPM6
import Derived.Test.YtmknfbfppmkcfaaGreatDoorPM9
import Derived.Test.YtmknfbfppmkcfaaGreatDoorPM5
import Derived.WalkMore
import Derived.RangeFuncCalls
namespace Go.Proofs.YtmknfbfppmkcfaaGreatDoor
set_option maxRecDepth 100000
set_option maxHeartbeats 16000000
section
open Go Go.RowKit Go.Maps
theorem xDY {b:Bdy} {bh:BH} {w:World} (H:Rk w b bh) (rv:Rvl) (t:Nat) (ht:t<b.types.length) (A B:Option Addr) (c d:Nat) (hl:Slc 4 ROp w B d rv.args) (h:shapeE rv=0) (hk:rv.kind=2) (hop:0<=rv.op/\rv.op<=1) (hpos:0<rv.args.length):
 Calls Tryz.prog 97 #[.agg (bdC b bh).toArray,.agg (rvC rv A c B d).toArray,.int .i64 t] w fun e' w'=>e' = .returned (.int .i64 (rvE b rv t))/\Below w.heap.size w w':=by
 obtain ⟨op,hope⟩:∃op,rv.op=op:=⟨_,rfl⟩;rw [hope] at hop;obtain ⟨hop0,hop1⟩:=hop;obtain ⟨q1,hq1⟩:∃q:Int,(if op=1 then 1 else 2)=q:=⟨_,rfl⟩;obtain ⟨q2,hq2⟩:∃q:Int,(if op=1 then 1 else 2)=q:=⟨_,rfl⟩;have e10:decide (op<0)=false:=by simp;omega
 have e11:decide (1<op)=false:=by simp;omega
 have HSH:=aF (fun W=>eH rv A B c d W);have HOP:=aF (fun W (hb:Below w.heap.size w W) (o:Opd) (A:Option Addr) (c:Nat) (hp:Slc 2 RPj w A c o.place.proj)=>dJ (H.keep hb) o A c (hp.keep RPj.keeps hb));have HKK:=aF (fun W (hb:Below w.heap.size w W) (o:Opd) (A:Option Addr) (c:Nat) (hp:Slc 2 RPj w A c o.place.proj) (ho:opE b o=0)=>iQ (H.keep hb).at_ H.ok o q1 A c (hp.keep RPj.keeps hb) ho)
 have HF0:Hid (rvE b rv t=if opsE b rv.args []≠0 then opsE b rv.args [] else if rv.args.all (fun o=>decide (kindO b o=q1))=true then fail22 (decide (b.types[t].kind≠q2)) else 22):=aF (by
  have hkt:kindT b (t:Int)=b.types[t].kind:=by unfold kindT;simp [ht]
  rw [kV h ht,hk,<- hq1,<- hq2];rcases (show op=0\/op=1 by omega) with e | e
  all_goals
   rw [e] at hope;simp only [operE,hope,hkt,e]
   rfl)
 have HQ1:=aF hq1;have HQ2:=aF hq2;clear hq1 hq2;rw [h] at HSH;obtain ⟨bb,oo,hA3,hbb,hx⟩:=H.at_.typ.sl.at_ ht;have hle3:=H.at_.typ.le;have hbig3:=H.at_.typ.big;obtain ⟨r0,-⟩:=hx;have hle:=hl.le;have hbig:=hl.big;obtain ⟨b5,o5,rfl,hb5,-⟩:=hl.sl.at_ hpos;have HL:=aF hl;obtain ⟨n,hn⟩:∃n,rv.args.length=n:=⟨_,rfl⟩;have HN:=aF hn;generalize rvE b rv t=R at HF0 ⊢;generalize b.types[t].kind=tk at r0 HF0;clear H h hl;unfold bdC at *;unfold rvC at *;rw [hA3] at HOP HKK ⊢;rw [hn] at hle;rw [hk,hope,hn] at HSH ⊢;clear hn hpos hope hk;go_enter Tryz.func97,Tryz.ntmps97
 go_wp2_with (go_at_call 141;refine (HSH.out _).mono ?_;rintro e' w1 ⟨rfl,hb⟩;have HB:=aF ((bel2 _ _ _).trans (hb.mono (bel2 _ _ _).size));obtain ⟨y,z⟩:=cW hb;have HY:=aF y;have HZ:=aF z;obtain ⟨y0,y1,y2,y3,y4,y5,y6⟩:=aS HY.out;obtain ⟨z0,z1,z2,z3,z4,z5,z6⟩:=aS HZ.out;have q0:=cN HB.out r0;clear y z hb)
 go_quiet (fail)
 all_goals go_wp2_with fail
 go_loopw [9] (fun v wr=>∃j:Nat,j<=n/\v = .int .i64 j/\Hid (aA (bdT b bh bb oo) wr w.heap.size)/\Hid (aA (rvL 2 op rv A c b5 o5 n d) wr (w.heap.size+1))/\Hid (Below w.heap.size w wr)/\Hid (opsE b rv.args []=opsE b (rv.args.drop j) [])) (fun v _=>n - (intOf v).toNat)
 case atStart=>exact ⟨0,by omega,rfl,aF HY.out,aF HZ.out,aF (aG HB.out _),aF rfl⟩
 case round=>
  clear HY HZ HB y0 y1 y2 y3 y4 y5 y6 z0 z1 z2 z3 z4 z5 z6 q0 r0;obtain ⟨j,hj,rfl,HY,HZ,HB,hr⟩:=hrel;have z6:=HZ.out 6 _ rfl;obtain ⟨z0,z1⟩:=aN HZ.out;by_cases hlt:j<n
  next=>
   have hl1:j<rv.args.length:=by rw [HN.out];exact hlt
   obtain ⟨b7,o7,hB7,hb7,hxo⟩:=HL.out.sl.at_ hl1;simp only [cJ,Addr.mk.injEq,and_true] at hB7;obtain ⟨rfl,rfl⟩:=hB7;have hmem:=bN hl1;have hd:=cY hl1;obtain ⟨o,hoo⟩:∃o,rv.args[j]=o:=⟨_,rfl⟩;rw [hoo] at hxo hd hmem;obtain ⟨p0,⟨p1,A2,c2,p2,hc1,hc2,hsl⟩,p3⟩:=hxo;have HPJ:Hid (Slc 2 RPj w A2 c2 o.place.proj):=aF ⟨hsl,hc1,hc2⟩;have P0:=aF p0;have P1:=aF p1;have P2:=aF (show w.cell? ⟨b5,o5+j * 4+2,none⟩=_ from p2);have P3:=aF p3;have HOO:=aF (fun W hb=>HOP.out W hb o A2 c2 HPJ.out);unfold opC at HOO
   have HV2:Hid ((opE b o≠0->R=opE b o)/\(opE b o=0->opsE b rv.args []=opsE b (rv.args.drop (j+1)) [])):=aF ⟨fun he=>by
    have h9:opsE b rv.args []=opE b o:=by rw [hr.out,hd,eX he]
    rw [HF0.out,h9,bA he],fun he=>by rw [hr.out,hd,fE he]⟩
   generalize opE b o=eo at HOO HV2;clear hr hd hmem hoo p0 p1 p2 p3 hsl hc1 hc2 hl1;go_wp2_with fail
   have hS:aB w (bdT b bh bb oo) (rvL 2 op rv A c b5 o5 n d) wr.drew:=⟨HY.out,HZ.out,HB.out.drew⟩;clear z0 z1 z6;refine cR (S:=fun X=>aB w (bdT b bh bb oo) (rvL 2 op rv A c b5 o5 n d) X) [0,1,2,3,4,5,6,7] (by kernel_rfl) ?_;(iterate 6 (refine cS (v:=?_) ?_ hS ?_;rotate_left;(next=>(rintro X ⟨hX,hY,hZ⟩;obtain ⟨s0,s1,s2,s3,s4,s5,s6⟩:=aS hX;have u6:=hY 6 _ rfl;have u0:=hY 0 _ rfl;have p0:=cN hZ P0.out;have p1:=cN hZ P1.out;have p2:=cN hZ P2.out;have p3:=cN hZ P3.out;(try simp only [aI]);go_simp;rfl));simp only [aM]));(refine cV (fun K1 hK1=>?_);simp only [aM];rw [bA (by rfl)];go_simp);refine (HOO.out _ hS.2.2).mono ?_;rintro e' w2 ⟨rfl,hb⟩;replace hS:=bJ (cO hS.1 hb) (bJ (cO hS.2.1 hb) (hS.2.2.trans (hb.mono hS.2.2.size)));have HS2:=aF hS;clear hb;refine hK1.out _ _ (fun _=>hS) ?_;clear hK1;((refine cS (v:=?_) ?_ hS ?_;rotate_left;(next=>(rintro X -;(try simp only [aI]);go_simp;rfl));simp only [aM]))
   refine dA ?_;clear hS;by_cases he:eo=0
   ·subst he;have HV3:=aF (HV2.out.2 rfl);clear HV2;go_wp2_with fail
    have hS:aB w (bdT b bh bb oo) (rvL 2 op rv A c b5 o5 n d) w2.drew:=⟨HS2.out.1,HS2.out.2.1,HS2.out.2.2.drew⟩;refine cR (S:=fun X=>aB w (bdT b bh bb oo) (rvL 2 op rv A c b5 o5 n d) X) [0,1,2,3,4,5,6,7,8,9,10,11,12,13,14,15,16,17,18,19,20,21] (by kernel_rfl) ?_;(iterate 4 (refine cS (v:=?_) ?_ hS ?_;rotate_left;(next=>(rintro X ⟨hX,hY,hZ⟩;obtain ⟨s0,s1,s2,s3,s4,s5,s6⟩:=aS hX;have u6:=hY 6 _ rfl;have u0:=hY 0 _ rfl;have p0:=cN hZ P0.out;have p1:=cN hZ P1.out;have p2:=cN hZ P2.out;have p3:=cN hZ P3.out;(try simp only [aI]);go_simp;rfl));simp only [aM]));(iterate 17 (refine cU (v:=undef) (by kernel_rfl) (fun _ _ _ h=>h) (Or.inr ⟨by rfl,rfl⟩) hS ?_;simp only [aM]));((refine cS (v:=?_) ?_ hS ?_;rotate_left;(next=>(rintro X -;(try simp only [aI]);go_simp;rfl));simp only [aM]))
    refine dA ?_;clear hS;go_wp2_with fail
    go_roundw
    case rel=>exact ⟨j+1,by omega,by go_num,aF HS2.out.1,aF HS2.out.2.1,aF HS2.out.2.2.drew,HV3⟩
    case measure=>simp [intOf];omega
   ·have HF:=aF (HV2.out.1 he);have e1:(eo != 0)=true:=by simp [he]
    clear he HV2;go_wp2_with fail
    go_ret;exact ⟨by rw [HF.out];rfl,HS2.out.2.2⟩
  next=>
   have hz:opsE b rv.args []=0:=by rw [hr.out,bE (by rw [HN.out];omega),dH]
   have HALL:=aF (jJ hz);have HQ:Hid (R=if (rv.args.drop 0).all (fun o=>decide (kindO b o=q1))=true then fail22 (decide (tk≠q2)) else 22):=aF (by rw [HF0.out,aZ (by simp [hz]),bX]);clear hr hz HF0
   have hcs:(q1=1/\q2=1/\(op == 1)=true)\/(q1=2/\q2=2/\(op == 1)=false):=by
    rw [<- HQ1.out,<- HQ2.out];by_cases g:op=1
    ·left;simp [g]
    ·right;simp [g]
   rcases hcs with ⟨g0,g1,e12⟩ | ⟨g0,g1,e12⟩
   all_goals
    have HX1:=aF g0;have HX2:=aF g1;clear g0 g1;go_wp2_with fail
    clear hlt hj;go_loopw [13] (fun v wr=>∃j:Nat,j<=n/\v = .int .i64 j/\Hid (aA (bdT b bh bb oo) wr w.heap.size)/\Hid (aA (rvL 2 op rv A c b5 o5 n d) wr (w.heap.size+1))/\Hid (Below w.heap.size w wr)/\Hid (R=if (rv.args.drop j).all (fun o=>decide (kindO b o=q1))=true then fail22 (decide (tk≠q2)) else 22)) (fun v _=>n - (intOf v).toNat)
    case atStart=>exact ⟨0,by omega,rfl,HY,HZ,HB,HQ⟩
    case round=>
     clear HY HZ HB HQ z0 z1 z6;obtain ⟨j,hj,rfl,HY,HZ,HB,hr⟩:=hrel;have z6:=HZ.out 6 _ rfl;have z0:=HZ.out 0 _ rfl;by_cases hlt:j<n
     next=>
      have hl1:j<rv.args.length:=by rw [HN.out];exact hlt
      obtain ⟨b7,o7,hB7,hb7,hxo⟩:=HL.out.sl.at_ hl1;simp only [cJ,Addr.mk.injEq,and_true] at hB7;obtain ⟨rfl,rfl⟩:=hB7;have hmem:=bN hl1;have hd:=cY hl1;obtain ⟨o,hoo⟩:∃o,rv.args[j]=o:=⟨_,rfl⟩;rw [hoo] at hxo hd hmem;obtain ⟨p0,⟨p1,A2,c2,p2,hc1,hc2,hsl⟩,p3⟩:=hxo;have HPJ:Hid (Slc 2 RPj w A2 c2 o.place.proj):=aF ⟨hsl,hc1,hc2⟩;have P0:=aF p0;have P1:=aF p1;have P2:=aF (show w.cell? ⟨b5,o5+j * 4+2,none⟩=_ from p2);have P3:=aF p3;have HOO:=aF (fun W hb=>HKK.out W hb o A2 c2 HPJ.out (HALL.out o hmem));unfold opC at HOO
      have HV2:Hid ((kindO b o≠q1->R=22)/\(kindO b o=q1->R=if (rv.args.drop (j+1)).all (fun o=>decide (kindO b o=q1))=true then fail22 (decide (tk≠q2)) else 22)):=aF (by
       rw [hr.out,hd,cC];constructor
       ·intro h;simp [h]
       ·intro h;simp [h])
      obtain ⟨kq,hkq⟩:∃q,decide (kindO b o=q1)=q:=⟨_,rfl⟩;rw [hkq] at HOO;rw [HX1.out] at HOO;have HKQ:=aF hkq;clear hr hd hmem hoo p0 p1 p2 p3 hsl hc1 hc2 hl1 hkq;go_wp2_with fail
      have hS:aB w (bdT b bh bb oo) (rvL 2 op rv A c b5 o5 n d) wr.drew:=⟨HY.out,HZ.out,HB.out.drew⟩;clear z0 z6;refine cR (S:=fun X=>aB w (bdT b bh bb oo) (rvL 2 op rv A c b5 o5 n d) X) [0,1,2,3,4,5,6,7,8] (by kernel_rfl) ?_;(iterate 7 (refine cS (v:=?_) ?_ hS ?_;rotate_left;(next=>(rintro X ⟨hX,hY,hZ⟩;obtain ⟨s0,s1,s2,s3,s4,s5,s6⟩:=aS hX;have u6:=hY 6 _ rfl;have u0:=hY 0 _ rfl;have p0:=cN hZ P0.out;have p1:=cN hZ P1.out;have p2:=cN hZ P2.out;have p3:=cN hZ P3.out;(try simp only [aI]);go_simp;rfl));simp only [aM]));(refine cV (fun K1 hK1=>?_);simp only [aM];rw [bA (by rfl)];go_simp);refine (HOO.out _ hS.2.2).mono ?_;rintro e' w2 ⟨rfl,hb⟩;replace hS:=bJ (cO hS.1 hb) (bJ (cO hS.2.1 hb) (hS.2.2.trans (hb.mono hS.2.2.size)));have HS2:=aF hS;clear hb;refine hK1.out _ _ (fun _=>hS) ?_;clear hK1;((refine cS (v:=?_) ?_ hS ?_;rotate_left;(next=>(rintro X -;(try simp only [aI]);go_simp;rfl));simp only [aM]))
      refine dA ?_;clear hS;cases kq
      ·have HF:Hid (R=22):=aF (HV2.out.1 (by have:=HKQ.out;simpa using this));clear HV2;go_wp2_with fail
       go_ret;exact ⟨by rw [HF.out];rfl,HS2.out.2.2⟩
      ·have HF:=aF (HV2.out.2 (by have:=HKQ.out;simpa using this));clear HV2;go_wp2_with fail
       go_roundw
       case rel=>exact ⟨j+1,by omega,by go_num,aF HS2.out.1,aF HS2.out.2.1,aF HS2.out.2.2,HF⟩
       case measure=>simp [intOf];omega
     next=>
      have HF:Hid (R=fail22 (decide (tk≠q2))):=aF (by rw [hr.out,bE (by rw [HN.out];omega)];rfl);have e9:(tk != q2)=decide (tk≠q2):=by rw [bR];simp
      clear hr;by_cases h9:tk=q2
      ·have e8:(tk != q2)=false:=by simp [h9]
       rw [HX2.out] at e8;have HF2:Hid (R=0):=aF (by rw [HF.out];simp [h9,fail22]);clear e9 h9;go_wp2_with fail
       go_ret;exact ⟨by rw [HF2.out];rfl,HB.out⟩
      ·have e8:(tk != q2)=true:=by simp [h9]
       rw [HX2.out] at e8;have HF2:Hid (R=22):=aF (by rw [HF.out];simp [h9,fail22]);clear e9 h9;go_wp2_with fail
       go_ret;exact ⟨by rw [HF2.out];rfl,HB.out⟩
theorem xDZ {b:Bdy} {bh:BH} {w:World} (H:Rk w b bh) (rv:Rvl) (t:Nat) (ht:t<b.types.length) (A B:Option Addr) (c d:Nat) (hl:Slc 4 ROp w B d rv.args) (h:shapeE rv=0) (hk:rv.kind=3) (hop:0<=rv.op/\rv.op<=5) (hpos:0<rv.args.length):
 Calls Tryz.prog 97 #[.agg (bdC b bh).toArray,.agg (rvC rv A c B d).toArray,.int .i64 t] w fun e' w'=>e' = .returned (.int .i64 (rvE b rv t))/\Below w.heap.size w w':=by
 obtain ⟨op,hope⟩:∃op,rv.op=op:=⟨_,rfl⟩;rw [hope] at hop;obtain ⟨hop0,hop1⟩:=hop;obtain ⟨q1,hq1⟩:∃q:Int,(if op=5 then 1 else 2)=q:=⟨_,rfl⟩;obtain ⟨q2,hq2⟩:∃q:Int,(if 3<=op then 1 else 2)=q:=⟨_,rfl⟩;have e10:decide (op<0)=false:=by simp;omega
 have e11:decide (5<op)=false:=by simp;omega
 have HSH:=aF (fun W=>eH rv A B c d W);have HOP:=aF (fun W (hb:Below w.heap.size w W) (o:Opd) (A:Option Addr) (c:Nat) (hp:Slc 2 RPj w A c o.place.proj)=>dJ (H.keep hb) o A c (hp.keep RPj.keeps hb));have HKK:=aF (fun W (hb:Below w.heap.size w W) (o:Opd) (A:Option Addr) (c:Nat) (hp:Slc 2 RPj w A c o.place.proj) (ho:opE b o=0)=>iQ (H.keep hb).at_ H.ok o q1 A c (hp.keep RPj.keeps hb) ho)
 have HF0:Hid (rvE b rv t=if opsE b rv.args []≠0 then opsE b rv.args [] else if rv.args.all (fun o=>decide (kindO b o=q1))=true then fail22 (decide (b.types[t].kind≠q2)) else 22):=aF (by
  have hkt:kindT b (t:Int)=b.types[t].kind:=by unfold kindT;simp [ht]
  rw [kV h ht,hk,<- hq1,<- hq2];rcases (show op=0\/op=1\/op=2\/op=3\/op=4\/op=5 by omega) with e | e | e | e | e | e
  all_goals
   rw [e] at hope;simp only [operE,hope,hkt,e]
   rfl)
 have HQ1:=aF hq1;have HQ2:=aF hq2;clear hq1 hq2;rw [h] at HSH;obtain ⟨bb,oo,hA3,hbb,hx⟩:=H.at_.typ.sl.at_ ht;have hle3:=H.at_.typ.le;have hbig3:=H.at_.typ.big;obtain ⟨r0,-⟩:=hx;have hle:=hl.le;have hbig:=hl.big;obtain ⟨b5,o5,rfl,hb5,-⟩:=hl.sl.at_ hpos;have HL:=aF hl;obtain ⟨n,hn⟩:∃n,rv.args.length=n:=⟨_,rfl⟩;have HN:=aF hn;generalize rvE b rv t=R at HF0 ⊢;generalize b.types[t].kind=tk at r0 HF0;clear H h hl;unfold bdC at *;unfold rvC at *;rw [hA3] at HOP HKK ⊢;rw [hn] at hle;rw [hk,hope,hn] at HSH ⊢;clear hn hpos hope hk;go_enter Tryz.func97,Tryz.ntmps97
 go_wp2_with (go_at_call 141;refine (HSH.out _).mono ?_;rintro e' w1 ⟨rfl,hb⟩;have HB:=aF ((bel2 _ _ _).trans (hb.mono (bel2 _ _ _).size));obtain ⟨y,z⟩:=cW hb;have HY:=aF y;have HZ:=aF z;obtain ⟨y0,y1,y2,y3,y4,y5,y6⟩:=aS HY.out;obtain ⟨z0,z1,z2,z3,z4,z5,z6⟩:=aS HZ.out;have q0:=cN HB.out r0;clear y z hb)
 go_quiet (fail)
 all_goals go_wp2_with fail
 go_loopw [9] (fun v wr=>∃j:Nat,j<=n/\v = .int .i64 j/\Hid (aA (bdT b bh bb oo) wr w.heap.size)/\Hid (aA (rvL 3 op rv A c b5 o5 n d) wr (w.heap.size+1))/\Hid (Below w.heap.size w wr)/\Hid (opsE b rv.args []=opsE b (rv.args.drop j) [])) (fun v _=>n - (intOf v).toNat)
 case atStart=>exact ⟨0,by omega,rfl,aF HY.out,aF HZ.out,aF (aG HB.out _),aF rfl⟩
 case round=>
  clear HY HZ HB y0 y1 y2 y3 y4 y5 y6 z0 z1 z2 z3 z4 z5 z6 q0 r0;obtain ⟨j,hj,rfl,HY,HZ,HB,hr⟩:=hrel;have z6:=HZ.out 6 _ rfl;obtain ⟨z0,z1⟩:=aN HZ.out;by_cases hlt:j<n
  next=>
   have hl1:j<rv.args.length:=by rw [HN.out];exact hlt
   obtain ⟨b7,o7,hB7,hb7,hxo⟩:=HL.out.sl.at_ hl1;simp only [cJ,Addr.mk.injEq,and_true] at hB7;obtain ⟨rfl,rfl⟩:=hB7;have hmem:=bN hl1;have hd:=cY hl1;obtain ⟨o,hoo⟩:∃o,rv.args[j]=o:=⟨_,rfl⟩;rw [hoo] at hxo hd hmem;obtain ⟨p0,⟨p1,A2,c2,p2,hc1,hc2,hsl⟩,p3⟩:=hxo;have HPJ:Hid (Slc 2 RPj w A2 c2 o.place.proj):=aF ⟨hsl,hc1,hc2⟩;have P0:=aF p0;have P1:=aF p1;have P2:=aF (show w.cell? ⟨b5,o5+j * 4+2,none⟩=_ from p2);have P3:=aF p3;have HOO:=aF (fun W hb=>HOP.out W hb o A2 c2 HPJ.out);unfold opC at HOO
   have HV2:Hid ((opE b o≠0->R=opE b o)/\(opE b o=0->opsE b rv.args []=opsE b (rv.args.drop (j+1)) [])):=aF ⟨fun he=>by
    have h9:opsE b rv.args []=opE b o:=by rw [hr.out,hd,eX he]
    rw [HF0.out,h9,bA he],fun he=>by rw [hr.out,hd,fE he]⟩
   generalize opE b o=eo at HOO HV2;clear hr hd hmem hoo p0 p1 p2 p3 hsl hc1 hc2 hl1;go_wp2_with fail
   have hS:aB w (bdT b bh bb oo) (rvL 3 op rv A c b5 o5 n d) wr.drew:=⟨HY.out,HZ.out,HB.out.drew⟩;clear z0 z1 z6;refine cR (S:=fun X=>aB w (bdT b bh bb oo) (rvL 3 op rv A c b5 o5 n d) X) [0,1,2,3,4,5,6,7] (by kernel_rfl) ?_;(iterate 6 (refine cS (v:=?_) ?_ hS ?_;rotate_left;(next=>(rintro X ⟨hX,hY,hZ⟩;obtain ⟨s0,s1,s2,s3,s4,s5,s6⟩:=aS hX;have u6:=hY 6 _ rfl;have u0:=hY 0 _ rfl;have p0:=cN hZ P0.out;have p1:=cN hZ P1.out;have p2:=cN hZ P2.out;have p3:=cN hZ P3.out;(try simp only [aI]);go_simp;rfl));simp only [aM]));(refine cV (fun K1 hK1=>?_);simp only [aM];rw [bA (by rfl)];go_simp);refine (HOO.out _ hS.2.2).mono ?_;rintro e' w2 ⟨rfl,hb⟩;replace hS:=bJ (cO hS.1 hb) (bJ (cO hS.2.1 hb) (hS.2.2.trans (hb.mono hS.2.2.size)));have HS2:=aF hS;clear hb;refine hK1.out _ _ (fun _=>hS) ?_;clear hK1;((refine cS (v:=?_) ?_ hS ?_;rotate_left;(next=>(rintro X -;(try simp only [aI]);go_simp;rfl));simp only [aM]))
   refine dA ?_;clear hS;by_cases he:eo=0
   ·subst he;have HV3:=aF (HV2.out.2 rfl);clear HV2;go_wp2_with fail
    have hS:aB w (bdT b bh bb oo) (rvL 3 op rv A c b5 o5 n d) w2.drew:=⟨HS2.out.1,HS2.out.2.1,HS2.out.2.2.drew⟩;refine cR (S:=fun X=>aB w (bdT b bh bb oo) (rvL 3 op rv A c b5 o5 n d) X) [0,1,2,3,4,5,6,7,8,9,10,11,12,13,14,15,16,17,18,19,20,21] (by kernel_rfl) ?_;(iterate 4 (refine cS (v:=?_) ?_ hS ?_;rotate_left;(next=>(rintro X ⟨hX,hY,hZ⟩;obtain ⟨s0,s1,s2,s3,s4,s5,s6⟩:=aS hX;have u6:=hY 6 _ rfl;have u0:=hY 0 _ rfl;have p0:=cN hZ P0.out;have p1:=cN hZ P1.out;have p2:=cN hZ P2.out;have p3:=cN hZ P3.out;(try simp only [aI]);go_simp;rfl));simp only [aM]));(iterate 17 (refine cU (v:=undef) (by kernel_rfl) (fun _ _ _ h=>h) (Or.inr ⟨by rfl,rfl⟩) hS ?_;simp only [aM]));((refine cS (v:=?_) ?_ hS ?_;rotate_left;(next=>(rintro X -;(try simp only [aI]);go_simp;rfl));simp only [aM]))
    refine dA ?_;clear hS;go_wp2_with fail
    go_roundw
    case rel=>exact ⟨j+1,by omega,by go_num,aF HS2.out.1,aF HS2.out.2.1,aF HS2.out.2.2.drew,HV3⟩
    case measure=>simp [intOf];omega
   ·have HF:=aF (HV2.out.1 he);have e1:(eo != 0)=true:=by simp [he]
    clear he HV2;go_wp2_with fail
    go_ret;exact ⟨by rw [HF.out];rfl,HS2.out.2.2⟩
  next=>
   have hz:opsE b rv.args []=0:=by rw [hr.out,bE (by rw [HN.out];omega),dH]
   have HALL:=aF (jJ hz);have HQ:Hid (R=if (rv.args.drop 0).all (fun o=>decide (kindO b o=q1))=true then fail22 (decide (tk≠q2)) else 22):=aF (by rw [HF0.out,aZ (by simp [hz]),bX]);clear hr hz HF0
   have hcs:(q1=2/\q2=2/\(op == 5)=false/\decide (3<=op)=false)\/(q1=2/\q2=1/\(op == 5)=false/\decide (3<=op)=true)\/(q1=1/\q2=1/\(op == 5)=true/\decide (3<=op)=true):=by
    rw [<- HQ1.out,<- HQ2.out];by_cases g:op=5
    ·right;right;simp [g]
    ·by_cases g2:3<=op
     ·right;left;simp [g,g2]
     ·left;simp [g,g2]
   rcases hcs with ⟨g0,g1,e12,e13⟩ | ⟨g0,g1,e12,e13⟩ | ⟨g0,g1,e12,e13⟩
   all_goals
    have HX1:=aF g0;have HX2:=aF g1;clear g0 g1;go_wp2_with fail
    clear hlt hj;go_loopw [13] (fun v wr=>∃j:Nat,j<=n/\v = .int .i64 j/\Hid (aA (bdT b bh bb oo) wr w.heap.size)/\Hid (aA (rvL 3 op rv A c b5 o5 n d) wr (w.heap.size+1))/\Hid (Below w.heap.size w wr)/\Hid (R=if (rv.args.drop j).all (fun o=>decide (kindO b o=q1))=true then fail22 (decide (tk≠q2)) else 22)) (fun v _=>n - (intOf v).toNat)
    case atStart=>exact ⟨0,by omega,rfl,HY,HZ,HB,HQ⟩
    case round=>
     clear HY HZ HB HQ z0 z1 z6;obtain ⟨j,hj,rfl,HY,HZ,HB,hr⟩:=hrel;have z6:=HZ.out 6 _ rfl;have z0:=HZ.out 0 _ rfl;by_cases hlt:j<n
     next=>
      have hl1:j<rv.args.length:=by rw [HN.out];exact hlt
      obtain ⟨b7,o7,hB7,hb7,hxo⟩:=HL.out.sl.at_ hl1;simp only [cJ,Addr.mk.injEq,and_true] at hB7;obtain ⟨rfl,rfl⟩:=hB7;have hmem:=bN hl1;have hd:=cY hl1;obtain ⟨o,hoo⟩:∃o,rv.args[j]=o:=⟨_,rfl⟩;rw [hoo] at hxo hd hmem;obtain ⟨p0,⟨p1,A2,c2,p2,hc1,hc2,hsl⟩,p3⟩:=hxo;have HPJ:Hid (Slc 2 RPj w A2 c2 o.place.proj):=aF ⟨hsl,hc1,hc2⟩;have P0:=aF p0;have P1:=aF p1;have P2:=aF (show w.cell? ⟨b5,o5+j * 4+2,none⟩=_ from p2);have P3:=aF p3;have HOO:=aF (fun W hb=>HKK.out W hb o A2 c2 HPJ.out (HALL.out o hmem));unfold opC at HOO
      have HV2:Hid ((kindO b o≠q1->R=22)/\(kindO b o=q1->R=if (rv.args.drop (j+1)).all (fun o=>decide (kindO b o=q1))=true then fail22 (decide (tk≠q2)) else 22)):=aF (by
       rw [hr.out,hd,cC];constructor
       ·intro h;simp [h]
       ·intro h;simp [h])
      obtain ⟨kq,hkq⟩:∃q,decide (kindO b o=q1)=q:=⟨_,rfl⟩;rw [hkq] at HOO;rw [HX1.out] at HOO;have HKQ:=aF hkq;clear hr hd hmem hoo p0 p1 p2 p3 hsl hc1 hc2 hl1 hkq;go_wp2_with fail
      have hS:aB w (bdT b bh bb oo) (rvL 3 op rv A c b5 o5 n d) wr.drew:=⟨HY.out,HZ.out,HB.out.drew⟩;clear z0 z6;refine cR (S:=fun X=>aB w (bdT b bh bb oo) (rvL 3 op rv A c b5 o5 n d) X) [0,1,2,3,4,5,6,7,8] (by kernel_rfl) ?_;(iterate 7 (refine cS (v:=?_) ?_ hS ?_;rotate_left;(next=>(rintro X ⟨hX,hY,hZ⟩;obtain ⟨s0,s1,s2,s3,s4,s5,s6⟩:=aS hX;have u6:=hY 6 _ rfl;have u0:=hY 0 _ rfl;have p0:=cN hZ P0.out;have p1:=cN hZ P1.out;have p2:=cN hZ P2.out;have p3:=cN hZ P3.out;(try simp only [aI]);go_simp;rfl));simp only [aM]));(refine cV (fun K1 hK1=>?_);simp only [aM];rw [bA (by rfl)];go_simp);refine (HOO.out _ hS.2.2).mono ?_;rintro e' w2 ⟨rfl,hb⟩;replace hS:=bJ (cO hS.1 hb) (bJ (cO hS.2.1 hb) (hS.2.2.trans (hb.mono hS.2.2.size)));have HS2:=aF hS;clear hb;refine hK1.out _ _ (fun _=>hS) ?_;clear hK1;((refine cS (v:=?_) ?_ hS ?_;rotate_left;(next=>(rintro X -;(try simp only [aI]);go_simp;rfl));simp only [aM]))
      refine dA ?_;clear hS;cases kq
      ·have HF:Hid (R=22):=aF (HV2.out.1 (by have:=HKQ.out;simpa using this));clear HV2;go_wp2_with fail
       go_ret;exact ⟨by rw [HF.out];rfl,HS2.out.2.2⟩
      ·have HF:=aF (HV2.out.2 (by have:=HKQ.out;simpa using this));clear HV2;go_wp2_with fail
       go_roundw
       case rel=>exact ⟨j+1,by omega,by go_num,aF HS2.out.1,aF HS2.out.2.1,aF HS2.out.2.2,HF⟩
       case measure=>simp [intOf];omega
     next=>
      have HF:Hid (R=fail22 (decide (tk≠q2))):=aF (by rw [hr.out,bE (by rw [HN.out];omega)];rfl);have e9:(tk != q2)=decide (tk≠q2):=by rw [bR];simp
      clear hr;by_cases h9:tk=q2
      ·have e8:(tk != q2)=false:=by simp [h9]
       rw [HX2.out] at e8;have HF2:Hid (R=0):=aF (by rw [HF.out];simp [h9,fail22]);clear e9 h9;go_wp2_with fail
       go_ret;exact ⟨by rw [HF2.out];rfl,HB.out⟩
      ·have e8:(tk != q2)=true:=by simp [h9]
       rw [HX2.out] at e8;have HF2:Hid (R=22):=aF (by rw [HF.out];simp [h9,fail22]);clear e9 h9;go_wp2_with fail
       go_ret;exact ⟨by rw [HF2.out];rfl,HB.out⟩
end
section
open Go Go.RowKit
theorem zJ (ts:List Ty) (A:Option Addr) (c:Nat) (w:World) (hs:Slc 5 RTy w A c ts) (hl:ts.length<=200):
 Calls Tryz.prog 66 #[.slice A ts.length c] w fun e' w'=>(∃q:Bool,e' = .returned (.bool q))/\Below w.heap.size w w':=by
 obtain ⟨i0,hi,hz0,hz1,hz2⟩:=info_parts dZ;have hle:=hs.le;have hbg:=hs.big;have HS:=aF hs;clear hs;go_enter Tryz.func66,Tryz.ntmps66
 go_wp2_with fail
 go_loopw [3,11] (fun v i wr=>∃(k:Nat) (xs:List Int),k<=ts.length/\i = .int .i64 k/\xs.length=k/\Hid (wr.ownsRow w.heap.size 3 1 v k (xs.map (Value.int .i64)))/\Hid (Below w.heap.size w wr)) (fun _ i _=>ts.length - (intOf i).toNat)
 case atStart=>exact ⟨0,[],by omega,rfl,rfl,aF (World.ownsRow_nil _ _ _ _),aF (aX _ _)⟩
 case round=>
  obtain ⟨k,xs,hk,rfl,hxl,HO,HB⟩:=hrel;obtain ⟨A',c',hv⟩:=lC HO.out;subst hv;have hsz:=HB.out.size;by_cases hlt:k<ts.length
  next=>
   obtain ⟨b1,o1,rfl,hb1,r1⟩:=HS.out.sl.at_ hlt;obtain ⟨r1,r2,r3,r4,A2,c2,r5,r6,r7,r8⟩:=RTy.keeps _ _ _ w.heap.size _ _ _ (aY _) hb1 HB.out r1;generalize ts[k]=x at *;have HF:Hid (Sl 1 RInt wr w.heap.size A2 x.flds):=aF r8;obtain ⟨B',d',hB',hsl,-⟩:=kS (R:=RInt) (fun w B b o x h=>h) HO.out hxl;simp only [Value.slice.injEq,true_and] at hB';obtain ⟨rfl,rfl⟩:=hB';have HX:=aF hsl;have hls:=dB hb1;clear r8 hsl
   have HFK:Hid (∀X,Below w.heap.size w X->∀b7 o7 j (f:Int),b7<w.heap.size->RInt wr w.heap.size b7 (o7+j * 1) f->X.cell? ⟨b7,o7+j,none⟩=some (.int .i64 f)):=aF (fun X hX b7 o7 j f hb7 h=>by
    rw [Nat.mul_one] at h;have h1:w.cell? ⟨b7,o7+j,none⟩=some (.int .i64 f):=(HB.out.cell (p:=⟨b7,o7+j,none⟩) hb7).symm.trans h
    exact cN hX h1)
   obtain ⟨kd,mu,rg,el,fl⟩:=x;simp only at r1 r2 r3 r4 r5 r6 r7 HF;by_cases hg:kd=3/\0<=el/\el<k
   next=>
    obtain ⟨rfl,h0,h1⟩:=hg;obtain ⟨e,rfl⟩:=bG h0;obtain ⟨b8,o8,rfl,hb8,hxe⟩:=HX.out.sl.at_ (show e<xs.length by omega);have x1:wr.cell? ⟨b8,o8+e,none⟩=some (.int .i64 xs[e]):=(by simpa [RInt] using hxe);generalize xs[e]=y at x1;clear hxe;have hls8:=dB hb8;go_wp2_with fail
    clear r1 r2 r3 r4 r5;clear HX;all_goals try (exfalso;omega)
    all_goals
     have HO2:=aF (fun o=>HO.out.alloc o);have HB2:=aF (fun o=>HB.out.alloc hsz o);go_loopw [6,40] (fun n u wr2=>∃(j:Nat) (m:Int),j<=fl.length/\u = .int .i64 j/\n = .int .i64 m/\Hid (wr2.ownsRow w.heap.size 3 1 (.slice (some ⟨b8,o8,none⟩) k c') k (xs.map (Value.int .i64)))/\Hid (Below w.heap.size w wr2)) (fun _ u _=>fl.length - (intOf u).toNat)
     case atStart=>exact ⟨0,_,by omega,rfl,rfl,aF (HO2.out _),aF (HB2.out _)⟩
     case round=>
      clear HO2 HB2 HO HB;obtain ⟨j,m,hj,rfl,rfl,HO,HB⟩:=hrel;have hsz:=HB.out.size;by_cases hjl:j<fl.length
      ·obtain ⟨b7,o7,rfl,hb7,hxj⟩:=HF.out.at_ hjl;obtain ⟨f,hf⟩:∃f,fl[j]=f:=⟨_,rfl⟩;rw [hf] at hxj;have x0:wr.cell? ⟨b7,o7+j,none⟩=some (.int .i64 f):=HFK.out wr HB.out b7 o7 j f hb7 hxj;clear hxj hf;by_cases hg:0<=f/\f<k
       ·obtain ⟨e,rfl⟩:=bG hg.1;obtain ⟨B',d',hB',hsl,-⟩:=kS (R:=RInt) (fun w B b o x h=>h) HO.out hxl;simp only [Value.slice.injEq,true_and] at hB';obtain ⟨hB1,hd1⟩:=hB';subst hd1;subst hB1;obtain ⟨b8,o8,hB9,hb8,hxe⟩:=hsl.sl.at_ (show e<xs.length by omega);cases hB9
        have x1:wr.cell? ⟨b8,o8+e,none⟩=some (.int .i64 xs[e]):=(by simpa [RInt] using hxe);generalize xs[e]=y at x1;clear hxe hsl;go_wp2_with fail
        all_goals first
         | (exfalso;omega)
         | (go_ret;exact ⟨by first | exact ⟨_,rfl⟩ | exact .inl rfl | exact .inr rfl,HB.out⟩)
         | (go_roundw
            case rel=>exact ⟨j+1,_,by omega,by go_num,rfl,HO,HB⟩
            case measure=>simp [intOf];omega)
       ·go_wp2_with fail
        all_goals first
         | (exfalso;omega)
         | (go_ret;exact ⟨by first | exact ⟨_,rfl⟩ | exact .inl rfl | exact .inr rfl,HB.out⟩)
         | (go_roundw
            case rel=>exact ⟨j+1,_,by omega,by go_num,rfl,HO,HB⟩
            case measure=>simp [intOf];omega)
      ·have hown2:=HO.out.alloc (.cells #[.int .i64 m] 3);go_wp2_with (at_builtin;refine wpList_append_own _ rfl _ _ 58 rfl w.heap.size 3 i0 (.int .i64 0) 1 8 Tryz.underlying58 hi hz0 hz1 hz2 rfl (by decide) _ _ _ rfl hown2 ⟨wr.heap.size,0,none⟩ 1 1 [.int .i64 m] rfl rfl (fun j u hj=>by rw [add0];exact kX _ [.int .i64 m] _ j u hj) (fun u hu=>by simp at hu;subst hu;rfl) (by unfold maxLen;omega) (by omega) (by simp;omega) ?_)
       intro v' w2 hown' hgrow _;have HO2:Hid (w2.ownsRow w.heap.size 3 1 v' (k+1) ((xs ++ [m]).map (Value.int .i64))):=aF (by rw [bU];exact hown');have HB2:Hid (Below w.heap.size w w2):=aF ((HB.out.alloc hsz _).grown hgrow (by simp;omega) (fun g hg=>(hown2.lt g hg).1));clear hown' hgrow hown2;go_wp2_with fail
       go_roundw
       case rel=>exact ⟨k+1,xs ++ [m],by omega,by go_num,by simp [hxl],HO2,HB2⟩
       case measure=>simp [intOf];omega
   next=>
   go_wp2_with fail
   clear r1 r2 r3 r4 r5;clear HX;all_goals try (exfalso;omega)
   all_goals
    have HO2:=aF (fun o=>HO.out.alloc o);have HB2:=aF (fun o=>HB.out.alloc hsz o);go_loopw [6,40] (fun n u wr2=>∃(j:Nat) (m:Int),j<=fl.length/\u = .int .i64 j/\n = .int .i64 m/\Hid (wr2.ownsRow w.heap.size 3 1 (.slice A' k c') k (xs.map (Value.int .i64)))/\Hid (Below w.heap.size w wr2)) (fun _ u _=>fl.length - (intOf u).toNat)
    case atStart=>exact ⟨0,_,by omega,rfl,rfl,aF (HO2.out _),aF (HB2.out _)⟩
    case round=>
     clear HO2 HB2 HO HB;obtain ⟨j,m,hj,rfl,rfl,HO,HB⟩:=hrel;have hsz:=HB.out.size;by_cases hjl:j<fl.length
     ·obtain ⟨b7,o7,rfl,hb7,hxj⟩:=HF.out.at_ hjl;obtain ⟨f,hf⟩:∃f,fl[j]=f:=⟨_,rfl⟩;rw [hf] at hxj;have x0:wr.cell? ⟨b7,o7+j,none⟩=some (.int .i64 f):=HFK.out wr HB.out b7 o7 j f hb7 hxj;clear hxj hf;by_cases hg:0<=f/\f<k
      ·obtain ⟨e,rfl⟩:=bG hg.1;obtain ⟨B',d',hB',hsl,-⟩:=kS (R:=RInt) (fun w B b o x h=>h) HO.out hxl;simp only [Value.slice.injEq,true_and] at hB';obtain ⟨hB1,hd1⟩:=hB';subst hd1;subst hB1;obtain ⟨b8,o8,hB9,hb8,hxe⟩:=hsl.sl.at_ (show e<xs.length by omega);cases hB9
       have x1:wr.cell? ⟨b8,o8+e,none⟩=some (.int .i64 xs[e]):=(by simpa [RInt] using hxe);generalize xs[e]=y at x1;clear hxe hsl;go_wp2_with fail
       all_goals first
        | (exfalso;omega)
        | (go_ret;exact ⟨by first | exact ⟨_,rfl⟩ | exact .inl rfl | exact .inr rfl,HB.out⟩)
        | (go_roundw
           case rel=>exact ⟨j+1,_,by omega,by go_num,rfl,HO,HB⟩
           case measure=>simp [intOf];omega)
      ·go_wp2_with fail
       all_goals first
        | (exfalso;omega)
        | (go_ret;exact ⟨by first | exact ⟨_,rfl⟩ | exact .inl rfl | exact .inr rfl,HB.out⟩)
        | (go_roundw
           case rel=>exact ⟨j+1,_,by omega,by go_num,rfl,HO,HB⟩
           case measure=>simp [intOf];omega)
     ·have hown2:=HO.out.alloc (.cells #[.int .i64 m] 3);go_wp2_with (at_builtin;refine wpList_append_own _ rfl _ _ 58 rfl w.heap.size 3 i0 (.int .i64 0) 1 8 Tryz.underlying58 hi hz0 hz1 hz2 rfl (by decide) _ _ _ rfl hown2 ⟨wr.heap.size,0,none⟩ 1 1 [.int .i64 m] rfl rfl (fun j u hj=>by rw [add0];exact kX _ [.int .i64 m] _ j u hj) (fun u hu=>by simp at hu;subst hu;rfl) (by unfold maxLen;omega) (by omega) (by simp;omega) ?_)
      intro v' w2 hown' hgrow _;have HO2:Hid (w2.ownsRow w.heap.size 3 1 v' (k+1) ((xs ++ [m]).map (Value.int .i64))):=aF (by rw [bU];exact hown');have HB2:Hid (Below w.heap.size w w2):=aF ((HB.out.alloc hsz _).grown hgrow (by simp;omega) (fun g hg=>(hown2.lt g hg).1));clear hown' hgrow hown2;go_wp2_with fail
      go_roundw
      case rel=>exact ⟨k+1,xs ++ [m],by omega,by go_num,by simp [hxl],HO2,HB2⟩
      case measure=>simp [intOf];omega
  next=>
   clear HO;go_wp2_with fail
   go_ret;exact ⟨by first | exact ⟨_,rfl⟩ | exact .inl rfl | exact .inr rfl,HB.out⟩
end
section
open Go Go.RowKit Go.Shelf
attribute [local go_sem] Oper.semAt_some
theorem dL {X:World} {n:Nat} {l:List Value} {T:TypeId} (h:X.heap[n]?=some (.cells l.toArray T (0,0))):∀i v,l[i]?=some v->X.cell? ⟨n,i,none⟩=some v:=fun i v hi=>by
 simp [World.cell?,h,hi]
theorem xBI {X:World} {n:Nat} {v u:Value} {T:TypeId} (h:X.heap[n]?=some (.cells #[v] T (0,0))):(X.setCell ⟨n,0,none⟩ u).heap[n]?=some (.cells #[u] T (0,0)):=by
 simp [World.setCell,Array.getElem?_modify,h]
def mx2 (x y:Int):Int:=if y > x then y else x
theorem xGO (x y:Int):mx2 x y=max x y:=by unfold mx2;split <;> omega
def fcMax (f:Fct):Int:=mx2 (mx2 (mx2 (mx2 (f.loans.length:Int) f.edges.length) f.killed.length) f.inval.length) f.live.length
theorem yG (f:Fct):16777216<fcMax f↔fcBig f:=by unfold fcMax fcBig;simp only [xGO];omega
theorem uZ (f:Fct) (fh:FH) (p r:Int) (w:World) (H:FcAt w f fh):
 Calls Tryz.prog 43 #[.agg (fcC f fh).toArray,.int .i64 p,.int .i64 r] w fun e' w'=>e' = .returned (.int .i64 (fctE f p r))/\Below w.heap.size w w':=by
 obtain ⟨A0,c0,A1,c1,A2,c2,A3,c3,A4,c4⟩:=fh;have HH:=aF H;obtain ⟨R,hR⟩:∃R,fctE f p r=R:=⟨_,rfl⟩;rw [hR];have HR:=aF hR;have l0:=H.ln.le;have l1:=H.ed.le;have l2:=H.ki.le;have l3:=H.iv.le;have l4:=H.li.le;have m0:=H.ln.big;have m1:=H.ed.big;have m2:=H.ki.big;have m3:=H.iv.big;have m4:=H.li.big;simp only at l0 l1 l2 l3 l4 m0 m1 m2 m3 m4;obtain ⟨M,hM⟩:∃M,fcMax f=M:=⟨_,rfl⟩;have HMB:=aF (yG f);rw [hM] at HMB;have hmx:∀W,(Builtin.max_ #[3,3,3,3,3] 3 #[.int .i64 f.loans.length,.int .i64 f.edges.length,.int .i64 f.killed.length,.int .i64 f.inval.length,.int .i64 f.live.length]).run Tryz.prog W = .ok (.int .i64 M) W:=fun W=>by rw [<- hM];simp [Builtin.max_,Builtin.max2,fcMax,mx2]
 clear hM hR H;unfold fcC;simp only;refine (callsIn_wide (n:=5)).1 ?_;refine callsIn_of_wp_marks Tryz.func43 rfl trivial ?_ rfl;simp only [Tryz.ntmps43,List.size_toArray,bK,bP,Nat.reduceAdd,Nat.reduceSub,Array.replicate_succ,Array.replicate_zero,List.push_toArray,List.append_toArray,List.nil_append,List.cons_append];gi_wp2
 refine wpIn_wide.2 (wp_scope_straight ((wpIn_wide (n:=5)).1 ?_));by_cases hb:fcBig f
 case pos=>
  have hM1:16777216<M:=HMB.out.2 hb;have HF:Hid (R=15):=aF (by rw [<- HR.out];unfold fctE;rw [bA hb]);clear hb HMB HR;gi_wp2
  rw [Exit.noGoto_ret];exact ⟨_,results_tmp rfl _ _ _,by rw [HF.out];rfl,(aX _ _).alloc (aY _) _⟩
 case neg=>
 have hM1:¬16777216<M:=fun h=>hb (HMB.out.1 h)
 have HLN:Hid (∀W,Below w.heap.size w W->_):=aF (fun W hb=>xL f.loans p r A0 c0 W (HH.out.ln.keep RLn.keeps hb));obtain ⟨W1,hW1⟩:∃W,w.alloc (.cells #[.slice A0 f.loans.length c0,.slice A1 f.edges.length c1,.slice A2 f.killed.length c2,.slice A3 f.inval.length c3,.slice A4 f.live.length c4] 39)=W:=⟨_,rfl⟩;have hB1:Below w.heap.size w W1:=by rw [<- hW1];exact (aX _ _).alloc (aY _) _
 have hN1:W1.heap[w.heap.size]?=some (.cells #[.slice A0 f.loans.length c0,.slice A1 f.edges.length c1,.slice A2 f.killed.length c2,.slice A3 f.inval.length c3,.slice A4 f.live.length c4] 39 (0,0)):=by rw [<- hW1];exact heap_alloc_new w _
 have HN1:=aF hN1;have HB1:=aF hB1;have HTB:Hid (losE p r none f.loans=0->R=tbE (tbsOf f ⟨A0,c0,A1,c1,A2,c2,A3,c3,A4,c4⟩ p r)):=aF (fun h=>by rw [<- HR.out];exact xEW hb h);have HLB:Hid (losE p r none f.loans≠0->R=losE p r none f.loans):=aF (fun h=>by rw [<- HR.out];unfold fctE;rw [aZ hb,bA h]);generalize losE p r none f.loans=le at HLN HTB HLB;clear hb HMB HR hN1 hB1;have HX:Hid (∀W,Below W1.heap.size W1 W->∀i v,(#[.slice A0 f.loans.length c0,.slice A1 f.edges.length c1,.slice A2 f.killed.length c2,.slice A3 f.inval.length c3,.slice A4 f.live.length c4]).toList[i]?=some v->W.cell? ⟨w.heap.size,i,none⟩=some v):=aF (fun W hb i v h=>cN hb (dL (l:=(#[.slice A0 f.loans.length c0,.slice A1 f.edges.length c1,.slice A2 f.killed.length c2,.slice A3 f.inval.length c3,.slice A4 f.live.length c4]).toList) HN1.out i v h));have x0:=HX.out W1 (aX _ _) 0 _ rfl;have x1:=HX.out W1 (aX _ _) 1 _ rfl;have x2:=HX.out W1 (aX _ _) 2 _ rfl;have x3:=HX.out W1 (aX _ _) 3 _ rfl;have x4:=HX.out W1 (aX _ _) 4 _ rfl;by_cases hle:le=0
 case neg=>
  have e1:(le != 0)=true:=by simp [hle]
  have HF:=aF (HLB.out hle);clear HLB HTB hle;gi_wp2_with (refine ⟨trivial,?_⟩;gi_at_call 86;refine (callsIn_wide.2 (HLN.out _ HB1.out)).mono ?_;rintro e' w2 ⟨rfl,hb2⟩)
  rw [Exit.noGoto_ret];exact ⟨_,results_tmp rfl _ _ _,by rw [HF.out];rfl,(HB1.out.trans (hb2.mono HB1.out.size)).alloc (bZ HB1.out.size hb2.size) _⟩
 case pos=>
 subst hle;have HF:=aF (HTB.out rfl);clear HLB HTB;gi_wp2_with (refine ⟨trivial,?_⟩;gi_at_call 86;refine (callsIn_wide.2 (HLN.out _ HB1.out)).mono ?_;rintro e' w2 ⟨rfl,hb2⟩;have y0:=HX.out w2 hb2 0 _ rfl;have y1:=HX.out w2 hb2 1 _ rfl;have y2:=HX.out w2 hb2 2 _ rfl;have y3:=HX.out w2 hb2 3 _ rfl;have y4:=HX.out w2 hb2 4 _ rfl;have hlt2:w.heap.size<w2.heap.size:=cE w2 _ y0;clear x0 x1 x2 x3 x4)
 refine wpIn_label ?_;gi_wp2_with (refine ⟨trivial,?_⟩;gi_at_call 87;refine (callsIn_wide.2 (tS #[.slice A0 f.loans.length c0,.slice A1 f.edges.length c1,.slice A2 f.killed.length c2,.slice A3 f.inval.length c3,.slice A4 f.live.length c4] _ _ _ rfl ⟨_,_,_,_,_,_,_,_,_,_,_,_,_,_,_,rfl⟩)).mono ?_;rintro e' w' ⟨rfl,rfl⟩)
 obtain ⟨W0,hW0⟩:∃W0,((((w2.alloc (.cells #[.int .i64 0] 31)).alloc (.cells #[.slice A0 f.loans.length c0,.slice A1 f.edges.length c1,.slice A2 f.killed.length c2,.slice A3 f.inval.length c3,.slice A4 f.live.length c4] 39)).alloc (.cells #[.int .i64 p] 3)).alloc (.cells #[.int .i64 r] 3))=W0:=⟨_,rfl⟩;rw [hW0];have hB2:Below w.heap.size w w2:=HB1.out.trans (hb2.mono HB1.out.size);have hn2:w.heap.size<=w2.heap.size:=hB2.size;have hb0:Below w2.heap.size w2 W0:=by rw [<- hW0];exact aH
 have hB0:Below w.heap.size w W0:=hB2.trans (hb0.mono hn2);have hz0:W0.heap.size=w2.heap.size+1+1+1+1:=by subst hW0;simp
 have z1:W0.heap[w2.heap.size]?=some (.cells #[.int .i64 0] 31 (0,0)):=by
  subst hW0;rw [Below.heap_alloc _ _ _ (by simp only [bI];omega),Below.heap_alloc _ _ _ (by simp only [bI];omega),Below.heap_alloc _ _ _ (by simp only [bI];omega)];exact heap_alloc_new w2 (.cells #[.int .i64 0] 31)
 have u0:W0.cell? ⟨w2.heap.size+1,0,none⟩=some (.slice A0 f.loans.length c0):=by subst hW0;go_simp
 have u1:W0.cell? ⟨w2.heap.size+1,1,none⟩=some (.slice A1 f.edges.length c1):=by subst hW0;go_simp
 have u2:W0.cell? ⟨w2.heap.size+1,2,none⟩=some (.slice A2 f.killed.length c2):=by subst hW0;go_simp
 have u3:W0.cell? ⟨w2.heap.size+1,3,none⟩=some (.slice A3 f.inval.length c3):=by subst hW0;go_simp
 have u4:W0.cell? ⟨w2.heap.size+1,4,none⟩=some (.slice A4 f.live.length c4):=by subst hW0;go_simp
 have up:W0.cell? ⟨w2.heap.size+1+1,0,none⟩=some (.int .i64 p):=by subst hW0;go_simp
 have ur:W0.cell? ⟨w2.heap.size+1+1+1,0,none⟩=some (.int .i64 r):=by subst hW0;go_simp
 have hseq:=xFV (5 - 1) (by omega) A0 A1 A2 A3 A4 f.loans.length c0 c1 c2 c3 c4 f.edges f.killed f.inval f.live p r _ _ _ W0 u0 u1 u2 u3 u4 up ur
 have HSL:Hid (∀t∈tbsOf f ⟨A0,c0,A1,c1,A2,c2,A3,c3,A4,c4⟩ p r,Slc 2 RPr w t.A t.c t.xs):=aF (fun t ht=>by
  unfold tbsOf at ht;simp only [List.mem_cons,List.not_mem_nil,or_false] at ht;rcases ht with rfl | rfl | rfl | rfl
  ·exact HH.out.ed
  ·exact HH.out.ki
  ·exact HH.out.iv
  ·exact HH.out.li)
 have HTBS:Hid (tbsOf f ⟨A0,c0,A1,c1,A2,c2,A3,c3,A4,c4⟩ p r=[⟨A1,f.edges,c1,p,p⟩,⟨A2,f.killed,c2,f.loans.length,p⟩,⟨A3,f.inval,c3,f.loans.length,p⟩,⟨A4,f.live,c4,r,p⟩]):=aF rfl;rw [<- HTBS.out] at hseq;clear hW0 u0 u1 u2 u3 u4 up ur hmx hb2 hb0 HH HLN HX HN1 HB1 hW1 HTBS hM1 y0 y1 y2 y3 y4 l0 l1 l2 l3 l4 m0 m1 m2 m3 m4;generalize tbsOf f ⟨A0,c0,A1,c1,A2,c2,A3,c3,A4,c4⟩ p r=TS at *
 refine jR rfl (by omega) (gf:=136) (lb:= #[.pointer (some ⟨w2.heap.size+1,0,none⟩),.pointer (some ⟨w2.heap.size+1+1,0,none⟩),.pointer (some ⟨w2.heap.size+1+1+1,0,none⟩)]) rfl trivial (enters_of Tryz.func136 (by kernel_rfl) rfl)
  hseq (aX _ _) (by rintro k (rfl | rfl | rfl) <;> omega) (fun _=>rfl)
  (fun pre W=>W.heap[w2.heap.size]?=some (.cells #[.int .i64 0] 31 (0,0))/\Below w.heap.size w W/\Hid (∀post,TS=pre ++ post->R=tbE post))
  (fun c _ W=>c = .exit 0/\W.heap[w2.heap.size]?=some (.cells #[.int .i64 R] 31 (0,0))/\Below w.heap.size w W)
  (fun s A B hs ht=>⟨ht.block_low (by omega) hs.1,ht.below (by omega) (by have:=hs.2.1.size;omega) hs.2.1,hs.2.2⟩) (fun c s A B hs ht=>⟨hs.1,ht.block_low (by omega) hs.2.1,ht.below (by omega) (by have:=hs.2.2.size;omega) hs.2.2⟩)
  ⟨z1,hB0,aF (fun post h=>by rw [HF.out,h];rfl)⟩ ?round ?done ?stop
 case round=>
  rintro lr pre x post W hL hlr ⟨rr,hr⟩ hWs ⟨hb,hB,HRx⟩;clear z1 hseq;have HRN:Hid (R=if prsE x.f x.s none x.xs=0 then tbE post else prsE x.f x.s none x.xs):=aF (HRx.out (x :: post) hL)
  have HRZ:Hid (prsE x.f x.s none x.xs=0->∀post',TS=(pre ++ [x]) ++ post'->R=tbE post'):=aF (fun h0 post' h=>by
   rw [hL] at h;have:post=post':=by simpa using h
   rw [HRN.out,bA h0,this])
  have HXS:=aF (HSL.out x (by rw [hL];simp));have hxl:=HXS.out.le;have hxb:=HXS.out.big;obtain ⟨xA,xs,xc,xf,xq⟩:=x;simp only at HRN HRZ HXS hxl hxb;clear HRx hL HSL;simp only [encT,List.zip_toArray,List.zip_cons_cons];gi_wp2
  refine ⟨(Kb.refl _ _ _ _).alloc _,fun W2 hrec=>?_⟩;have hb2:=hrec.cells ((Below.heap_alloc W (.cells #[.slice xA xs.length xc,.int .i64 xf,.int .i64 xq] 145) _ (Array.getElem?_eq_some_iff.1 hb).1).trans hb);have hn2':=hrec.cells (heap_alloc_new W (.cells #[.slice xA xs.length xc,.int .i64 xf,.int .i64 xq] 145));have y0:=dL (l:=[.slice xA xs.length xc,.int .i64 xf,.int .i64 xq]) hn2' 0 _ rfl;have hB2':Below w.heap.size w W2:=(hB.alloc hB.size (.cells #[.slice xA xs.length xc,.int .i64 xf,.int .i64 xq] 145)).trans ⟨hrec.os,hrec.tape,hrec.output,by rw [hrec.size];exact aY _,fun k hk=>hrec.block k (by omega)⟩;have HEB:=aF hb2;have HNB:=aF hn2';have HBB:=aF hB2';have hWe:w2.heap.size<W0.heap.size:=by omega
  clear hb2 hn2' hB2' hr hrec hb hB;gi_wp2
  gi_loopw [44] (fun i wv=>∃k:Nat,k<=xs.length/\i = .int .i64 k/\Hid (wv.heap[w2.heap.size]?=some (.cells #[.int .i64 0] 31 (0,0)))/\Hid (wv.heap[W.heap.size]?=some (.cells #[.slice xA xs.length xc,.int .i64 xf,.int .i64 xq] 145 (0,0)))/\Hid (Below w.heap.size w wv)/\Hid (Kb (Pb (w2.heap.size+1) (w2.heap.size+1+1) (w2.heap.size+1+1+1)) W0.heap.size (fun _=>false) W2 wv)/\Hid (prsE xf xq none xs=prsE xf xq (prevL xs k) (xs.drop k))) (fun i _=>xs.length - (intOf i).toNat)
  case atStart=>exact ⟨0,by omega,rfl,HEB,HNB,HBB,aF (Kb.refl _ _ _ _),aF rfl⟩
  case round=>
   clear HEB HNB HBB y0;obtain ⟨k,hk,rfl,HE,HN,HB,HK,HP⟩:=hrel;by_cases hlt:k<xs.length
   case neg=>
    have HZ:Hid (prsE xf xq none xs=0):=aF (by rw [HP.out,bE (by omega)];rfl);clear HP;gi_wp2
    exact ⟨HK.out,HE.out,HB.out,aF (HRZ.out HZ.out)⟩
   case pos=>
   have hsl:=(HXS.out.keep RPr.keeps HB.out).sl;obtain ⟨b,o,rfl,hb,hx⟩:=hsl.at_ hlt;have HPS:Hid (prevL xs (k+1)=some xs[k]):=aF (by unfold prevL;rw [aZ (by omega)];simp [hlt])
   have HQ:Hid (∀j,k=j+1->∃q,prevL xs k=some q/\RPr wr wr.heap.size b (o+j * 2) q):=aF (fun j hj=>by
    obtain ⟨b',o',hbo,_,hz⟩:=hsl.at_ (show j<xs.length by omega);obtain ⟨rfl,rfl⟩:b=b'/\o=o':=by simpa using hbo
    exact ⟨xs[j],by unfold prevL;rw [aZ (by omega),show k - 1=j by omega];exact bD (by omega),hz⟩)
   have HPN:Hid (prsE xf xq none xs=if prE xf xq (prevL xs k) xs[k]=0 then prsE xf xq (some xs[k]) (xs.drop (k+1)) else prE xf xq (prevL xs k) xs[k]):=aF (by rw [HP.out,cY hlt,pC]);obtain ⟨x,hxe⟩:∃x,xs[k]=x:=⟨_,rfl⟩;rw [hxe] at hx HPS HPN;obtain ⟨p1,p2⟩:=x;obtain ⟨x0,x1⟩:=hx;simp only at x0 x1;have hsz:=HB.out.size;have y0:=dL (l:= #[.slice (some ⟨b,o,none⟩) xs.length xc,.int .i64 xf,.int .i64 xq].toList) HN.out 0 _ rfl;have y1:=dL (l:= #[.slice (some ⟨b,o,none⟩) xs.length xc,.int .i64 xf,.int .i64 xq].toList) HN.out 1 _ rfl;have y2:=dL (l:= #[.slice (some ⟨b,o,none⟩) xs.length xc,.int .i64 xf,.int .i64 xq].toList) HN.out 2 _ rfl;have ye:=dL (l:=[.int .i64 0]) HE.out 0 _ rfl;have hfe:wr.frozen? ⟨w2.heap.size,0,none⟩=false:=by simp [World.frozen?,HE.out]
   have hlW:W.heap.size<wr.heap.size:=(Array.getElem?_eq_some_iff.1 HN.out).1;have hle:w2.heap.size<wr.heap.size:=(Array.getElem?_eq_some_iff.1 HE.out).1;obtain ⟨WN,hWN⟩:∃W,wr.alloc (.cells #[.int .i64 p1,.int .i64 p2] 77)=W:=⟨_,rfl⟩;have hbn:Below wr.heap.size wr WN:=by rw [<- hWN];exact (aX _ _).alloc (aY _) _
   obtain ⟨n0,n1⟩:=rL wr (.int .i64 p1) (.int .i64 p2) 77;rw [hWN] at n0 n1;have HBN:=aF hbn;have HB2:=aF (HB.out.trans (hbn.mono hsz));have HE2:Hid (∀X,Below WN.heap.size WN X->X.heap[w2.heap.size]?=some (.cells #[.int .i64 0] 31 (0,0))):=aF (fun X hX=>(hX.block _ (by have:=hbn.size;omega)).trans ((hbn.block _ hle).trans HE.out));have HN2:Hid (∀X,Below WN.heap.size WN X->X.heap[W.heap.size]?=some (.cells #[.slice (some ⟨b,o,none⟩) xs.length xc,.int .i64 xf,.int .i64 xq] 145 (0,0))):=aF (fun X hX=>(hX.block _ (by have:=hbn.size;omega)).trans ((hbn.block _ hlW).trans HN.out));have HK2:Hid (∀X,Below WN.heap.size WN X->Kb (Pb (w2.heap.size+1) (w2.heap.size+1+1) (w2.heap.size+1+1+1)) W0.heap.size (fun _=>false) W2 X):=aF (fun X hX=>(HK.out.then_ hbn).then_ hX);have z0:=dL (l:= #[.slice (some ⟨b,o,none⟩) xs.length xc,.int .i64 xf,.int .i64 xq].toList) (HN2.out WN (aX _ _)) 0 _ rfl;have z1:=dL (l:= #[.slice (some ⟨b,o,none⟩) xs.length xc,.int .i64 xf,.int .i64 xq].toList) (HN2.out WN (aX _ _)) 1 _ rfl;have z2:=dL (l:= #[.slice (some ⟨b,o,none⟩) xs.length xc,.int .i64 xf,.int .i64 xq].toList) (HN2.out WN (aX _ _)) 2 _ rfl;have ze:=dL (l:=[.int .i64 0]) (HE2.out WN (aX _ _)) 0 _ rfl;have zfe:WN.frozen? ⟨w2.heap.size,0,none⟩=false:=by simp [World.frozen?,HE2.out WN (aX _ _)]
   clear hsl hxe HP HK HE HN hbn
   have HEX:Hid (∀X (v:Value),Below WN.heap.size WN X->(X.setCell ⟨w2.heap.size,0,none⟩ v).heap[w2.heap.size]?=some (.cells #[v] 31 (0,0))/\Below w.heap.size w (X.setCell ⟨w2.heap.size,0,none⟩ v)/\Kb (Pb (w2.heap.size+1) (w2.heap.size+1+1) (w2.heap.size+1+1+1)) W0.heap.size (fun _=>false) W2 (X.setCell ⟨w2.heap.size,0,none⟩ v)):=aF (fun X v hX=>
    ⟨xBI (HE2.out X hX),(HB2.out.trans (hX.mono HB2.out.size)).setCell (p:=⟨w2.heap.size,0,none⟩) (by simp;omega) _,(HK2.out X hX).setLow (p:=⟨w2.heap.size,0,none⟩) _ (by simp [Pb];omega) (by simp;omega)⟩)
   by_cases h1:0<=p1/\p1<xf
   case neg=>
    have HF3:Hid (R=3):=aF (by
     have h3:prsE xf xq none xs=3:=by rw [HPN.out,pE (by simp only;omega)];rfl
     rw [HRN.out,h3];rfl)
    have e1:decide (0<=p1/\p1<xf)=false:=decide_eq_false h1;clear HPN h1 HRN HRZ HQ HPS
    gi_wp2_with (first
     | (refine ⟨trivial,?_⟩;gi_at_call 88;refine (CallsIn.inRound _ (callsIn_wide.2 (jM _ _ _))).mono ?_;rw [e1];rintro e' w1 ⟨rfl,hw⟩;obtain rfl:=hw.symm)
     | refine ⟨trivial,?_⟩)
    obtain ⟨a1,a2,a3⟩:=HEX.out WN (.int .i64 3) (aX _ _);exact ⟨a3,rfl,by rw [HF3.out];exact a1,a2⟩
   case pos=>
   have e1:decide (0<=p1/\p1<xf)=true:=decide_eq_true h1;by_cases h2:0<=p2/\p2<xq
   case neg=>
    have HF3:Hid (R=3):=aF (by
     have h3:prsE xf xq none xs=3:=by rw [HPN.out,pE (by simp only;omega)];rfl
     rw [HRN.out,h3];rfl)
    have e2:decide (0<=p2/\p2<xq)=false:=decide_eq_false h2;clear HPN h1 h2 HRN HRZ HQ HPS
    gi_wp2_with (first
     | (refine ⟨trivial,?_⟩;gi_at_call 88;refine (CallsIn.inRound _ (callsIn_wide.2 (jM _ _ _))).mono ?_;(first | rw [e1] | rw [e2]);rintro e' w1 ⟨rfl,hw⟩;obtain rfl:=hw.symm)
     | refine ⟨trivial,?_⟩)
    obtain ⟨a1,a2,a3⟩:=HEX.out WN (.int .i64 3) (aX _ _);exact ⟨a3,rfl,by rw [HF3.out];exact a1,a2⟩
   case pos=>
   have e2:decide (0<=p2/\p2<xq)=true:=decide_eq_true h2;have hrg:¬(p1<0\/xf<=p1\/p2<0\/xq<=p2):=by omega
   rcases (show k=0\/∃j,k=j+1 from by cases k;exact .inl rfl;exact .inr ⟨_,rfl⟩) with rfl | ⟨j,rfl⟩
   ·have HF:Hid (prsE xf xq none xs=prsE xf xq (prevL xs 1) (xs.drop 1)):=aF (by rw [HPN.out,show prevL xs 0=none from rfl,xAW hrg,bA rfl,HPS.out]);clear HPN h1 h2 hrg HRN HQ HPS;simp only [Nat.zero_mul,Nat.add_zero] at x0 x1
    gi_wp2_with (first
     | (refine ⟨trivial,?_⟩;gi_at_call 88;refine (CallsIn.inRound _ (callsIn_wide.2 (jM _ _ _))).mono ?_;(first | rw [e1] | rw [e2]);rintro e' w1 ⟨rfl,hw⟩;obtain rfl:=hw.symm)
     | refine ⟨trivial,?_⟩)
    have hS:True:=trivial;refine vK (S:=fun _=>True) (by kernel_rfl) (by kernel_rfl) (by rintro ⟨_,_,hx⟩;exact hx) ?_;(iterate 3 (refine dP (v:=?_) (by kernel_rfl) (fun _ _ _ h=>h) (Or.inl ⟨by rfl,?_⟩) hS ?_;rotate_left;(next=>(rintro X _;(try simp only [aJ]);go_simp;rfl));simp only [aJ,Act.put,aK]));(iterate 9 (refine dP (v:=undef) (by kernel_rfl) (fun _ _ _ h=>h) (Or.inr ⟨by rfl,rfl⟩) hS ?_;simp only [aJ,Act.put,aK]));((refine dP (v:=?_) (by kernel_rfl) (fun _ _ _ h=>h) (Or.inl ⟨by rfl,?_⟩) hS ?_;rotate_left;(next=>(rintro X _;(try simp only [aJ]);go_simp;rfl));simp only [aJ,Act.put,aK]))
    refine fV rfl ?_;gi_wp2
    refine ⟨⟨1,by omega,by go_num,aF (HE2.out _ (aX _ _).drew),aF (HN2.out _ (aX _ _).drew),aF HB2.out.drew,aF (HK2.out _ (aX _ _).drew),HF⟩,?_⟩;simp [intOf];omega
   ·obtain ⟨q,hq,q0,q1⟩:=HQ.out j rfl
    have HF:Hid (prsE xf xq none xs=if 0<=cmp2 q (p1,p2) then 21 else prsE xf xq (prevL xs (j+1+1)) (xs.drop (j+1+1))):=aF (by
     rw [HPN.out,hq,xAV hrg,HPS.out]
     split <;> simp)
    have HC:=aF (kC q (p1,p2) b (o+j * 2) wr.heap.size 0 WN.drew ((HBN.out.cell (p:=⟨b,o+j * 2,none⟩) hb).trans q0) ((HBN.out.cell (p:=⟨b,o+j * 2+1,none⟩) hb).trans q1) n0 n1);generalize cmp2 q (p1,p2)=cm at HF HC;clear HPN h1 h2 hrg HQ HPS hq q0 q1;have hwk:IntKind.i64.wrap (j:Int)=(j:Int):=by rw [IntKind.wrap_i64];omega
    have hj1:(j:Int)<(xs.length:Int):=by omega
    gi_wp2_with (first
     | (refine ⟨trivial,?_⟩;gi_at_call 88;refine (CallsIn.inRound _ (callsIn_wide.2 (jM _ _ _))).mono ?_;(first | rw [e1] | rw [e2]);rintro e' w1 ⟨rfl,hw⟩;obtain rfl:=hw.symm)
     | refine ⟨trivial,?_⟩)
    have hS:WN.drew.cell? ⟨W.heap.size,0,none⟩=some (.slice (some ⟨b,o,none⟩) xs.length xc):=z0;refine vK (S:=fun X=>X.cell? ⟨W.heap.size,0,none⟩=some (.slice (some ⟨b,o,none⟩) xs.length xc)) (by kernel_rfl) (by kernel_rfl) (by rintro ⟨_,_,hx⟩;exact hx) ?_;(iterate 10 (refine dP (v:=?_) (by kernel_rfl) (fun _ _ _ h=>h) (Or.inl ⟨by rfl,?_⟩) hS ?_;rotate_left;(next=>(rintro X s0;(try simp only [aJ]);go_simp;rfl));simp only [aJ,Act.put,aK]));(refine qA (by kernel_rfl) (fun K1 hK1=>?_);simp only [aJ,Act.put,aK];rw [bA (by rfl)];go_simp);refine HC.out.mono ?_;rintro e' w3 ⟨rfl,hw⟩;obtain rfl:=hw.symm;refine hK1.out _ _ (fun _=>hS) ?_;(iterate 2 (refine dP (v:=?_) (by kernel_rfl) (fun _ _ _ h=>h) (Or.inl ⟨by rfl,?_⟩) hS ?_;rotate_left;(next=>(rintro X _;(try simp only [aJ]);go_simp;rfl));simp only [aJ,Act.put,aK]));refine fV rfl ?_;by_cases hcm:0<=cm
    ·have HF3:Hid (R=21):=aF (by
      have h3:prsE xf xq none xs=21:=by rw [HF.out,bA hcm]
      rw [HRN.out,h3];rfl)
     clear HF HRN HRZ;have hcm1:decide (0<=cm)=true:=decide_eq_true hcm;gi_wp2
     obtain ⟨a1,a2,a3⟩:=HEX.out WN (.int .i64 21) (aX _ _);rw [hz0] at a3;exact ⟨a3.drew,rfl,by rw [HF3.out];exact a1,a2.drew⟩
    ·have HF':Hid (prsE xf xq none xs=prsE xf xq (prevL xs (j+1+1)) (xs.drop (j+1+1))):=aF (by rw [HF.out,aZ hcm]);clear HF;have hcm1:decide (0<=cm)=false:=decide_eq_false hcm;gi_wp2
     refine ⟨⟨j+1+1,by omega,by go_num,aF (HE2.out _ (aX _ _).drew),aF (HN2.out _ (aX _ _).drew),aF HB2.out.drew,aF (HK2.out _ (aX _ _).drew),HF'⟩,?_⟩;simp [intOf];omega
 case done=>
  rintro D W hD ⟨hb,hB,HRx⟩ hK;have y0:=dL (l:=[.int .i64 0]) hb 0 _ rfl;have HF2:Hid (R=0):=aF (HRx.out [] (by simp));gi_wp2
  rw [Exit.noGoto_ret];refine ⟨by simp,.inl ⟨_,_,rfl,run_takeDeferred (w:=W) hK,?_⟩⟩;exact ⟨_,results_tmp rfl _ _ _,by rw [HF2.out];rfl,lY hB (by omega)⟩
 case stop=>
  rintro D c pre x post W hD hL ⟨rfl,hb,hB⟩ hK;have y0:=dL (l:=[.int .i64 R]) hb 0 _ rfl;gi_wp2
  rw [Exit.noGoto_ret];refine ⟨by simp,.inl ⟨_,_,rfl,run_takeDeferred (w:=W) hK,?_⟩⟩;exact ⟨_,results_tmp rfl _ _ _,rfl,lY hB (by omega)⟩
end
end Go.Proofs.YtmknfbfppmkcfaaGreatDoor
