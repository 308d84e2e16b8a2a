/-
  Parts of the proof: V59U V59V.
-/
import Derived.Test.YtmknfbfppmkcfaaGreatDoorPI0
import Derived.Test.YtmknfbfppmkcfaaGreatDoorPI11
namespace Go.Proofs.YtmknfbfppmkcfaaGreatDoor
set_option maxRecDepth 100000
set_option maxHeartbeats 16000000
section
open Go Go.RowKit Go.Maps
theorem xFD {b:Bdy} {bh:BH} {w:World} (H:Rk w b bh) (rv:Rvl) (t:Nat) (ht:t<b.types.length) (A B:Option Addr) (c d:Nat) (hl:Slc 4 ROp w B d rv.args) (h:shapeE rv=0) (hk:rv.kind=2) (hop:0<=rv.op/\rv.op<=1) (hpos:0<rv.args.length):
 Calls Tryz.prog 97 #[.agg (bdC b bh).toArray,.agg (rvC rv A c B d).toArray,.int .i64 t] w fun e' w'=>e' = .returned (.int .i64 (rvE b rv t))/\Below w.heap.size w w':=by
 obtain ⟨op,hope⟩:∃op,rv.op=op:=⟨_,rfl⟩;rw [hope] at hop;obtain ⟨hop0,hop1⟩:=hop;obtain ⟨q1,hq1⟩:∃q:Int,(if op=1 then 1 else 2)=q:=⟨_,rfl⟩;obtain ⟨q2,hq2⟩:∃q:Int,(if op=1 then 1 else 2)=q:=⟨_,rfl⟩;have e10:decide (op<0)=false:=by simp;omega
 have e11:decide (1<op)=false:=by simp;omega
 have HSH:=aF (fun W=>eG rv A B c d W);have HOP:=aF (fun W (hb:Below w.heap.size w W) (o:Opd) (A:Option Addr) (c:Nat) (hp:Slc 2 RPj w A c o.place.proj)=>dI (H.keep hb) o A c (hp.keep RPj.keeps hb));have HKK:=aF (fun W (hb:Below w.heap.size w W) (o:Opd) (A:Option Addr) (c:Nat) (hp:Slc 2 RPj w A c o.place.proj) (ho:opE b o=0)=>gM (H.keep hb).at_ H.ok o q1 A c (hp.keep RPj.keeps hb) ho)
 have HF0:Hid (rvE b rv t=if opsE b rv.args []≠0 then opsE b rv.args [] else if rv.args.all (fun o=>decide (kindO b o=q1))=true then fail22 (decide (b.types[t].kind≠q2)) else 22):=aF (by
  have hkt:kindT b (t:Int)=b.types[t].kind:=by unfold kindT;simp [ht]
  rw [lE h ht,hk,<- hq1,<- hq2];rcases (show op=0\/op=1 by omega) with e | e
  all_goals
   rw [e] at hope;simp only [operE,hope,hkt,e]
   rfl)
 have HQ1:=aF hq1;have HQ2:=aF hq2;clear hq1 hq2;rw [h] at HSH;obtain ⟨bb,oo,hA3,hbb,hx⟩:=H.at_.typ.sl.at_ ht;have hle3:=H.at_.typ.le;have hbig3:=H.at_.typ.big;obtain ⟨r0,-⟩:=hx;have hle:=hl.le;have hbig:=hl.big;obtain ⟨b5,o5,rfl,hb5,-⟩:=hl.sl.at_ hpos;have HL:=aF hl;obtain ⟨n,hn⟩:∃n,rv.args.length=n:=⟨_,rfl⟩;have HN:=aF hn;generalize rvE b rv t=R at HF0 ⊢;generalize b.types[t].kind=tk at r0 HF0;clear H h hl;unfold bdC at *;unfold rvC at *;rw [hA3] at HOP HKK ⊢;rw [hn] at hle;rw [hk,hope,hn] at HSH ⊢;clear hn hpos hope hk;go_enter Tryz.func97,Tryz.ntmps97
 go_wp2_with (go_at_call 141;refine (HSH.out _).mono ?_;rintro e' w1 ⟨rfl,hb⟩;have HB:=aF ((bel2 _ _ _).trans (hb.mono (bel2 _ _ _).size));obtain ⟨y,z⟩:=cT hb;have HY:=aF y;have HZ:=aF z;obtain ⟨y0,y1,y2,y3,y4,y5,y6⟩:=aS HY.out;obtain ⟨z0,z1,z2,z3,z4,z5,z6⟩:=aS HZ.out;have q0:=cM HB.out r0;clear y z hb)
 go_quiet (fail)
 all_goals go_wp2_with fail
 go_loopw [9] (fun v wr=>∃j:Nat,j<=n/\v = .int .i64 j/\Hid (aA (bdT b bh bb oo) wr w.heap.size)/\Hid (aA (rvL 2 op rv A c b5 o5 n d) wr (w.heap.size+1))/\Hid (Below w.heap.size w wr)/\Hid (opsE b rv.args []=opsE b (rv.args.drop j) [])) (fun v _=>n - (intOf v).toNat)
 case atStart=>exact ⟨0,by omega,rfl,aF HY.out,aF HZ.out,aF (aG HB.out _),aF rfl⟩
 case round=>
  clear HY HZ HB y0 y1 y2 y3 y4 y5 y6 z0 z1 z2 z3 z4 z5 z6 q0 r0;obtain ⟨j,hj,rfl,HY,HZ,HB,hr⟩:=hrel;have z6:=HZ.out 6 _ rfl;obtain ⟨z0,z1⟩:=aN HZ.out;by_cases hlt:j<n
  next=>
   have hl1:j<rv.args.length:=by rw [HN.out];exact hlt
   obtain ⟨b7,o7,hB7,hb7,hxo⟩:=HL.out.sl.at_ hl1;simp only [cI,Addr.mk.injEq,and_true] at hB7;obtain ⟨rfl,rfl⟩:=hB7;have hmem:=bN hl1;have hd:=cV hl1;obtain ⟨o,hoo⟩:∃o,rv.args[j]=o:=⟨_,rfl⟩;rw [hoo] at hxo hd hmem;obtain ⟨p0,⟨p1,A2,c2,p2,hc1,hc2,hsl⟩,p3⟩:=hxo;have HPJ:Hid (Slc 2 RPj w A2 c2 o.place.proj):=aF ⟨hsl,hc1,hc2⟩;have P0:=aF p0;have P1:=aF p1;have P2:=aF (show w.cell? ⟨b5,o5+j * 4+2,none⟩=_ from p2);have P3:=aF p3;have HOO:=aF (fun W hb=>HOP.out W hb o A2 c2 HPJ.out);unfold opC at HOO
   have HV2:Hid ((opE b o≠0->R=opE b o)/\(opE b o=0->opsE b rv.args []=opsE b (rv.args.drop (j+1)) [])):=aF ⟨fun he=>by
    have h9:opsE b rv.args []=opE b o:=by rw [hr.out,hd,eW he]
    rw [HF0.out,h9,bA he],fun he=>by rw [hr.out,hd,fD he]⟩
   generalize opE b o=eo at HOO HV2;clear hr hd hmem hoo p0 p1 p2 p3 hsl hc1 hc2 hl1;go_wp2_with fail
   have hS:aB w (bdT b bh bb oo) (rvL 2 op rv A c b5 o5 n d) wr.drew:=⟨HY.out,HZ.out,HB.out.drew⟩;clear z0 z1 z6;refine cO (S:=fun X=>aB w (bdT b bh bb oo) (rvL 2 op rv A c b5 o5 n d) X) [0,1,2,3,4,5,6,7] (by kernel_rfl) ?_;(iterate 6 (refine cP (v:=?_) ?_ hS ?_;rotate_left;(next=>(rintro X ⟨hX,hY,hZ⟩;obtain ⟨s0,s1,s2,s3,s4,s5,s6⟩:=aS hX;have u6:=hY 6 _ rfl;have u0:=hY 0 _ rfl;have p0:=cM hZ P0.out;have p1:=cM hZ P1.out;have p2:=cM hZ P2.out;have p3:=cM hZ P3.out;(try simp only [aI]);go_simp;rfl));simp only [aM]));(refine cS (fun K1 hK1=>?_);simp only [aM];rw [bA (by rfl)];go_simp);refine (HOO.out _ hS.2.2).mono ?_;rintro e' w2 ⟨rfl,hb⟩;replace hS:=bJ (cN hS.1 hb) (bJ (cN hS.2.1 hb) (hS.2.2.trans (hb.mono hS.2.2.size)));have HS2:=aF hS;clear hb;refine hK1.out _ _ (fun _=>hS) ?_;clear hK1;((refine cP (v:=?_) ?_ hS ?_;rotate_left;(next=>(rintro X -;(try simp only [aI]);go_simp;rfl));simp only [aM]))
   refine cZ ?_;clear hS;by_cases he:eo=0
   ·subst he;have HV3:=aF (HV2.out.2 rfl);clear HV2;go_wp2_with fail
    have hS:aB w (bdT b bh bb oo) (rvL 2 op rv A c b5 o5 n d) w2.drew:=⟨HS2.out.1,HS2.out.2.1,HS2.out.2.2.drew⟩;refine cO (S:=fun X=>aB w (bdT b bh bb oo) (rvL 2 op rv A c b5 o5 n d) X) [0,1,2,3,4,5,6,7,8,9,10,11,12,13,14,15,16,17,18,19,20,21] (by kernel_rfl) ?_;(iterate 4 (refine cP (v:=?_) ?_ hS ?_;rotate_left;(next=>(rintro X ⟨hX,hY,hZ⟩;obtain ⟨s0,s1,s2,s3,s4,s5,s6⟩:=aS hX;have u6:=hY 6 _ rfl;have u0:=hY 0 _ rfl;have p0:=cM hZ P0.out;have p1:=cM hZ P1.out;have p2:=cM hZ P2.out;have p3:=cM hZ P3.out;(try simp only [aI]);go_simp;rfl));simp only [aM]));(iterate 17 (refine cY (v:=undef) (by kernel_rfl) (fun _ _ _ h=>h) (Or.inr ⟨by rfl,rfl⟩) hS ?_;simp only [aM]));((refine cP (v:=?_) ?_ hS ?_;rotate_left;(next=>(rintro X -;(try simp only [aI]);go_simp;rfl));simp only [aM]))
    refine cZ ?_;clear hS;go_wp2_with fail
    go_roundw
    case rel=>exact ⟨j+1,by omega,by go_num,aF HS2.out.1,aF HS2.out.2.1,aF HS2.out.2.2.drew,HV3⟩
    case measure=>simp [intOf];omega
   ·have HF:=aF (HV2.out.1 he);have e1:(eo != 0)=true:=by simp [he]
    clear he HV2;go_wp2_with fail
    go_ret;exact ⟨by rw [HF.out];rfl,HS2.out.2.2⟩
  next=>
   have hz:opsE b rv.args []=0:=by rw [hr.out,bE (by rw [HN.out];omega),dG]
   have HALL:=aF (iH hz);have HQ:Hid (R=if (rv.args.drop 0).all (fun o=>decide (kindO b o=q1))=true then fail22 (decide (tk≠q2)) else 22):=aF (by rw [HF0.out,aZ (by simp [hz]),bX]);clear hr hz HF0
   have hcs:(q1=1/\q2=1/\(op == 1)=true)\/(q1=2/\q2=2/\(op == 1)=false):=by
    rw [<- HQ1.out,<- HQ2.out];by_cases g:op=1
    ·left;simp [g]
    ·right;simp [g]
   rcases hcs with ⟨g0,g1,e12⟩ | ⟨g0,g1,e12⟩
   all_goals
    have HX1:=aF g0;have HX2:=aF g1;clear g0 g1;go_wp2_with fail
    clear hlt hj;go_loopw [13] (fun v wr=>∃j:Nat,j<=n/\v = .int .i64 j/\Hid (aA (bdT b bh bb oo) wr w.heap.size)/\Hid (aA (rvL 2 op rv A c b5 o5 n d) wr (w.heap.size+1))/\Hid (Below w.heap.size w wr)/\Hid (R=if (rv.args.drop j).all (fun o=>decide (kindO b o=q1))=true then fail22 (decide (tk≠q2)) else 22)) (fun v _=>n - (intOf v).toNat)
    case atStart=>exact ⟨0,by omega,rfl,HY,HZ,HB,HQ⟩
    case round=>
     clear HY HZ HB HQ z0 z1 z6;obtain ⟨j,hj,rfl,HY,HZ,HB,hr⟩:=hrel;have z6:=HZ.out 6 _ rfl;have z0:=HZ.out 0 _ rfl;by_cases hlt:j<n
     next=>
      have hl1:j<rv.args.length:=by rw [HN.out];exact hlt
      obtain ⟨b7,o7,hB7,hb7,hxo⟩:=HL.out.sl.at_ hl1;simp only [cI,Addr.mk.injEq,and_true] at hB7;obtain ⟨rfl,rfl⟩:=hB7;have hmem:=bN hl1;have hd:=cV hl1;obtain ⟨o,hoo⟩:∃o,rv.args[j]=o:=⟨_,rfl⟩;rw [hoo] at hxo hd hmem;obtain ⟨p0,⟨p1,A2,c2,p2,hc1,hc2,hsl⟩,p3⟩:=hxo;have HPJ:Hid (Slc 2 RPj w A2 c2 o.place.proj):=aF ⟨hsl,hc1,hc2⟩;have P0:=aF p0;have P1:=aF p1;have P2:=aF (show w.cell? ⟨b5,o5+j * 4+2,none⟩=_ from p2);have P3:=aF p3;have HOO:=aF (fun W hb=>HKK.out W hb o A2 c2 HPJ.out (HALL.out o hmem));unfold opC at HOO
      have HV2:Hid ((kindO b o≠q1->R=22)/\(kindO b o=q1->R=if (rv.args.drop (j+1)).all (fun o=>decide (kindO b o=q1))=true then fail22 (decide (tk≠q2)) else 22)):=aF (by
       rw [hr.out,hd,cB];constructor
       ·intro h;simp [h]
       ·intro h;simp [h])
      obtain ⟨kq,hkq⟩:∃q,decide (kindO b o=q1)=q:=⟨_,rfl⟩;rw [hkq] at HOO;rw [HX1.out] at HOO;have HKQ:=aF hkq;clear hr hd hmem hoo p0 p1 p2 p3 hsl hc1 hc2 hl1 hkq;go_wp2_with fail
      have hS:aB w (bdT b bh bb oo) (rvL 2 op rv A c b5 o5 n d) wr.drew:=⟨HY.out,HZ.out,HB.out.drew⟩;clear z0 z6;refine cO (S:=fun X=>aB w (bdT b bh bb oo) (rvL 2 op rv A c b5 o5 n d) X) [0,1,2,3,4,5,6,7,8] (by kernel_rfl) ?_;(iterate 7 (refine cP (v:=?_) ?_ hS ?_;rotate_left;(next=>(rintro X ⟨hX,hY,hZ⟩;obtain ⟨s0,s1,s2,s3,s4,s5,s6⟩:=aS hX;have u6:=hY 6 _ rfl;have u0:=hY 0 _ rfl;have p0:=cM hZ P0.out;have p1:=cM hZ P1.out;have p2:=cM hZ P2.out;have p3:=cM hZ P3.out;(try simp only [aI]);go_simp;rfl));simp only [aM]));(refine cS (fun K1 hK1=>?_);simp only [aM];rw [bA (by rfl)];go_simp);refine (HOO.out _ hS.2.2).mono ?_;rintro e' w2 ⟨rfl,hb⟩;replace hS:=bJ (cN hS.1 hb) (bJ (cN hS.2.1 hb) (hS.2.2.trans (hb.mono hS.2.2.size)));have HS2:=aF hS;clear hb;refine hK1.out _ _ (fun _=>hS) ?_;clear hK1;((refine cP (v:=?_) ?_ hS ?_;rotate_left;(next=>(rintro X -;(try simp only [aI]);go_simp;rfl));simp only [aM]))
      refine cZ ?_;clear hS;cases kq
      ·have HF:Hid (R=22):=aF (HV2.out.1 (by have:=HKQ.out;simpa using this));clear HV2;go_wp2_with fail
       go_ret;exact ⟨by rw [HF.out];rfl,HS2.out.2.2⟩
      ·have HF:=aF (HV2.out.2 (by have:=HKQ.out;simpa using this));clear HV2;go_wp2_with fail
       go_roundw
       case rel=>exact ⟨j+1,by omega,by go_num,aF HS2.out.1,aF HS2.out.2.1,aF HS2.out.2.2,HF⟩
       case measure=>simp [intOf];omega
     next=>
      have HF:Hid (R=fail22 (decide (tk≠q2))):=aF (by rw [hr.out,bE (by rw [HN.out];omega)];rfl);have e9:(tk != q2)=decide (tk≠q2):=by rw [bR];simp
      clear hr;by_cases h9:tk=q2
      ·have e8:(tk != q2)=false:=by simp [h9]
       rw [HX2.out] at e8;have HF2:Hid (R=0):=aF (by rw [HF.out];simp [h9,fail22]);clear e9 h9;go_wp2_with fail
       go_ret;exact ⟨by rw [HF2.out];rfl,HB.out⟩
      ·have e8:(tk != q2)=true:=by simp [h9]
       rw [HX2.out] at e8;have HF2:Hid (R=22):=aF (by rw [HF.out];simp [h9,fail22]);clear e9 h9;go_wp2_with fail
       go_ret;exact ⟨by rw [HF2.out];rfl,HB.out⟩
theorem xFE {b:Bdy} {bh:BH} {w:World} (H:Rk w b bh) (rv:Rvl) (t:Nat) (ht:t<b.types.length) (A B:Option Addr) (c d:Nat) (hl:Slc 4 ROp w B d rv.args) (h:shapeE rv=0) (hk:rv.kind=3) (hop:0<=rv.op/\rv.op<=5) (hpos:0<rv.args.length):
 Calls Tryz.prog 97 #[.agg (bdC b bh).toArray,.agg (rvC rv A c B d).toArray,.int .i64 t] w fun e' w'=>e' = .returned (.int .i64 (rvE b rv t))/\Below w.heap.size w w':=by
 obtain ⟨op,hope⟩:∃op,rv.op=op:=⟨_,rfl⟩;rw [hope] at hop;obtain ⟨hop0,hop1⟩:=hop;obtain ⟨q1,hq1⟩:∃q:Int,(if op=5 then 1 else 2)=q:=⟨_,rfl⟩;obtain ⟨q2,hq2⟩:∃q:Int,(if 3<=op then 1 else 2)=q:=⟨_,rfl⟩;have e10:decide (op<0)=false:=by simp;omega
 have e11:decide (5<op)=false:=by simp;omega
 have HSH:=aF (fun W=>eG rv A B c d W);have HOP:=aF (fun W (hb:Below w.heap.size w W) (o:Opd) (A:Option Addr) (c:Nat) (hp:Slc 2 RPj w A c o.place.proj)=>dI (H.keep hb) o A c (hp.keep RPj.keeps hb));have HKK:=aF (fun W (hb:Below w.heap.size w W) (o:Opd) (A:Option Addr) (c:Nat) (hp:Slc 2 RPj w A c o.place.proj) (ho:opE b o=0)=>gM (H.keep hb).at_ H.ok o q1 A c (hp.keep RPj.keeps hb) ho)
 have HF0:Hid (rvE b rv t=if opsE b rv.args []≠0 then opsE b rv.args [] else if rv.args.all (fun o=>decide (kindO b o=q1))=true then fail22 (decide (b.types[t].kind≠q2)) else 22):=aF (by
  have hkt:kindT b (t:Int)=b.types[t].kind:=by unfold kindT;simp [ht]
  rw [lE h ht,hk,<- hq1,<- hq2];rcases (show op=0\/op=1\/op=2\/op=3\/op=4\/op=5 by omega) with e | e | e | e | e | e
  all_goals
   rw [e] at hope;simp only [operE,hope,hkt,e]
   rfl)
 have HQ1:=aF hq1;have HQ2:=aF hq2;clear hq1 hq2;rw [h] at HSH;obtain ⟨bb,oo,hA3,hbb,hx⟩:=H.at_.typ.sl.at_ ht;have hle3:=H.at_.typ.le;have hbig3:=H.at_.typ.big;obtain ⟨r0,-⟩:=hx;have hle:=hl.le;have hbig:=hl.big;obtain ⟨b5,o5,rfl,hb5,-⟩:=hl.sl.at_ hpos;have HL:=aF hl;obtain ⟨n,hn⟩:∃n,rv.args.length=n:=⟨_,rfl⟩;have HN:=aF hn;generalize rvE b rv t=R at HF0 ⊢;generalize b.types[t].kind=tk at r0 HF0;clear H h hl;unfold bdC at *;unfold rvC at *;rw [hA3] at HOP HKK ⊢;rw [hn] at hle;rw [hk,hope,hn] at HSH ⊢;clear hn hpos hope hk;go_enter Tryz.func97,Tryz.ntmps97
 go_wp2_with (go_at_call 141;refine (HSH.out _).mono ?_;rintro e' w1 ⟨rfl,hb⟩;have HB:=aF ((bel2 _ _ _).trans (hb.mono (bel2 _ _ _).size));obtain ⟨y,z⟩:=cT hb;have HY:=aF y;have HZ:=aF z;obtain ⟨y0,y1,y2,y3,y4,y5,y6⟩:=aS HY.out;obtain ⟨z0,z1,z2,z3,z4,z5,z6⟩:=aS HZ.out;have q0:=cM HB.out r0;clear y z hb)
 go_quiet (fail)
 all_goals go_wp2_with fail
 go_loopw [9] (fun v wr=>∃j:Nat,j<=n/\v = .int .i64 j/\Hid (aA (bdT b bh bb oo) wr w.heap.size)/\Hid (aA (rvL 3 op rv A c b5 o5 n d) wr (w.heap.size+1))/\Hid (Below w.heap.size w wr)/\Hid (opsE b rv.args []=opsE b (rv.args.drop j) [])) (fun v _=>n - (intOf v).toNat)
 case atStart=>exact ⟨0,by omega,rfl,aF HY.out,aF HZ.out,aF (aG HB.out _),aF rfl⟩
 case round=>
  clear HY HZ HB y0 y1 y2 y3 y4 y5 y6 z0 z1 z2 z3 z4 z5 z6 q0 r0;obtain ⟨j,hj,rfl,HY,HZ,HB,hr⟩:=hrel;have z6:=HZ.out 6 _ rfl;obtain ⟨z0,z1⟩:=aN HZ.out;by_cases hlt:j<n
  next=>
   have hl1:j<rv.args.length:=by rw [HN.out];exact hlt
   obtain ⟨b7,o7,hB7,hb7,hxo⟩:=HL.out.sl.at_ hl1;simp only [cI,Addr.mk.injEq,and_true] at hB7;obtain ⟨rfl,rfl⟩:=hB7;have hmem:=bN hl1;have hd:=cV hl1;obtain ⟨o,hoo⟩:∃o,rv.args[j]=o:=⟨_,rfl⟩;rw [hoo] at hxo hd hmem;obtain ⟨p0,⟨p1,A2,c2,p2,hc1,hc2,hsl⟩,p3⟩:=hxo;have HPJ:Hid (Slc 2 RPj w A2 c2 o.place.proj):=aF ⟨hsl,hc1,hc2⟩;have P0:=aF p0;have P1:=aF p1;have P2:=aF (show w.cell? ⟨b5,o5+j * 4+2,none⟩=_ from p2);have P3:=aF p3;have HOO:=aF (fun W hb=>HOP.out W hb o A2 c2 HPJ.out);unfold opC at HOO
   have HV2:Hid ((opE b o≠0->R=opE b o)/\(opE b o=0->opsE b rv.args []=opsE b (rv.args.drop (j+1)) [])):=aF ⟨fun he=>by
    have h9:opsE b rv.args []=opE b o:=by rw [hr.out,hd,eW he]
    rw [HF0.out,h9,bA he],fun he=>by rw [hr.out,hd,fD he]⟩
   generalize opE b o=eo at HOO HV2;clear hr hd hmem hoo p0 p1 p2 p3 hsl hc1 hc2 hl1;go_wp2_with fail
   have hS:aB w (bdT b bh bb oo) (rvL 3 op rv A c b5 o5 n d) wr.drew:=⟨HY.out,HZ.out,HB.out.drew⟩;clear z0 z1 z6;refine cO (S:=fun X=>aB w (bdT b bh bb oo) (rvL 3 op rv A c b5 o5 n d) X) [0,1,2,3,4,5,6,7] (by kernel_rfl) ?_;(iterate 6 (refine cP (v:=?_) ?_ hS ?_;rotate_left;(next=>(rintro X ⟨hX,hY,hZ⟩;obtain ⟨s0,s1,s2,s3,s4,s5,s6⟩:=aS hX;have u6:=hY 6 _ rfl;have u0:=hY 0 _ rfl;have p0:=cM hZ P0.out;have p1:=cM hZ P1.out;have p2:=cM hZ P2.out;have p3:=cM hZ P3.out;(try simp only [aI]);go_simp;rfl));simp only [aM]));(refine cS (fun K1 hK1=>?_);simp only [aM];rw [bA (by rfl)];go_simp);refine (HOO.out _ hS.2.2).mono ?_;rintro e' w2 ⟨rfl,hb⟩;replace hS:=bJ (cN hS.1 hb) (bJ (cN hS.2.1 hb) (hS.2.2.trans (hb.mono hS.2.2.size)));have HS2:=aF hS;clear hb;refine hK1.out _ _ (fun _=>hS) ?_;clear hK1;((refine cP (v:=?_) ?_ hS ?_;rotate_left;(next=>(rintro X -;(try simp only [aI]);go_simp;rfl));simp only [aM]))
   refine cZ ?_;clear hS;by_cases he:eo=0
   ·subst he;have HV3:=aF (HV2.out.2 rfl);clear HV2;go_wp2_with fail
    have hS:aB w (bdT b bh bb oo) (rvL 3 op rv A c b5 o5 n d) w2.drew:=⟨HS2.out.1,HS2.out.2.1,HS2.out.2.2.drew⟩;refine cO (S:=fun X=>aB w (bdT b bh bb oo) (rvL 3 op rv A c b5 o5 n d) X) [0,1,2,3,4,5,6,7,8,9,10,11,12,13,14,15,16,17,18,19,20,21] (by kernel_rfl) ?_;(iterate 4 (refine cP (v:=?_) ?_ hS ?_;rotate_left;(next=>(rintro X ⟨hX,hY,hZ⟩;obtain ⟨s0,s1,s2,s3,s4,s5,s6⟩:=aS hX;have u6:=hY 6 _ rfl;have u0:=hY 0 _ rfl;have p0:=cM hZ P0.out;have p1:=cM hZ P1.out;have p2:=cM hZ P2.out;have p3:=cM hZ P3.out;(try simp only [aI]);go_simp;rfl));simp only [aM]));(iterate 17 (refine cY (v:=undef) (by kernel_rfl) (fun _ _ _ h=>h) (Or.inr ⟨by rfl,rfl⟩) hS ?_;simp only [aM]));((refine cP (v:=?_) ?_ hS ?_;rotate_left;(next=>(rintro X -;(try simp only [aI]);go_simp;rfl));simp only [aM]))
    refine cZ ?_;clear hS;go_wp2_with fail
    go_roundw
    case rel=>exact ⟨j+1,by omega,by go_num,aF HS2.out.1,aF HS2.out.2.1,aF HS2.out.2.2.drew,HV3⟩
    case measure=>simp [intOf];omega
   ·have HF:=aF (HV2.out.1 he);have e1:(eo != 0)=true:=by simp [he]
    clear he HV2;go_wp2_with fail
    go_ret;exact ⟨by rw [HF.out];rfl,HS2.out.2.2⟩
  next=>
   have hz:opsE b rv.args []=0:=by rw [hr.out,bE (by rw [HN.out];omega),dG]
   have HALL:=aF (iH hz);have HQ:Hid (R=if (rv.args.drop 0).all (fun o=>decide (kindO b o=q1))=true then fail22 (decide (tk≠q2)) else 22):=aF (by rw [HF0.out,aZ (by simp [hz]),bX]);clear hr hz HF0
   have hcs:(q1=2/\q2=2/\(op == 5)=false/\decide (3<=op)=false)\/(q1=2/\q2=1/\(op == 5)=false/\decide (3<=op)=true)\/(q1=1/\q2=1/\(op == 5)=true/\decide (3<=op)=true):=by
    rw [<- HQ1.out,<- HQ2.out];by_cases g:op=5
    ·right;right;simp [g]
    ·by_cases g2:3<=op
     ·right;left;simp [g,g2]
     ·left;simp [g,g2]
   rcases hcs with ⟨g0,g1,e12,e13⟩ | ⟨g0,g1,e12,e13⟩ | ⟨g0,g1,e12,e13⟩
   all_goals
    have HX1:=aF g0;have HX2:=aF g1;clear g0 g1;go_wp2_with fail
    clear hlt hj;go_loopw [13] (fun v wr=>∃j:Nat,j<=n/\v = .int .i64 j/\Hid (aA (bdT b bh bb oo) wr w.heap.size)/\Hid (aA (rvL 3 op rv A c b5 o5 n d) wr (w.heap.size+1))/\Hid (Below w.heap.size w wr)/\Hid (R=if (rv.args.drop j).all (fun o=>decide (kindO b o=q1))=true then fail22 (decide (tk≠q2)) else 22)) (fun v _=>n - (intOf v).toNat)
    case atStart=>exact ⟨0,by omega,rfl,HY,HZ,HB,HQ⟩
    case round=>
     clear HY HZ HB HQ z0 z1 z6;obtain ⟨j,hj,rfl,HY,HZ,HB,hr⟩:=hrel;have z6:=HZ.out 6 _ rfl;have z0:=HZ.out 0 _ rfl;by_cases hlt:j<n
     next=>
      have hl1:j<rv.args.length:=by rw [HN.out];exact hlt
      obtain ⟨b7,o7,hB7,hb7,hxo⟩:=HL.out.sl.at_ hl1;simp only [cI,Addr.mk.injEq,and_true] at hB7;obtain ⟨rfl,rfl⟩:=hB7;have hmem:=bN hl1;have hd:=cV hl1;obtain ⟨o,hoo⟩:∃o,rv.args[j]=o:=⟨_,rfl⟩;rw [hoo] at hxo hd hmem;obtain ⟨p0,⟨p1,A2,c2,p2,hc1,hc2,hsl⟩,p3⟩:=hxo;have HPJ:Hid (Slc 2 RPj w A2 c2 o.place.proj):=aF ⟨hsl,hc1,hc2⟩;have P0:=aF p0;have P1:=aF p1;have P2:=aF (show w.cell? ⟨b5,o5+j * 4+2,none⟩=_ from p2);have P3:=aF p3;have HOO:=aF (fun W hb=>HKK.out W hb o A2 c2 HPJ.out (HALL.out o hmem));unfold opC at HOO
      have HV2:Hid ((kindO b o≠q1->R=22)/\(kindO b o=q1->R=if (rv.args.drop (j+1)).all (fun o=>decide (kindO b o=q1))=true then fail22 (decide (tk≠q2)) else 22)):=aF (by
       rw [hr.out,hd,cB];constructor
       ·intro h;simp [h]
       ·intro h;simp [h])
      obtain ⟨kq,hkq⟩:∃q,decide (kindO b o=q1)=q:=⟨_,rfl⟩;rw [hkq] at HOO;rw [HX1.out] at HOO;have HKQ:=aF hkq;clear hr hd hmem hoo p0 p1 p2 p3 hsl hc1 hc2 hl1 hkq;go_wp2_with fail
      have hS:aB w (bdT b bh bb oo) (rvL 3 op rv A c b5 o5 n d) wr.drew:=⟨HY.out,HZ.out,HB.out.drew⟩;clear z0 z6;refine cO (S:=fun X=>aB w (bdT b bh bb oo) (rvL 3 op rv A c b5 o5 n d) X) [0,1,2,3,4,5,6,7,8] (by kernel_rfl) ?_;(iterate 7 (refine cP (v:=?_) ?_ hS ?_;rotate_left;(next=>(rintro X ⟨hX,hY,hZ⟩;obtain ⟨s0,s1,s2,s3,s4,s5,s6⟩:=aS hX;have u6:=hY 6 _ rfl;have u0:=hY 0 _ rfl;have p0:=cM hZ P0.out;have p1:=cM hZ P1.out;have p2:=cM hZ P2.out;have p3:=cM hZ P3.out;(try simp only [aI]);go_simp;rfl));simp only [aM]));(refine cS (fun K1 hK1=>?_);simp only [aM];rw [bA (by rfl)];go_simp);refine (HOO.out _ hS.2.2).mono ?_;rintro e' w2 ⟨rfl,hb⟩;replace hS:=bJ (cN hS.1 hb) (bJ (cN hS.2.1 hb) (hS.2.2.trans (hb.mono hS.2.2.size)));have HS2:=aF hS;clear hb;refine hK1.out _ _ (fun _=>hS) ?_;clear hK1;((refine cP (v:=?_) ?_ hS ?_;rotate_left;(next=>(rintro X -;(try simp only [aI]);go_simp;rfl));simp only [aM]))
      refine cZ ?_;clear hS;cases kq
      ·have HF:Hid (R=22):=aF (HV2.out.1 (by have:=HKQ.out;simpa using this));clear HV2;go_wp2_with fail
       go_ret;exact ⟨by rw [HF.out];rfl,HS2.out.2.2⟩
      ·have HF:=aF (HV2.out.2 (by have:=HKQ.out;simpa using this));clear HV2;go_wp2_with fail
       go_roundw
       case rel=>exact ⟨j+1,by omega,by go_num,aF HS2.out.1,aF HS2.out.2.1,aF HS2.out.2.2,HF⟩
       case measure=>simp [intOf];omega
     next=>
      have HF:Hid (R=fail22 (decide (tk≠q2))):=aF (by rw [hr.out,bE (by rw [HN.out];omega)];rfl);have e9:(tk != q2)=decide (tk≠q2):=by rw [bR];simp
      clear hr;by_cases h9:tk=q2
      ·have e8:(tk != q2)=false:=by simp [h9]
       rw [HX2.out] at e8;have HF2:Hid (R=0):=aF (by rw [HF.out];simp [h9,fail22]);clear e9 h9;go_wp2_with fail
       go_ret;exact ⟨by rw [HF2.out];rfl,HB.out⟩
      ·have e8:(tk != q2)=true:=by simp [h9]
       rw [HX2.out] at e8;have HF2:Hid (R=22):=aF (by rw [HF.out];simp [h9,fail22]);clear e9 h9;go_wp2_with fail
       go_ret;exact ⟨by rw [HF2.out];rfl,HB.out⟩
end
end Go.Proofs.YtmknfbfppmkcfaaGreatDoor
