/-
  Parts of the proof: Y73 Y74.
-/
import Derived.Test.YtmknfbfppmkcfaaGreatDoorPI0
import Derived.Test.YtmknfbfppmkcfaaGreatDoorPI31
import Derived.Test.YtmknfbfppmkcfaaGreatDoorPI16
namespace Go.Proofs.YtmknfbfppmkcfaaGreatDoor
set_option maxRecDepth 100000
set_option maxHeartbeats 16000000
section
open Go Go.RowKit
theorem xHH (x y:Stm) (A0 B0 A1 B1 A2 B2:Option Addr) (c0 d0 c1 d1 c2 d2:Nat) (w:World)
 (hp:Slc 2 RPj w A0 c0 x.place.proj) (hp2:Slc 2 RPj w B0 d0 y.place.proj) (hr:Slc 2 RPj w A1 c1 x.rv.place.proj) (hr2:Slc 2 RPj w B1 d1 y.rv.place.proj) (hx:Slc 4 ROp w A2 c2 x.rv.args) (hy:Slc 4 ROp w B2 d2 y.rv.args):
 Calls Tryz.prog 103 #[.agg #[.int .i64 x.kind,.int .i64 x.place.loc,.slice A0 x.place.proj.length c0,.int .i64 x.rv.kind,.int .i64 x.rv.op,.int .i64 x.rv.reg,.bool x.rv.mu,.int .i64 x.rv.place.loc,.slice A1 x.rv.place.proj.length c1,.slice A2 x.rv.args.length c2,.int .i64 x.loc],.agg #[.int .i64 y.kind,.int .i64 y.place.loc,.slice B0 y.place.proj.length d0,.int .i64 y.rv.kind,.int .i64 y.rv.op,.int .i64 y.rv.reg,.bool y.rv.mu,.int .i64 y.rv.place.loc,.slice B1 y.rv.place.proj.length d1,.slice B2 y.rv.args.length d2,.int .i64 y.loc]] w fun e' w'=>e' = .returned (.bool (decide (x=y)))/\Below w.heap.size w w':=by
 have h:=xBK x.kind y.kind x.loc y.loc x.rv.kind y.rv.kind x.rv.op y.rv.op x.rv.reg y.rv.reg x.rv.mu y.rv.mu x.place y.place x.rv.place y.rv.place x.rv.args y.rv.args A0 B0 A1 B1 A2 B2 c0 d0 c1 d1 c2 d2 w hp hp2 hr hr2 hx hy
 have e:(decide (x.kind=y.kind) && decide (x.loc=y.loc) && decide (x.place=y.place) && decide (x.rv.kind=y.rv.kind) && decide (x.rv.op=y.rv.op) && decide (x.rv.reg=y.rv.reg) && decide (x.rv.mu=y.rv.mu) && decide (x.rv.place=y.rv.place) && decide (x.rv.args=y.rv.args))=decide (x=y):=by
  obtain ⟨k,p,⟨q,op,rg,mu,r,xs⟩,l⟩:=x;obtain ⟨k2,p2,⟨q2,op2,rg2,mu2,r2,ys⟩,l2⟩:=y;rw [bR];simp only [bQ,decide_eq_true_eq,Stm.mk.injEq,Rvl.mk.injEq];constructor
  ·rintro ⟨⟨⟨⟨⟨⟨⟨⟨a,b⟩,c⟩,d⟩,e⟩,f⟩,g⟩,h⟩,i⟩;exact ⟨a,c,⟨d,e,f,g,h,i⟩,b⟩
  ·rintro ⟨a,c,⟨d,e,f,g,h,i⟩,b⟩;exact ⟨⟨⟨⟨⟨⟨⟨⟨a,b⟩,c⟩,d⟩,e⟩,f⟩,g⟩,h⟩,i⟩
 rwa [e] at h
theorem xBN (ss ts:List Stm) (k k2:Int) (ta ta2:List Int) (ar ar2:List Opd) (p p2:Plc) (nm nm2:ByteArray) (A0 B0 A1 B1 A2 B2 A3 B3:Option Addr) (c0 d0 c1 d1 c2 d2 c3 d3:Nat) (w:World)
 (hs:Slc 11 RSt w A0 c0 ss) (hs2:Slc 11 RSt w B0 d0 ts) (ht:Slc 1 RInt w A1 c1 ta) (ht2:Slc 1 RInt w B1 d1 ta2) (hx:Slc 4 ROp w A2 c2 ar) (hx2:Slc 4 ROp w B2 d2 ar2) (hp:Slc 2 RPj w A3 c3 p.proj) (hp2:Slc 2 RPj w B3 d3 p2.proj):
 Calls Tryz.prog 60 #[.agg #[.slice A0 ss.length c0,.int .i64 k,.slice A1 ta.length c1,.slice A2 ar.length c2,.int .i64 p.loc,.slice A3 p.proj.length c3,.string nm],.agg #[.slice B0 ts.length d0,.int .i64 k2,.slice B1 ta2.length d1,.slice B2 ar2.length d2,.int .i64 p2.loc,.slice B3 p2.proj.length d3,.string nm2]] w fun e' w'=>
  e' = .returned (.bool (decide (ss=ts) && decide (k=k2) && decide (nm=nm2) && decide (ta=ta2) && decide (ar=ar2) && decide (p=p2)))/\Below w.heap.size w w':=by
 have hle:=hs.le;have hbg:=hs.big;have hle2:=hs2.le;have hbg2:=hs2.big;obtain ⟨W,hW⟩:∃W,(w.alloc (.cells #[.slice A0 ss.length c0,.int .i64 k,.slice A1 ta.length c1,.slice A2 ar.length c2,.int .i64 p.loc,.slice A3 p.proj.length c3,.string nm] 64)).alloc (.cells #[.slice B0 ts.length d0,.int .i64 k2,.slice B1 ta2.length d1,.slice B2 ar2.length d2,.int .i64 p2.loc,.slice B3 p2.proj.length d3,.string nm2] 64)=W:=⟨_,rfl⟩;have hBW:Below w.heap.size w W:=by rw [<- hW];exact aH
 have HBW:=aF hBW;have HWS:Hid (W.heap.size=w.heap.size+1+1):=aF (by rw [<- hW];simp);have Ha0:=aF (show W.cell? ⟨w.heap.size,0,none⟩=some (.slice A0 ss.length c0) from by rw [<- hW];clear hW;go_simp);have Ha1:=aF (show W.cell? ⟨w.heap.size,1,none⟩=some (.int .i64 k) from by rw [<- hW];clear hW;go_simp);have Ha2:=aF (show W.cell? ⟨w.heap.size,2,none⟩=some (.slice A1 ta.length c1) from by rw [<- hW];clear hW;go_simp);have Ha3:=aF (show W.cell? ⟨w.heap.size,3,none⟩=some (.slice A2 ar.length c2) from by rw [<- hW];clear hW;go_simp);have Ha4:=aF (show W.cell? ⟨w.heap.size,4,none⟩=some (.int .i64 p.loc) from by rw [<- hW];clear hW;go_simp);have Ha5:=aF (show W.cell? ⟨w.heap.size,5,none⟩=some (.slice A3 p.proj.length c3) from by rw [<- hW];clear hW;go_simp);have Ha6:=aF (show W.cell? ⟨w.heap.size,6,none⟩=some (.string nm) from by rw [<- hW];clear hW;go_simp);have Hz0:=aF (show W.cell? ⟨w.heap.size+1,0,none⟩=some (.slice B0 ts.length d0) from by rw [<- hW];clear hW;go_simp);have Hz1:=aF (show W.cell? ⟨w.heap.size+1,1,none⟩=some (.int .i64 k2) from by rw [<- hW];clear hW;go_simp);have Hz2:=aF (show W.cell? ⟨w.heap.size+1,2,none⟩=some (.slice B1 ta2.length d1) from by rw [<- hW];clear hW;go_simp);have Hz3:=aF (show W.cell? ⟨w.heap.size+1,3,none⟩=some (.slice B2 ar2.length d2) from by rw [<- hW];clear hW;go_simp);have Hz4:=aF (show W.cell? ⟨w.heap.size+1,4,none⟩=some (.int .i64 p2.loc) from by rw [<- hW];clear hW;go_simp);have Hz5:=aF (show W.cell? ⟨w.heap.size+1,5,none⟩=some (.slice B3 p2.proj.length d3) from by rw [<- hW];clear hW;go_simp);have Hz6:=aF (show W.cell? ⟨w.heap.size+1,6,none⟩=some (.string nm2) from by rw [<- hW];clear hW;go_simp);have HS:=aF (hs.keep RSt.keeps hBW);have HT:=aF (hs2.keep RSt.keeps hBW);have HI:=aF (fun (X:World) (h:Below w.heap.size w X)=>xG ta ta2 A1 B1 c1 d1 X (ht.keep RInt.keeps h) (ht2.keep RInt.keeps h));have HO:=aF (fun (X:World) (h:Below w.heap.size w X)=>sQ ar ar2 A2 B2 c2 d2 X (hx.keep ROp.keeps h) (hx2.keep ROp.keeps h));have HP:=aF (fun (X:World) (h:Below w.heap.size w X)=>gN p p2 A3 B3 c3 d3 X (hp.keep RPj.keeps h) (hp2.keep RPj.keeps h));obtain ⟨b1,e1⟩:∃b,decide (ta=ta2)=b:=⟨_,rfl⟩;obtain ⟨b2,e2⟩:∃b,decide (ar=ar2)=b:=⟨_,rfl⟩;obtain ⟨b3,e3⟩:∃b,decide (p=p2)=b:=⟨_,rfl⟩;rw [e1] at HI;rw [e2] at HO;rw [e3] at HP;rw [e1,e2,e3];obtain ⟨R,hR⟩:∃R,(decide (ss=ts) && decide (k=k2) && decide (nm=nm2) && b1 && b2 && b3)=R:=⟨_,rfl⟩;rw [hR];have HR:=aF hR;clear hs hs2 ht ht2 hx hx2 hp hp2 hBW e1 e2 e3 hR;by_cases hl:ss.length=ts.length
 case neg=>
  have HF:Hid (R=false):=aF (by rw [<- HR.out,show decide (ss=ts)=false by simp only [decide_eq_false_iff_not];intro h;exact hl (by rw [h])];rfl);have e1:((ss.length:Int) != (ts.length:Int))=true:=by simp;omega
  have a0:=Ha0.out;have z0:=Hz0.out;clear HR;go_enter Tryz.func60,Tryz.ntmps60
  go_wp2_with fail
  go_ret;exact ⟨by rw [HF.out];rfl,HBW.out⟩
 have e1:((ss.length:Int) != (ts.length:Int))=false:=by simp;omega
 have HL:=aF hl;clear hl;have a0:=Ha0.out;have z0:=Hz0.out;go_enter Tryz.func60,Tryz.ntmps60
 go_wp2_with fail
 clear hW;clear a0 z0;go_loopw [5] (fun v wr=>∃i:Nat,i<=ss.length/\v = .int .i64 i/\Hid (ss.take i=ts.take i)/\Hid (Below W.heap.size W wr)) (fun v _=>ss.length - (intOf v).toNat)
 case atStart=>exact ⟨0,by omega,rfl,aF rfl,aF (aX _ _)⟩
 case round=>
  obtain ⟨i,hi,rfl,HE,HB⟩:=hrel;have a0:=cM HB.out Ha0.out;have a1:=cM HB.out Ha1.out;have a2:=cM HB.out Ha2.out;have a3:=cM HB.out Ha3.out;have a4:=cM HB.out Ha4.out;have a5:=cM HB.out Ha5.out;have a6:=cM HB.out Ha6.out;have z0:=cM HB.out Hz0.out;have z1:=cM HB.out Hz1.out;have z2:=cM HB.out Hz2.out;have z3:=cM HB.out Hz3.out;have z4:=cM HB.out Hz4.out;have z5:=cM HB.out Hz5.out;have z6:=cM HB.out Hz6.out;by_cases hlt:i<ss.length
  case pos=>
   have hlt2:i<ts.length:=by have:=HL.out;omega
   obtain ⟨b,o,rfl,hb,q1⟩:=(HS.out.keep RSt.keeps HB.out).sl.at_ hlt;obtain ⟨bb,oo,rfl,hbb,q2⟩:=(HT.out.keep RSt.keeps HB.out).sl.at_ hlt2;obtain ⟨X0,g0,X1,g1,X2,g2,f0,f1,f2,f3,f4,f5,f6,f7,f8,f9,f10,r1,r2,r3⟩:=iV q1;obtain ⟨Y0,h0,Y1,h1,Y2,h2,j0,j1,j2,j3,j4,j5,j6,j7,j8,j9,j10,s1,s2,s3⟩:=iV q2;have HC:=aF (fun (X:World) (hw:Below wr.heap.size wr X)=>xHH ss[i] ts[i] X0 Y0 X1 Y1 X2 Y2 g0 h0 g1 h1 g2 h2 X (r1.keep RPj.keeps hw) (s1.keep RPj.keeps hw) (r2.keep RPj.keeps hw) (s2.keep RPj.keeps hw) (r3.keep ROp.keeps hw) (s3.keep ROp.keeps hw));have HN:=aF (gD HE.out hlt hlt2);have HD:Hid (ss[i]≠ts[i]->R=false):=aF (fun h=>by rw [<- HR.out,show decide (ss=ts)=false by simp only [decide_eq_false_iff_not];intro hh;subst hh;exact h rfl];rfl);clear r1 r2 r3 s1 s2 s3 q1 q2 HE;obtain ⟨be,hbe⟩:∃be,decide (ss[i]=ts[i])=be:=⟨_,rfl⟩;rw [hbe] at HC;have HBE:=aF hbe;clear hbe;cases be
   case false=>
    have HF:Hid (R=false):=aF (HD.out (by have:=HBE.out;simpa using this));clear HBE HD HN HR;generalize ss[i]=x at *;generalize ts[i]=y at *;go_wp2_with fail
    go_still_tail 10,(by kernel_rfl)
    change wpList _ _ _ _ _ wr.drew;go_wp2_with (go_at_call 103;refine (HC.out _ (aX _ _).drew).mono ?_;rintro e' w3 ⟨rfl,hb3⟩;have HB3:=aF hb3;clear hb3)
    go_ret;exact ⟨by rw [HF.out];rfl,HBW.out.trans ((HB.out.drew.trans (HB3.out.mono HB.out.size)).mono HBW.out.size)⟩
   case true=>
    have HN2:=aF (HN.out (by have:=HBE.out;simpa using this));clear HBE HD HN HR;generalize ss[i]=x at *;generalize ts[i]=y at *;go_wp2_with fail
    go_still_tail 10,(by kernel_rfl)
    change wpList _ _ _ _ _ wr.drew;go_wp2_with (go_at_call 103;refine (HC.out _ (aX _ _).drew).mono ?_;rintro e' w3 ⟨rfl,hb3⟩;have HB3:=aF hb3;clear hb3)
    go_roundw
    case rel=>exact ⟨i+1,by omega,by go_num,HN2,aF (HB.out.drew.trans (HB3.out.mono HB.out.size))⟩
    case measure=>simp [intOf];omega
  case neg=>
   have HG:Hid (ss=ts):=aF (fJ HE.out (by omega) (by have:=HL.out;omega));have HR2:Hid ((decide (k=k2) && decide (nm=nm2) && b1 && b2 && b3)=R):=aF (by rw [<- HR.out,decide_eq_true HG.out];simp);clear HR HG HE;obtain ⟨V,hV⟩:∃V,(wr.alloc (.cells #[.int .i64 k,.slice A1 ta.length c1,.slice A2 ar.length c2,.int .i64 p.loc,.slice A3 p.proj.length c3,.string nm] 61)).alloc (.cells #[.int .i64 k2,.slice B1 ta2.length d1,.slice B2 ar2.length d2,.int .i64 p2.loc,.slice B3 p2.proj.length d3,.string nm2] 61)=V:=⟨_,rfl⟩;have HBV:=aF (show Below w.heap.size w V from HBW.out.trans ((HB.out.trans ((show Below wr.heap.size wr V from by rw [<- hV];exact aH).mono HB.out.size)).mono HBW.out.size));have hsz0:w.heap.size<wr.heap.size:=by have:=HB.out.size;have:=HWS.out;omega
   have hsz1:w.heap.size+1<wr.heap.size:=by have:=HB.out.size;have:=HWS.out;omega
   have x0:V.cell? ⟨wr.heap.size,0,none⟩=some (.int .i64 k):=by rw [<- hV];clear hV;go_simp
   have x1:V.cell? ⟨wr.heap.size,1,none⟩=some (.slice A1 ta.length c1):=by rw [<- hV];clear hV;go_simp
   have x2:V.cell? ⟨wr.heap.size,2,none⟩=some (.slice A2 ar.length c2):=by rw [<- hV];clear hV;go_simp
   have x3:V.cell? ⟨wr.heap.size,3,none⟩=some (.int .i64 p.loc):=by rw [<- hV];clear hV;go_simp
   have x4:V.cell? ⟨wr.heap.size,4,none⟩=some (.slice A3 p.proj.length c3):=by rw [<- hV];clear hV;go_simp
   have x5:V.cell? ⟨wr.heap.size,5,none⟩=some (.string nm):=by rw [<- hV];clear hV;go_simp
   have y0:V.cell? ⟨wr.heap.size+1,0,none⟩=some (.int .i64 k2):=by rw [<- hV];clear hV;go_simp
   have y1:V.cell? ⟨wr.heap.size+1,1,none⟩=some (.slice B1 ta2.length d1):=by rw [<- hV];clear hV;go_simp
   have y2:V.cell? ⟨wr.heap.size+1,2,none⟩=some (.slice B2 ar2.length d2):=by rw [<- hV];clear hV;go_simp
   have y3:V.cell? ⟨wr.heap.size+1,3,none⟩=some (.int .i64 p2.loc):=by rw [<- hV];clear hV;go_simp
   have y4:V.cell? ⟨wr.heap.size+1,4,none⟩=some (.slice B3 p2.proj.length d3):=by rw [<- hV];clear hV;go_simp
   have y5:V.cell? ⟨wr.heap.size+1,5,none⟩=some (.string nm2):=by rw [<- hV];clear hV;go_simp
   by_cases h1:k=k2
   case neg=>
    have e0:(k == k2)=false:=by simp [h1]
    have HF:Hid (R=false):=aF (by rw [<- HR2.out];simp [h1]);clear HR2;go_wp2_with fail
    go_ret;exact ⟨by rw [HF.out];rfl,HBV.out⟩
   subst h1;by_cases h2:nm=nm2
   case neg=>
    have e0:(nm.toList == nm2.toList)=false:=beq_false_of_ne (fun h=>h2 (nO (by rw [<- Lib.toList_data,<- Lib.toList_data];exact h)));have HF:Hid (R=false):=aF (by rw [<- HR2.out];simp [h2]);clear HR2;go_wp2_with fail
    go_ret;exact ⟨by rw [HF.out];rfl,HBV.out⟩
   subst h2;cases b1
   case false=>
    have HF:Hid (R=false):=aF (by rw [<- HR2.out];simp);clear HR2;go_wp2_with fail
    refine (HI.out _ HBV.out).mono ?_;rintro e' w1 ⟨rfl,hb1⟩;replace x0:=cM hb1 x0;replace x1:=cM hb1 x1;replace x2:=cM hb1 x2;replace x3:=cM hb1 x3;replace x4:=cM hb1 x4;replace x5:=cM hb1 x5;replace y0:=cM hb1 y0;replace y1:=cM hb1 y1;replace y2:=cM hb1 y2;replace y3:=cM hb1 y3;replace y4:=cM hb1 y4;replace y5:=cM hb1 y5;have HB1:=aF (HBV.out.trans (hb1.mono HBV.out.size));clear hb1;go_wp2_with fail
    go_ret;exact ⟨by rw [HF.out];rfl,HB1.out⟩
   cases b2
   case false=>
    have HF:Hid (R=false):=aF (by rw [<- HR2.out];simp);clear HR2;go_wp2_with fail
    refine (HI.out _ HBV.out).mono ?_;rintro e' w1 ⟨rfl,hb1⟩;replace x0:=cM hb1 x0;replace x1:=cM hb1 x1;replace x2:=cM hb1 x2;replace x3:=cM hb1 x3;replace x4:=cM hb1 x4;replace x5:=cM hb1 x5;replace y0:=cM hb1 y0;replace y1:=cM hb1 y1;replace y2:=cM hb1 y2;replace y3:=cM hb1 y3;replace y4:=cM hb1 y4;replace y5:=cM hb1 y5;have HB1:=aF (HBV.out.trans (hb1.mono HBV.out.size));clear hb1;go_wp2_with fail
    refine (HO.out _ HB1.out).mono ?_;rintro e' w2 ⟨rfl,hb2⟩;replace x0:=cM hb2 x0;replace x1:=cM hb2 x1;replace x2:=cM hb2 x2;replace x3:=cM hb2 x3;replace x4:=cM hb2 x4;replace x5:=cM hb2 x5;replace y0:=cM hb2 y0;replace y1:=cM hb2 y1;replace y2:=cM hb2 y2;replace y3:=cM hb2 y3;replace y4:=cM hb2 y4;replace y5:=cM hb2 y5;have HB2:=aF (HB1.out.trans (hb2.mono HB1.out.size));clear hb2;go_wp2_with fail
    go_ret;exact ⟨by rw [HF.out];rfl,HB2.out⟩
   have HF:Hid (R=b3):=aF (by rw [<- HR2.out];simp);clear HR2;go_wp2_with fail
   refine (HI.out _ HBV.out).mono ?_;rintro e' w1 ⟨rfl,hb1⟩;replace x0:=cM hb1 x0;replace x1:=cM hb1 x1;replace x2:=cM hb1 x2;replace x3:=cM hb1 x3;replace x4:=cM hb1 x4;replace x5:=cM hb1 x5;replace y0:=cM hb1 y0;replace y1:=cM hb1 y1;replace y2:=cM hb1 y2;replace y3:=cM hb1 y3;replace y4:=cM hb1 y4;replace y5:=cM hb1 y5;have HB1:=aF (HBV.out.trans (hb1.mono HBV.out.size));clear hb1;go_wp2_with fail
   refine (HO.out _ HB1.out).mono ?_;rintro e' w2 ⟨rfl,hb2⟩;replace x0:=cM hb2 x0;replace x1:=cM hb2 x1;replace x2:=cM hb2 x2;replace x3:=cM hb2 x3;replace x4:=cM hb2 x4;replace x5:=cM hb2 x5;replace y0:=cM hb2 y0;replace y1:=cM hb2 y1;replace y2:=cM hb2 y2;replace y3:=cM hb2 y3;replace y4:=cM hb2 y4;replace y5:=cM hb2 y5;have HB2:=aF (HB1.out.trans (hb2.mono HB1.out.size));clear hb2;go_wp2_with fail
   refine (HP.out _ HB2.out).mono ?_;rintro e' w3 ⟨rfl,hb3⟩;replace x0:=cM hb3 x0;replace x1:=cM hb3 x1;replace x2:=cM hb3 x2;replace x3:=cM hb3 x3;replace x4:=cM hb3 x4;replace x5:=cM hb3 x5;replace y0:=cM hb3 y0;replace y1:=cM hb3 y1;replace y2:=cM hb3 y2;replace y3:=cM hb3 y3;replace y4:=cM hb3 y4;replace y5:=cM hb3 y5;have HB3:=aF (HB2.out.trans (hb3.mono HB2.out.size));clear hb3;go_wp2_with fail
   go_ret;exact ⟨by rw [HF.out];rfl,HB3.out⟩
theorem xHI (x y:Blk) (A0 B0 A1 B1 A2 B2 A3 B3:Option Addr) (c0 d0 c1 d1 c2 d2 c3 d3:Nat) (w:World)
 (hs:Slc 11 RSt w A0 c0 x.stmts) (hs2:Slc 11 RSt w B0 d0 y.stmts) (ht:Slc 1 RInt w A1 c1 x.term.targets) (ht2:Slc 1 RInt w B1 d1 y.term.targets) (hx:Slc 4 ROp w A2 c2 x.term.args) (hx2:Slc 4 ROp w B2 d2 y.term.args) (hp:Slc 2 RPj w A3 c3 x.term.place.proj) (hp2:Slc 2 RPj w B3 d3 y.term.place.proj):
 Calls Tryz.prog 60 #[.agg (bkL x A0 c0 A1 c1 A2 c2 A3 c3).toArray,.agg (bkL y B0 d0 B1 d1 B2 d2 B3 d3).toArray] w fun e' w'=>e' = .returned (.bool (decide (x=y)))/\Below w.heap.size w w':=by
 have h:=xBN x.stmts y.stmts x.term.kind y.term.kind x.term.targets y.term.targets x.term.args y.term.args x.term.place y.term.place x.term.name y.term.name A0 B0 A1 B1 A2 B2 A3 B3 c0 d0 c1 d1 c2 d2 c3 d3 w hs hs2 ht ht2 hx hx2 hp hp2
 have e:(decide (x.stmts=y.stmts) && decide (x.term.kind=y.term.kind) && decide (x.term.name=y.term.name) && decide (x.term.targets=y.term.targets) && decide (x.term.args=y.term.args) && decide (x.term.place=y.term.place))=decide (x=y):=by
  obtain ⟨ss,⟨k,ta,ar,p,nm⟩⟩:=x;obtain ⟨ss2,⟨k2,ta2,ar2,p2,nm2⟩⟩:=y;rw [bR];simp only [bQ,decide_eq_true_eq,Blk.mk.injEq,Trm.mk.injEq];constructor
  ·rintro ⟨⟨⟨⟨⟨a,b⟩,c⟩,d⟩,e⟩,f⟩;exact ⟨a,b,d,e,f,c⟩
  ·rintro ⟨a,b,d,e,f,c⟩;exact ⟨⟨⟨⟨⟨a,b⟩,c⟩,d⟩,e⟩,f⟩
 rw [e] at h;exact h
theorem xHW (a:ByteArray) (b:Int) (w:World):Sem.run Tryz.prog (binOp .neq 48 (.agg #[.string a,.int .i64 b]) (.agg #[.string a,.int .i64 b])) w = .ok (.bool false) w:=by
 have u3:=Tryz.underlying3;have a3:=Tryz.isAgg3;have z3:=Tryz.sizeOf3;have u9:=Tryz.underlying9;have a9:=Tryz.isAgg9;have z9:=Tryz.sizeOf9;have hS:Tryz.prog.underlying 48=some (.struct (Tryz.prog.fieldsOf 48)):=by kernel_rfl
 have hp:Tryz.prog.stoodInHeld 48=false:=by kernel_rfl
 rw [run_neq_struct,show (10000:Nat)=9999+1 from rfl,run_equalIn_agg w 9999 48 _ _ hS hp];simp only [Program.fieldsOf,Tryz.underlying48];go_simp
theorem xHX (a c:ByteArray) (b d:Int) (h:¬(a=c/\b=d)) (w:World):Sem.run Tryz.prog (binOp .neq 48 (.agg #[.string a,.int .i64 b]) (.agg #[.string c,.int .i64 d])) w = .ok (.bool true) w:=by
 have u3:=Tryz.underlying3;have a3:=Tryz.isAgg3;have z3:=Tryz.sizeOf3;have u9:=Tryz.underlying9;have a9:=Tryz.isAgg9;have z9:=Tryz.sizeOf9;have hS:Tryz.prog.underlying 48=some (.struct (Tryz.prog.fieldsOf 48)):=by kernel_rfl
 have hp:Tryz.prog.stoodInHeld 48=false:=by kernel_rfl
 rw [run_neq_struct,show (10000:Nat)=9999+1 from rfl,run_equalIn_agg w 9999 48 _ _ hS hp];simp only [Program.fieldsOf,Tryz.underlying48];by_cases ha:a=c
 ·subst ha;have hb:¬b=d:=fun e=>h ⟨rfl,e⟩
  have e1:(b == d)=false:=by simp [hb]
  clear h;go_simp
 ·have e1:(a.toList == c.toList)=false:=beq_false_of_ne (fun h=>ha (nO (by rw [<- Lib.toList_data,<- Lib.toList_data];exact h)));clear h;go_simp
end
end Go.Proofs.YtmknfbfppmkcfaaGreatDoor
