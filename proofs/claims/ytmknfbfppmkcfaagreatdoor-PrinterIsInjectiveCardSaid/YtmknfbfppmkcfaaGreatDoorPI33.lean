/-
  Parts of the proof: Y75.
-/
import Derived.Test.YtmknfbfppmkcfaaGreatDoorPI0
import Derived.Test.YtmknfbfppmkcfaaGreatDoorPI32
import Derived.Test.YtmknfbfppmkcfaaGreatDoorPI27
namespace Go.Proofs.YtmknfbfppmkcfaaGreatDoor
set_option maxRecDepth 100000
set_option maxHeartbeats 16000000
section
open Go Go.RowKit
theorem xH (a b:Bdy) (h1 h2:BH) (w:World) (H1:BdAt w a h1) (H2:BdAt w b h2):
 Calls Tryz.prog 18 #[.agg (bdC a h1).toArray,.agg (bdC b h2).toArray] w fun e' w'=>e' = .returned (.bool (decide (a=b)))/\Below w.heap.size w w':=by
 obtain ⟨A1,a1,A2,a2,A3,a3,A4,a4,A5,a5⟩:=h1;obtain ⟨B1,b1,B2,b2,B3,b3,B4,b4,B5,b5⟩:=h2;obtain ⟨p1,p2,p3,p4,p5⟩:=H1;obtain ⟨q1,q2,q3,q4,q5⟩:=H2;obtain ⟨nm,rg,ot,ts,ls,ar,bk⟩:=a;obtain ⟨nm2,rg2,ot2,ts2,ls2,ar2,bk2⟩:=b;simp only at *;obtain ⟨W,hW⟩:∃W,(w.alloc (.cells #[.string nm,.slice A1 rg.length a1,.slice A2 ot.length a2,.slice A3 ts.length a3,.slice A4 ls.length a4,.int .i64 ar,.slice A5 bk.length a5] 28)).alloc (.cells #[.string nm2,.slice B1 rg2.length b1,.slice B2 ot2.length b2,.slice B3 ts2.length b3,.slice B4 ls2.length b4,.int .i64 ar2,.slice B5 bk2.length b5] 28)=W:=⟨_,rfl⟩;have hB:Below w.heap.size w W:=by rw [<- hW];exact ((aX _ _).alloc (aY _) _).alloc (by simp) _
 have k1:W.heap[w.heap.size]?=some (.cells #[.string nm,.slice A1 rg.length a1,.slice A2 ot.length a2,.slice A3 ts.length a3,.slice A4 ls.length a4,.int .i64 ar,.slice A5 bk.length a5] 28 (0,0)):=by rw [<- hW,Below.heap_alloc _ _ _ (by simp)];exact heap_alloc_new w _
 have k2:W.heap[w.heap.size+1]?=some (.cells #[.string nm2,.slice B1 rg2.length b1,.slice B2 ot2.length b2,.slice B3 ts2.length b3,.slice B4 ls2.length b4,.int .i64 ar2,.slice B5 bk2.length b5] 28 (0,0)):=by
  rw [<- hW];have:=heap_alloc_new (w.alloc (.cells #[.string nm,.slice A1 rg.length a1,.slice A2 ot.length a2,.slice A3 ts.length a3,.slice A4 ls.length a4,.int .i64 ar,.slice A5 bk.length a5] 28)) (.cells #[.string nm2,.slice B1 rg2.length b1,.slice B2 ot2.length b2,.slice B3 ts2.length b3,.slice B4 ls2.length b4,.int .i64 ar2,.slice B5 bk2.length b5] 28);rwa [bI] at this
 have HS:=aF (fun X (h:Below W.heap.size W X)=>xBJ rg rg2 A1 B1 a1 b1 X ((p1.keep RN.keeps hB).keep RN.keeps h) ((q1.keep RN.keeps hB).keep RN.keeps h));have HP:=aF (fun X (h:Below W.heap.size W X)=>uR ot ot2 A2 B2 a2 b2 X ((p2.keep RPr.keeps hB).keep RPr.keeps h) ((q2.keep RPr.keeps hB).keep RPr.keeps h));have T1:=aF (p3.keep RTy.keeps hB);have T2:=aF (q3.keep RTy.keeps hB);have L1:=aF (p4.keep RLc.keeps hB);have L2:=aF (q4.keep RLc.keeps hB);have N1:=aF (p5.keep RBk.keeps hB);have N2:=aF (q5.keep RBk.keeps hB);have HB:=aF hB;have K1:=aF k1;have K2:=aF k2;have n1:=p3.le;have n2:=q3.le;have n3:=p4.le;have n4:=q4.le;have n5:=p3.big;have n6:=q3.big;have n7:=p4.big;have n8:=q4.big;have n9:=p5.le;have n10:=q5.le;have n11:=p5.big;have n12:=q5.big;clear p1 p2 p3 p4 p5 q1 q2 q3 q4 q5;obtain ⟨x0,x1,x2,x3,x4,x5,x6,_⟩:=blk7v k1;obtain ⟨y0,y1,y2,y3,y4,y5,y6,_⟩:=blk7v k2;clear k1 k2 hB;obtain ⟨v1,e1⟩:∃v,decide (rg=rg2)=v:=⟨_,rfl⟩;obtain ⟨v2,e2⟩:∃v,decide (ot=ot2)=v:=⟨_,rfl⟩;rw [e1] at HS;rw [e2] at HP;obtain ⟨R,hR⟩:∃R,decide ((⟨nm,rg,ot,ts,ls,ar,bk⟩:Bdy)=⟨nm2,rg2,ot2,ts2,ls2,ar2,bk2⟩)=R:=⟨_,rfl⟩;rw [hR]
 have HR:Hid (R=(decide (nm=nm2) && decide (ar=ar2) && v1 && v2 && decide (ts=ts2) && decide (ls=ls2) && decide (bk=bk2))):=aF (by
  rw [<- hR,<- e1,<- e2,bR];simp only [bQ,decide_eq_true_eq,Bdy.mk.injEq];constructor
  ·rintro ⟨a,b,c,d,e,f,g⟩;exact ⟨⟨⟨⟨⟨⟨a,f⟩,b⟩,c⟩,d⟩,e⟩,g⟩
  ·rintro ⟨⟨⟨⟨⟨⟨a,f⟩,b⟩,c⟩,d⟩,e⟩,g⟩;exact ⟨a,b,c,d,e,f,g⟩)
 clear hR e1 e2;change Calls _ _ #[.agg #[.string nm,.slice A1 rg.length a1,.slice A2 ot.length a2,.slice A3 ts.length a3,.slice A4 ls.length a4,.int .i64 ar,.slice A5 bk.length a5],.agg #[.string nm2,.slice B1 rg2.length b1,.slice B2 ot2.length b2,.slice B3 ts2.length b3,.slice B4 ls2.length b4,.int .i64 ar2,.slice B5 bk2.length b5]] _ _;by_cases h1:nm=nm2
 case neg=>
  have e0:(nm.toList == nm2.toList)=false:=beq_false_of_ne (fun h=>h1 (nO (by rw [<- Lib.toList_data,<- Lib.toList_data];exact h)));have HF:Hid (R=false):=aF (by rw [HR.out];simp [h1]);clear HR;go_enter Tryz.func18,Tryz.ntmps18
  go_wp2_with fail
  go_ret;exact ⟨by rw [HF.out];rfl,HB.out⟩
 subst h1;by_cases h2:ar=ar2
 case neg=>
  have e0:(ar != ar2)=true:=by simp [h2]
  have HF:Hid (R=false):=aF (by rw [HR.out];simp [h2]);clear HR;go_enter Tryz.func18,Tryz.ntmps18
  go_wp2_with fail
  go_ret;exact ⟨by rw [HF.out];rfl,HB.out⟩
 subst h2;cases v1
 case false=>
  have HF:Hid (R=false):=aF (by rw [HR.out];simp);clear HR;go_enter Tryz.func18,Tryz.ntmps18
  go_wp2_with fail
  first | refine (HS.out _ (aX _ _)).mono ?_ | (go_at_call 57;refine (HS.out _ (aX _ _)).mono ?_)
  rintro e' w1 ⟨rfl,hb1⟩;obtain ⟨x0,x1,x2,x3,x4,x5,x6,_⟩:=blk7v ((hb1.block _ (by have:=(Array.getElem?_eq_some_iff.1 K1.out).1;omega)).trans K1.out);obtain ⟨y0,y1,y2,y3,y4,y5,y6,_⟩:=blk7v ((hb1.block _ (by have:=(Array.getElem?_eq_some_iff.1 K2.out).1;omega)).trans K2.out);have HB1:=aF hb1;clear hb1;go_wp2_with fail
  go_ret;exact ⟨by rw [HF.out];rfl,HB.out.trans (HB1.out.mono HB.out.size)⟩
 cases v2
 case false=>
  have HF:Hid (R=false):=aF (by rw [HR.out];simp);clear HR;go_enter Tryz.func18,Tryz.ntmps18
  go_wp2_with fail
  first | refine (HS.out _ (aX _ _)).mono ?_ | (go_at_call 57;refine (HS.out _ (aX _ _)).mono ?_)
  rintro e' w1 ⟨rfl,hb1⟩;obtain ⟨x0,x1,x2,x3,x4,x5,x6,_⟩:=blk7v ((hb1.block _ (by have:=(Array.getElem?_eq_some_iff.1 K1.out).1;omega)).trans K1.out);obtain ⟨y0,y1,y2,y3,y4,y5,y6,_⟩:=blk7v ((hb1.block _ (by have:=(Array.getElem?_eq_some_iff.1 K2.out).1;omega)).trans K2.out);have HB1:=aF hb1;clear hb1;go_wp2_with fail
  first | refine (HP.out _ HB1.out).mono ?_ | (go_at_call 58;refine (HP.out _ HB1.out).mono ?_)
  rintro e' w2 ⟨rfl,hb2⟩;have hb2:=HB1.out.trans (hb2.mono HB1.out.size);obtain ⟨x0,x1,x2,x3,x4,x5,x6,_⟩:=blk7v ((hb2.block _ (by have:=(Array.getElem?_eq_some_iff.1 K1.out).1;omega)).trans K1.out);obtain ⟨y0,y1,y2,y3,y4,y5,y6,_⟩:=blk7v ((hb2.block _ (by have:=(Array.getElem?_eq_some_iff.1 K2.out).1;omega)).trans K2.out);have HB2:=aF hb2;clear hb2;go_wp2_with fail
  go_ret;exact ⟨by rw [HF.out];rfl,HB.out.trans (HB2.out.mono HB.out.size)⟩
 by_cases h3:ts.length=ts2.length
 case neg=>
  have e0:((ts.length:Int) != (ts2.length:Int))=true:=by simp;omega
  have hne:¬ts=ts2:=fun h=>h3 (by rw [h])
  have HF:Hid (R=false):=aF (by rw [HR.out];simp [hne]);clear HR;go_enter Tryz.func18,Tryz.ntmps18
  go_wp2_with fail
  first | refine (HS.out _ (aX _ _)).mono ?_ | (go_at_call 57;refine (HS.out _ (aX _ _)).mono ?_)
  rintro e' w1 ⟨rfl,hb1⟩;obtain ⟨x0,x1,x2,x3,x4,x5,x6,_⟩:=blk7v ((hb1.block _ (by have:=(Array.getElem?_eq_some_iff.1 K1.out).1;omega)).trans K1.out);obtain ⟨y0,y1,y2,y3,y4,y5,y6,_⟩:=blk7v ((hb1.block _ (by have:=(Array.getElem?_eq_some_iff.1 K2.out).1;omega)).trans K2.out);have HB1:=aF hb1;clear hb1;go_wp2_with fail
  first | refine (HP.out _ HB1.out).mono ?_ | (go_at_call 58;refine (HP.out _ HB1.out).mono ?_)
  rintro e' w2 ⟨rfl,hb2⟩;have hb2:=HB1.out.trans (hb2.mono HB1.out.size);obtain ⟨x0,x1,x2,x3,x4,x5,x6,_⟩:=blk7v ((hb2.block _ (by have:=(Array.getElem?_eq_some_iff.1 K1.out).1;omega)).trans K1.out);obtain ⟨y0,y1,y2,y3,y4,y5,y6,_⟩:=blk7v ((hb2.block _ (by have:=(Array.getElem?_eq_some_iff.1 K2.out).1;omega)).trans K2.out);have HB2:=aF hb2;clear hb2;go_wp2_with fail
  go_ret;exact ⟨by rw [HF.out];rfl,HB.out.trans (HB2.out.mono HB.out.size)⟩
 have l3:((ts.length:Int) != (ts2.length:Int))=false:=by simp;omega
 have HL3:=aF h3;clear h3;by_cases h4:ls.length=ls2.length
 case neg=>
  have e0:((ls.length:Int) != (ls2.length:Int))=true:=by simp;omega
  have hne:¬ls=ls2:=fun h=>h4 (by rw [h])
  have HF:Hid (R=false):=aF (by rw [HR.out];simp [hne]);clear HR;go_enter Tryz.func18,Tryz.ntmps18
  go_wp2_with fail
  first | refine (HS.out _ (aX _ _)).mono ?_ | (go_at_call 57;refine (HS.out _ (aX _ _)).mono ?_)
  rintro e' w1 ⟨rfl,hb1⟩;obtain ⟨x0,x1,x2,x3,x4,x5,x6,_⟩:=blk7v ((hb1.block _ (by have:=(Array.getElem?_eq_some_iff.1 K1.out).1;omega)).trans K1.out);obtain ⟨y0,y1,y2,y3,y4,y5,y6,_⟩:=blk7v ((hb1.block _ (by have:=(Array.getElem?_eq_some_iff.1 K2.out).1;omega)).trans K2.out);have HB1:=aF hb1;clear hb1;go_wp2_with fail
  first | refine (HP.out _ HB1.out).mono ?_ | (go_at_call 58;refine (HP.out _ HB1.out).mono ?_)
  rintro e' w2 ⟨rfl,hb2⟩;have hb2:=HB1.out.trans (hb2.mono HB1.out.size);obtain ⟨x0,x1,x2,x3,x4,x5,x6,_⟩:=blk7v ((hb2.block _ (by have:=(Array.getElem?_eq_some_iff.1 K1.out).1;omega)).trans K1.out);obtain ⟨y0,y1,y2,y3,y4,y5,y6,_⟩:=blk7v ((hb2.block _ (by have:=(Array.getElem?_eq_some_iff.1 K2.out).1;omega)).trans K2.out);have HB2:=aF hb2;clear hb2;go_wp2_with fail
  go_ret;exact ⟨by rw [HF.out];rfl,HB.out.trans (HB2.out.mono HB.out.size)⟩
 have l4:((ls.length:Int) != (ls2.length:Int))=false:=by simp;omega
 have HL4:=aF h4;clear h4;by_cases h5:bk.length=bk2.length
 case neg=>
  have e0:((bk.length:Int) != (bk2.length:Int))=true:=by simp;omega
  have hne:¬bk=bk2:=fun h=>h5 (by rw [h])
  have HF:Hid (R=false):=aF (by rw [HR.out];simp [hne]);clear HR;go_enter Tryz.func18,Tryz.ntmps18
  go_wp2_with fail
  first | refine (HS.out _ (aX _ _)).mono ?_ | (go_at_call 57;refine (HS.out _ (aX _ _)).mono ?_)
  rintro e' w1 ⟨rfl,hb1⟩;obtain ⟨x0,x1,x2,x3,x4,x5,x6,_⟩:=blk7v ((hb1.block _ (by have:=(Array.getElem?_eq_some_iff.1 K1.out).1;omega)).trans K1.out);obtain ⟨y0,y1,y2,y3,y4,y5,y6,_⟩:=blk7v ((hb1.block _ (by have:=(Array.getElem?_eq_some_iff.1 K2.out).1;omega)).trans K2.out);have HB1:=aF hb1;clear hb1;go_wp2_with fail
  first | refine (HP.out _ HB1.out).mono ?_ | (go_at_call 58;refine (HP.out _ HB1.out).mono ?_)
  rintro e' w2 ⟨rfl,hb2⟩;have hb2:=HB1.out.trans (hb2.mono HB1.out.size);obtain ⟨x0,x1,x2,x3,x4,x5,x6,_⟩:=blk7v ((hb2.block _ (by have:=(Array.getElem?_eq_some_iff.1 K1.out).1;omega)).trans K1.out);obtain ⟨y0,y1,y2,y3,y4,y5,y6,_⟩:=blk7v ((hb2.block _ (by have:=(Array.getElem?_eq_some_iff.1 K2.out).1;omega)).trans K2.out);have HB2:=aF hb2;clear hb2;go_wp2_with fail
  go_ret;exact ⟨by rw [HF.out];rfl,HB.out.trans (HB2.out.mono HB.out.size)⟩
 have l5:((bk.length:Int) != (bk2.length:Int))=false:=by simp;omega
 have HL5:=aF h5;clear h5;go_enter Tryz.func18,Tryz.ntmps18
 go_wp2_with fail
 first | refine (HS.out _ (aX _ _)).mono ?_ | (go_at_call 57;refine (HS.out _ (aX _ _)).mono ?_)
 rintro e' w1 ⟨rfl,hb1⟩;obtain ⟨x0,x1,x2,x3,x4,x5,x6,_⟩:=blk7v ((hb1.block _ (by have:=(Array.getElem?_eq_some_iff.1 K1.out).1;omega)).trans K1.out);obtain ⟨y0,y1,y2,y3,y4,y5,y6,_⟩:=blk7v ((hb1.block _ (by have:=(Array.getElem?_eq_some_iff.1 K2.out).1;omega)).trans K2.out);have HB1:=aF hb1;clear hb1;go_wp2_with fail
 first | refine (HP.out _ HB1.out).mono ?_ | (go_at_call 58;refine (HP.out _ HB1.out).mono ?_)
 rintro e' w2 ⟨rfl,hb2⟩;have hb2:=HB1.out.trans (hb2.mono HB1.out.size);obtain ⟨x0,x1,x2,x3,x4,x5,x6,_⟩:=blk7v ((hb2.block _ (by have:=(Array.getElem?_eq_some_iff.1 K1.out).1;omega)).trans K1.out);obtain ⟨y0,y1,y2,y3,y4,y5,y6,_⟩:=blk7v ((hb2.block _ (by have:=(Array.getElem?_eq_some_iff.1 K2.out).1;omega)).trans K2.out);have HB2:=aF hb2;clear hb2;go_wp2_with fail
 go_loopw [5] (fun v wr=>∃i:Nat,i<=ts.length/\v = .int .i64 i/\Hid (ts.take i=ts2.take i)/\Hid (Below W.heap.size W wr)) (fun v _=>ts.length - (intOf v).toNat)
 case atStart=>exact ⟨0,by omega,rfl,aF rfl,HB2⟩
 case round=>
  obtain ⟨i,hi,rfl,HE,HQ⟩:=hrel;obtain ⟨x0,x1,x2,x3,x4,x5,x6,_⟩:=blk7v ((HQ.out.block _ (by have:=(Array.getElem?_eq_some_iff.1 K1.out).1;omega)).trans K1.out);obtain ⟨y0,y1,y2,y3,y4,y5,y6,_⟩:=blk7v ((HQ.out.block _ (by have:=(Array.getElem?_eq_some_iff.1 K2.out).1;omega)).trans K2.out);by_cases hlt:i<ts.length
  case pos=>
   have hlt2:i<ts2.length:=by have:=HL3.out;omega
   obtain ⟨c,o,rfl,hc,g1,g2,g3,g4,Af,cf,g5,g6,g7,g8⟩:=(T1.out.keep RTy.keeps HQ.out).sl.at_ hlt;obtain ⟨c2,o2,rfl,hc2,f1,f2,f3,f4,Bf,df,f5,f6,f7,f8⟩:=(T2.out.keep RTy.keeps HQ.out).sl.at_ hlt2;have HC:=aF (sV ts[i] ts2[i] Af Bf cf df wr.drew ⟨g8.keep RInt.keeps (by simp) (aX _ wr).drew,g6,g7⟩ ⟨f8.keep RInt.keeps (by simp) (aX _ wr).drew,f6,f7⟩);have HN:=aF (gD HE.out hlt hlt2);have HD:Hid (ts[i]≠ts2[i]->R=false):=aF (fun h=>by rw [HR.out,show decide (ts=ts2)=false by simp only [decide_eq_false_iff_not];intro hh;subst hh;exact h rfl];simp);obtain ⟨be,hbe⟩:∃be,decide (ts[i]=ts2[i])=be:=⟨_,rfl⟩;rw [hbe] at HC;have HBE:=aF hbe;clear hbe g8 f8 HE;cases be
   case false=>
    have HF:Hid (R=false):=aF (HD.out (by have:=HBE.out;simpa using this));clear HBE HD HN HR;generalize ts[i]=t at *;generalize ts2[i]=t2 at *;go_wp2_with fail
    go_still_tail 10,(by kernel_rfl)
    change wpList _ _ _ _ _ wr.drew;go_wp2_with (go_at_call 59;refine HC.out.mono ?_;rintro e' w3 ⟨rfl,hb3⟩;have HB3:=aF hb3;clear hb3)
    go_ret;exact ⟨by rw [HF.out];rfl,HB.out.trans ((HQ.out.drew.trans (HB3.out.mono HQ.out.size)).mono HB.out.size)⟩
   case true=>
    have HN2:=aF (HN.out (by have:=HBE.out;simpa using this));clear HBE HD HN HR;generalize ts[i]=t at *;generalize ts2[i]=t2 at *;go_wp2_with fail
    go_still_tail 10,(by kernel_rfl)
    change wpList _ _ _ _ _ wr.drew;go_wp2_with (go_at_call 59;refine HC.out.mono ?_;rintro e' w3 ⟨rfl,hb3⟩;have HB3:=aF hb3;clear hb3)
    go_roundw
    case rel=>exact ⟨i+1,by omega,by go_num,HN2,aF (HQ.out.drew.trans (HB3.out.mono HQ.out.size))⟩
    case measure=>simp [intOf];omega
  case neg=>
   have HG1:Hid (ts=ts2):=aF (fJ HE.out (by omega) (by have:=HL3.out;omega));clear HE;go_wp2_with fail
   go_loopw [6] (fun v wr=>∃i:Nat,i<=ls.length/\v = .int .i64 i/\Hid (ls.take i=ls2.take i)/\Hid (Below W.heap.size W wr)) (fun v _=>ls.length - (intOf v).toNat)
   case atStart=>exact ⟨0,by omega,rfl,aF rfl,HQ⟩
   case round=>
    obtain ⟨i,hi,rfl,HE,HQ⟩:=hrel;obtain ⟨x0,x1,x2,x3,x4,x5,x6,_⟩:=blk7v ((HQ.out.block _ (by have:=(Array.getElem?_eq_some_iff.1 K1.out).1;omega)).trans K1.out);obtain ⟨y0,y1,y2,y3,y4,y5,y6,_⟩:=blk7v ((HQ.out.block _ (by have:=(Array.getElem?_eq_some_iff.1 K2.out).1;omega)).trans K2.out);by_cases hlt:i<ls.length
    case pos=>
     have hlt2:i<ls2.length:=by have:=HL4.out;omega
     obtain ⟨c,o,rfl,hc,g1,g2⟩:=(L1.out.keep RLc.keeps HQ.out).sl.at_ hlt;obtain ⟨c2,o2,rfl,hc2,f1,f2⟩:=(L2.out.keep RLc.keeps HQ.out).sl.at_ hlt2;by_cases hxy:ls[i]=ls2[i]
     case pos=>
      have HN:=aF (gD HE.out hlt hlt2 hxy);rw [<- hxy] at f1 f2;generalize ls[i]=t at *;have hne:∀X:World,Sem.run Tryz.prog (binOp .neq 48 (.agg #[.string t.name,.int .i64 t.type]) (.agg #[.string t.name,.int .i64 t.type])) X = .ok (.bool false) X:=xHW t.name t.type;clear hxy HE HR;go_wp2_with fail
      go_quiet (fail)
      go_wp2_with fail
      go_roundw
      case rel=>exact ⟨i+1,by omega,by go_num,HN,aF (aG HQ.out _)⟩
      case measure=>simp [intOf];omega
     case neg=>
      have HF:Hid (R=false):=aF (by rw [HR.out,show decide (ls=ls2)=false by simp only [decide_eq_false_iff_not];intro hh;subst hh;exact hxy rfl];simp);generalize ls[i]=t at *;generalize ls2[i]=t2 at *;have hne:∀X:World,Sem.run Tryz.prog (binOp .neq 48 (.agg #[.string t.name,.int .i64 t.type]) (.agg #[.string t2.name,.int .i64 t2.type])) X = .ok (.bool true) X:=xHX t.name t2.name t.type t2.type (fun h=>hxy (by obtain ⟨a,b⟩:=t;obtain ⟨c,d⟩:=t2;simp only at h;rw [h.1,h.2]));clear hxy HE HR;go_wp2_with fail
      go_quiet (fail)
      go_wp2_with fail
      go_ret;exact ⟨by rw [HF.out];rfl,HB.out.trans ((show Below W.heap.size W _ from by first | exact HQ.out | exact aG HQ.out _).mono HB.out.size)⟩
    case neg=>
     have HG2:Hid (ls=ls2):=aF (fJ HE.out (by omega) (by have:=HL4.out;omega));clear HE;go_wp2_with fail
     go_loopw [7] (fun v wr=>∃i:Nat,i<=bk.length/\v = .int .i64 i/\Hid (bk.take i=bk2.take i)/\Hid (Below W.heap.size W wr)) (fun v _=>bk.length - (intOf v).toNat)
     case atStart=>exact ⟨0,by omega,rfl,aF rfl,HQ⟩
     case round=>
      obtain ⟨i,hi,rfl,HE,HQ⟩:=hrel;obtain ⟨x0,x1,x2,x3,x4,x5,x6,_⟩:=blk7v ((HQ.out.block _ (by have:=(Array.getElem?_eq_some_iff.1 K1.out).1;omega)).trans K1.out);obtain ⟨y0,y1,y2,y3,y4,y5,y6,_⟩:=blk7v ((HQ.out.block _ (by have:=(Array.getElem?_eq_some_iff.1 K2.out).1;omega)).trans K2.out);by_cases hlt:i<bk.length
      case pos=>
       have hlt2:i<bk2.length:=by have:=HL5.out;omega
       obtain ⟨c,o,rfl,hc,g0⟩:=(N1.out.keep RBk.keeps HQ.out).sl.at_ hlt;obtain ⟨c2,o2,rfl,hc2,f0⟩:=(N2.out.keep RBk.keeps HQ.out).sl.at_ hlt2;obtain ⟨C1,s1,C2,s2,C3,s3,C4,s4,g1,g2,g3,g4,g5,g6,g7,r1,r2,r3,r4⟩:=hH g0;obtain ⟨D1,u1,D2,u2,D3,u3,D4,u4,f1,f2,f3,f4,f5,f6,f7,t1,t2,t3,t4⟩:=hH f0;have HC:Hid (∀(X:World) (hw:Below wr.heap.size wr X),_):=aF (fun (X:World) (hw:Below wr.heap.size wr X)=>xHI bk[i] bk2[i] C1 D1 C2 D2 C3 D3 C4 D4 s1 u1 s2 u2 s3 u3 s4 u4 X (r1.keep RSt.keeps hw) (t1.keep RSt.keeps hw) (r2.keep RInt.keeps hw) (t2.keep RInt.keeps hw) (r3.keep ROp.keeps hw) (t3.keep ROp.keeps hw) (r4.keep RPj.keeps hw) (t4.keep RPj.keeps hw));have HN:=aF (gD HE.out hlt hlt2);have HD:Hid (bk[i]≠bk2[i]->R=false):=aF (fun h=>by rw [HR.out,show decide (bk=bk2)=false by simp only [decide_eq_false_iff_not];intro hh;subst hh;exact h rfl];simp);obtain ⟨be,hbe⟩:∃be,decide (bk[i]=bk2[i])=be:=⟨_,rfl⟩;rw [hbe] at HC;have HBE:=aF hbe;unfold bkL at HC;clear hbe HE g0 f0 r1 r2 r3 r4 t1 t2 t3 t4;cases be
       case false=>
        have HF:Hid (R=false):=aF (HD.out (by have:=HBE.out;simpa using this));clear HBE HD HN HR;generalize bk[i]=t at *;generalize bk2[i]=t2 at *;go_wp2_with fail
        go_still_tail 10,(by kernel_rfl)
        change wpList _ _ _ _ _ wr.drew;go_wp2_with (go_at_call 60;refine (HC.out _ (aX _ _).drew).mono ?_;rintro e' w3 ⟨rfl,hb3⟩;have HB3:=aF hb3;clear hb3)
        go_ret;exact ⟨by rw [HF.out];rfl,HB.out.trans ((HQ.out.drew.trans (HB3.out.mono HQ.out.size)).mono HB.out.size)⟩
       case true=>
        have HN2:=aF (HN.out (by have:=HBE.out;simpa using this));clear HBE HD HN HR;generalize bk[i]=t at *;generalize bk2[i]=t2 at *;go_wp2_with fail
        go_still_tail 10,(by kernel_rfl)
        change wpList _ _ _ _ _ wr.drew;go_wp2_with (go_at_call 60;refine (HC.out _ (aX _ _).drew).mono ?_;rintro e' w3 ⟨rfl,hb3⟩;have HB3:=aF hb3;clear hb3)
        go_roundw
        case rel=>exact ⟨i+1,by omega,by go_num,HN2,aF (HQ.out.drew.trans (HB3.out.mono HQ.out.size))⟩
        case measure=>simp [intOf];omega
      case neg=>
       have HF:Hid (R=true):=aF (by
        have hg:bk=bk2:=fJ HE.out (by omega) (by have:=HL5.out;omega)
        rw [HR.out,decide_eq_true HG1.out,decide_eq_true HG2.out,decide_eq_true hg];simp)
       go_wp2_with fail
       go_ret;exact ⟨by rw [HF.out];rfl,HB.out.trans (HQ.out.mono HB.out.size)⟩
end
end Go.Proofs.YtmknfbfppmkcfaaGreatDoor
