/-
  Parts of the proof: V41 A5 Y50 V65 V66 V69 V72 Y24 Y51 Open.
-/
import Derived.Test.YtmknfbfppmkcfaaGreatDoorPP0
import Derived.Test.YtmknfbfppmkcfaaGreatDoorPP9
import Derived.Test.YtmknfbfppmkcfaaGreatDoorPP3
import Derived.Test.YtmknfbfppmkcfaaGreatDoorPP2
import Derived.Test.YtmknfbfppmkcfaaGreatDoorPP5
import Derived.Test.YtmknfbfppmkcfaaGreatDoorPP7
import Derived.Test.YtmknfbfppmkcfaaGreatDoorPP1
import Derived.Test.YtmknfbfppmkcfaaGreatDoorRows
import Derived.Test.YtmknfbfppmkcfaaGreatDoorPP8
import Derived.Deep.LoopGhost
import Derived.RangeFuncBox
import Derived.ProofKit
import Derived.Below
import Derived.Deep.Slices
import Derived.Deep.Fields
import Derived.Lib.SmallJoins
import Derived.OpenShut
import Derived.LaidMore
import Derived.Stop.Joined
import Derived.Stop.LaidErr
import Derived.Lay
import Derived.SevenTiedAt
namespace Go.Proofs.YtmknfbfppmkcfaaGreatDoor
set_option maxRecDepth 100000
set_option maxHeartbeats 16000000
section
open Go Go.RowKit Go.Maps
theorem nI {w:World} {b o:Nat} {x:Blk} (h:RBk w w.heap.size b o x):∃A1 c1 A2 c2 A3 c3 A4 c4,w.cell? ⟨b,o,none⟩=some (.slice A1 x.stmts.length c1)/\w.cell? ⟨b,o+1,none⟩=some (.int .i64 x.term.kind)/\w.cell? ⟨b,o+2,none⟩=some (.slice A2 x.term.targets.length c2)/\w.cell? ⟨b,o+3,none⟩=some (.slice A3 x.term.args.length c3)/\w.cell? ⟨b,o+4,none⟩=some (.int .i64 x.term.place.loc)/\w.cell? ⟨b,o+5,none⟩=some (.slice A4 x.term.place.proj.length c4)/\w.cell? ⟨b,o+6,none⟩=some (.string x.term.name)/\
 Slc 11 RSt w A1 c1 x.stmts/\Slc 1 RInt w A2 c2 x.term.targets/\Slc 4 ROp w A3 c3 x.term.args/\Slc 2 RPj w A4 c4 x.term.place.proj:=by
 obtain ⟨⟨A1,c1,h1,h2,h3,h4⟩,t0,⟨A2,c2,t1,t2,t3,t4⟩,⟨A3,c3,s1,s2,s3,s4⟩,⟨p0,A4,c4,p1,p2,p3,p4⟩,t5⟩:=h;exact ⟨A1,c1,A2,c2,A3,c3,A4,c4,h1,t0,t1,s1,p0,p1,t5,⟨h4,h2,h3⟩,⟨t4,t2,t3⟩,⟨s4,s2,s3⟩,⟨p4,p2,p3⟩⟩
theorem qY {w:World} {b o:Nat} {s:Stm} (h:RSt w w.heap.size b o s):∃A0 c0 A c B d,w.cell? ⟨b,o,none⟩=some (.int .i64 s.kind)/\w.cell? ⟨b,o+1,none⟩=some (.int .i64 s.place.loc)/\w.cell? ⟨b,o+2,none⟩=some (.slice A0 s.place.proj.length c0)/\w.cell? ⟨b,o+3,none⟩=some (.int .i64 s.rv.kind)/\w.cell? ⟨b,o+4,none⟩=some (.int .i64 s.rv.op)/\w.cell? ⟨b,o+5,none⟩=some (.int .i64 s.rv.reg)/\w.cell? ⟨b,o+6,none⟩=some (.bool s.rv.mu)/\w.cell? ⟨b,o+7,none⟩=some (.int .i64 s.rv.place.loc)/\w.cell? ⟨b,o+8,none⟩=some (.slice A s.rv.place.proj.length c)/\w.cell? ⟨b,o+9,none⟩=some (.slice B s.rv.args.length d)/\w.cell? ⟨b,o+10,none⟩=some (.int .i64 s.loc)/\
 Slc 2 RPj w A0 c0 s.place.proj/\Slc 2 RPj w A c s.rv.place.proj/\Slc 4 ROp w B d s.rv.args:=by
 obtain ⟨k0,⟨p0,A0,c0,p1,p2,p3,p4⟩,⟨v0,v1,v2,v3,⟨q0,A,c,q1,q2,q3,q4⟩,⟨B,d,a1,a2,a3,a4⟩⟩,l0⟩:=h;exact ⟨A0,c0,A,c,B,d,k0,p0,p1,v0,v1,v2,v3,q0,q1,a1,l0,⟨p4,p2,p3⟩,⟨q4,q2,q3⟩,⟨a4,a2,a3⟩⟩
def bkL (x:Blk) (A1:Option Addr) (c1:Nat) (A2:Option Addr) (c2:Nat) (A3:Option Addr) (c3:Nat) (A4:Option Addr) (c4:Nat):List Value:=[.slice A1 x.stmts.length c1,.int .i64 x.term.kind,.slice A2 x.term.targets.length c2,.slice A3 x.term.args.length c3,.int .i64 x.term.place.loc,.slice A4 x.term.place.proj.length c4,.string x.term.name]
theorem iQ (b:Bdy) (bh:BH) (w:World) (H:BdAt w b bh) (hT:TabsOk w):
 Calls Tryz.prog 27 #[.agg (bdC b bh).toArray] w fun e' w'=>e' = .returned (.int .i64 (chkB b))/\Below w.heap.size w w':=by
 have HD:=aF (fun (W:World) (hb:Below w.heap.size w W)=>vQ b bh W (H.keep hb));have HN:=aF (fun (W:World) (hb:Below w.heap.size w W) (h:declC b=0)=>vE b bh W (H.keep hb) (eK h));have HH:=aF H;have HT:=aF hT;have hbl:=H.blk.le;have hbg:=H.blk.big;obtain ⟨R,hR⟩:∃R,chkB b=R:=⟨_,rfl⟩;rw [hR];have HR:Hid (R=if declC b=0 then bksE b b.blocks else declC b):=aF hR.symm;have HOK:=aF (fun h=>eK (b:=b) h);clear hR H hT;unfold bdC at *;by_cases hd:declC b=0
 case neg=>
  have HF:Hid (R=declC b):=aF (by rw [HR.out,aZ hd]);generalize declC b=de at HD HF hd;have e1:(de != 0)=true:=by simp [hd]
  clear HR HN HOK hd;go_enter Tryz.func27,Tryz.ntmps27
  go_wp2_with fail
  go_step3
  go_wp2_with (go_at_call 69;refine (HD.out _ ((aX _ _).alloc (aY _) _)).mono ?_;rintro e' w1 ⟨rfl,hb1⟩;have HB:=aF (((aX _ _).alloc (aY _) _).trans (hb1.mono ((aX _ _).alloc (aY _) _).size));have HY1:=aF (cK (cP w [Value.string b.name,.slice bh.A1 b.regions.length bh.c1,.slice bh.A2 b.outl.length bh.c2,.slice bh.A3 b.types.length bh.c3,.slice bh.A4 b.locals.length bh.c4,.int .i64 b.args,.slice bh.A5 b.blocks.length bh.c5] 28) hb1);obtain ⟨y0,y1,y2,y3,y4,y5,y6⟩:=aS HY1.out;clear hb1)
  rw [Exit.noGoto_ret];go_ret;exact ⟨by rw [HF.out];rfl,HB.out⟩
 case pos=>
 have HF:Hid (R=bksE b b.blocks):=aF (by rw [HR.out,bA hd]);rw [hd] at HD;have HDOK:=aF (HOK.out hd);clear HR HOK;unfold ckC at HN;go_enter Tryz.func27,Tryz.ntmps27
 go_wp2_with fail
 go_step3
 go_wp2_with (first | (go_at_call 69;refine (HD.out _ ((aX _ _).alloc (aY _) _)).mono ?_;rintro e' w1 ⟨rfl,hb1⟩;have HB:=aF (((aX _ _).alloc (aY _) _).trans (hb1.mono ((aX _ _).alloc (aY _) _).size));have HY1:=aF (cK (cP w [Value.string b.name,.slice bh.A1 b.regions.length bh.c1,.slice bh.A2 b.outl.length bh.c2,.slice bh.A3 b.types.length bh.c3,.slice bh.A4 b.locals.length bh.c4,.int .i64 b.args,.slice bh.A5 b.blocks.length bh.c5] 28) hb1);obtain ⟨y0,y1,y2,y3,y4,y5,y6⟩:=aS HY1.out;clear hb1) | (go_at_call 70;refine (HN.out _ HB.out hd).mono ?_;rintro e' w2 ⟨r,rfl,hck,hb2⟩;have HCK2:=aF hck;have HB2:=aF (HB.out.trans (hb2.mono HB.out.size));have HY2:=aF (cK HY1.out hb2);clear y0 y1 y2 y3 y4 y5 y6;obtain ⟨y0,y1,y2,y3,y4,y5,y6⟩:=aS HY2.out;have hsz2:w.heap.size<w2.heap.size:=bO (by have:=HB.out.size;have h9:=cD _ _ (HY1.out 0 _ rfl);exact h9) hb2.size;clear hck hb2))
 go_step3
 go_wp2_with fail
 have HSM:=aF (fun (W:World) (hb:Below w2.heap.size w2 W) (s:Stm) (A0 A B:Option Addr) (c0 c d:Nat) (hp0:Slc 2 RPj w2 A0 c0 s.place.proj) (hp:Slc 2 RPj w2 A c s.rv.place.proj) (hl:Slc 4 ROp w2 B d s.rv.args)=>uL (HCK2.out.keep hb) ((HT.out.keep HB2.out).keep hb) s A0 A B c0 c d (hp0.keep RPj.keeps hb) (hp.keep RPj.keeps hb) (hl.keep ROp.keeps hb));have HTM:=aF (fun (W:World) (hb:Below w2.heap.size w2 W) (t:Trm) (A B C:Option Addr) (c d f:Nat) (ht:Slc 1 RInt w2 A c t.targets) (hl:Slc 4 ROp w2 B d t.args) (hp:Slc 2 RPj w2 C f t.place.proj)=>uD (HCK2.out.keep hb) t A B C c d f (ht.keep RInt.keeps hb) (hl.keep ROp.keeps hb) (hp.keep RPj.keeps hb));have HBLK:=aF HCK2.out.at_.blk;have HCC:=aF (cP w2 (ckC b bh r) 122);unfold ckC at HSM HTM HCC;obtain ⟨bb,oo,hA5,hbb,hel⟩:=HBLK.out.sl HDOK.out.nblk.1;have HEL:=aF hel;clear hel;rw [hA5] at HSM HTM HCC ⊢;rw [hA5] at y6;clear y0 y1 y2 y3 y4 y5 y6 HD HN hd;go_loopg [3,19] b.blocks.length (fun gk e i wr=>∃k:Nat,gk=b.blocks.length - k/\k<=b.blocks.length/\e = .int .i64 0/\i = .int .i64 k/\Hid (aA (bdM b bh.A1 bh.c1 bh.A2 bh.c2 bh.A3 bh.c3 bh.A4 bh.c4 (some ⟨bb,oo,none⟩) bh.c5 [.pointer (some ⟨r,0,none⟩)]) wr w2.heap.size)/\Hid (Below w2.heap.size w2 wr)/\w2.heap.size+1<=wr.heap.size/\Hid (R=bksE b (b.blocks.drop k)))
 case atStart=>exact ⟨0,by omega,by omega,rfl,rfl,HCC,aF ((aX _ _).alloc (aY _) _),by simp,HF⟩
 case round=>
  clear HCC HF;obtain ⟨k,hgk,hk,rfl,rfl,HCC,HB3,hsz3,hr⟩:=hrel;have hlw3:w2.heap.size<wr.heap.size:=hsz3;by_cases hlt:k<b.blocks.length
  ·have hd:=cS hlt;have hx:=HEL.out k _ (bD hlt);obtain ⟨x,hxx⟩:∃x,b.blocks[k]=x:=⟨_,rfl⟩;rw [hxx] at hd hx;obtain ⟨A1,c1,A2,c2,A3,c3,A4,c4,p0,p1,p2,p3,p4,p5,p6,hs1,hs2,hs3,hs4⟩:=nI hx;have HQ:Hid (R=if bkE b x=0 then bksE b (b.blocks.drop (k+1)) else bkE b x):=aF (by rw [hr.out,hd,bksE]);have HS1:=aF hs1;have hl1:=hs1.le;have hg1:=hs1.big;have HTT:=aF (fun W hb=>HTM.out W hb x.term A2 A3 A4 c2 c3 c4 hs2 hs3 hs4);unfold tmC at HTT;replace p0:=cJ HB3.out p0;replace p1:=cJ HB3.out p1;replace p2:=cJ HB3.out p2;replace p3:=cJ HB3.out p3;replace p4:=cJ HB3.out p4;replace p5:=cJ HB3.out p5;replace p6:=cJ HB3.out p6;clear hd hx hxx hr hs1 hs2 hs3 hs4;by_cases hln:65535<x.stmts.length
   ·have HF:Hid (R=15):=aF (by rw [HQ.out];unfold bkE;rw [bA hln];rfl);clear HQ;go_wp2_with fail
    rw [Exit.noGoto_ret];go_ret;exact ⟨by rw [HF.out];rfl,(HB2.out.trans (HB3.out.mono HB2.out.size)).alloc (bZ HB2.out.size HB3.out.size) _⟩
   have HQ2:Hid (R=if stsE b (x.stmts.drop 0)=0 then (if tmE b x.term=0 then bksE b (b.blocks.drop (k+1)) else tmE b x.term) else stsE b (x.stmts.drop 0)):=aF (by
    rw [HQ.out,bX];unfold bkE;rw [aZ hln]
    by_cases h:stsE b x.stmts=0 <;> simp [h])
   have HBK:=aF (cP wr (bkL x A1 c1 A2 c2 A3 c3 A4 c4) 64);have HCC2:Hid (∀i v,[Value.string b.name,.slice bh.A1 b.regions.length bh.c1,.slice bh.A2 b.outl.length bh.c2,.slice bh.A3 b.types.length bh.c3,.slice bh.A4 b.locals.length bh.c4,.int .i64 b.args,.slice (some ⟨bb,oo,none⟩) b.blocks.length bh.c5,.pointer (some ⟨r,0,none⟩)][i]?=some v->(wr.alloc (.cells (bkL x A1 c1 A2 c2 A3 c3 A4 c4).toArray 64)).cell? ⟨w2.heap.size,i,none⟩=some v):=aF (fun i v hi=>cJ ((aX _ _).alloc (aY _) _) (HCC.out i v hi));have HB4:=aF (HB3.out.alloc (Nat.le_of_lt hlw3) (.cells (bkL x A1 c1 A2 c2 A3 c3 A4 c4).toArray 64));clear HQ;go_wp2_with fail
   go_loopg [3,30] x.stmts.length (fun gj e i wr2=>∃j:Nat,gj=x.stmts.length - j/\j<=x.stmts.length/\e = .int .i64 0/\i = .int .i64 j/\Hid (aA (bdM b bh.A1 bh.c1 bh.A2 bh.c2 bh.A3 bh.c3 bh.A4 bh.c4 (some ⟨bb,oo,none⟩) bh.c5 [.pointer (some ⟨r,0,none⟩)]) wr2 w2.heap.size)/\Hid (aA (bkL x A1 c1 A2 c2 A3 c3 A4 c4) wr2 wr.heap.size)/\Hid (Below w2.heap.size w2 wr2)/\wr.heap.size+1<=wr2.heap.size/\Hid (R=if stsE b (x.stmts.drop j)=0 then (if tmE b x.term=0 then bksE b (b.blocks.drop (k+1)) else tmE b x.term) else stsE b (x.stmts.drop j)))
   case atStart=>exact ⟨0,by omega,by omega,rfl,rfl,HCC2,HBK,HB4,by simp,HQ2⟩
   case round=>
    clear HCC2 HBK HB4 HQ2 p0 p1 p2 p3 p4 p5 p6 HCC HB3;obtain ⟨j,hgj,hj,rfl,rfl,HCC,HBK,HB5,hsz5,hr⟩:=hrel;have hlw5:=Nat.lt_of_succ_le hsz5;have hlw6:=Nat.lt_trans hlw3 hlw5;obtain ⟨v0,v1,v2,v3,v4,v5,v6,v7⟩:=aT HCC.out;by_cases hjl:j<x.stmts.length
    ·have hd:=cS hjl;obtain ⟨b3,o3,rfl,hb3,hy⟩:=HS1.out.sl.at_ hjl;obtain ⟨s,hss⟩:∃s,x.stmts[j]=s:=⟨_,rfl⟩;rw [hss] at hd hy;obtain ⟨B0,d0,B1,d1,B2,d2,m0,m1,m2,m3,m4,m5,m6,m7,m8,m9,m10,hp0,hp,hl⟩:=qY hy;have HSS:=aF (fun W hb=>HSM.out W hb s B0 B1 B2 d0 d1 d2 hp0 hp hl);unfold stC at HSS;replace m0:=cJ HB5.out m0;replace m1:=cJ HB5.out m1;replace m2:=cJ HB5.out m2;replace m3:=cJ HB5.out m3;replace m4:=cJ HB5.out m4;replace m5:=cJ HB5.out m5;replace m6:=cJ HB5.out m6;replace m7:=cJ HB5.out m7;replace m8:=cJ HB5.out m8;replace m9:=cJ HB5.out m9;replace m10:=cJ HB5.out m10
     have HQ3:Hid ((stE b s=0->R=if stsE b (x.stmts.drop (j+1))=0 then (if tmE b x.term=0 then bksE b (b.blocks.drop (k+1)) else tmE b x.term) else stsE b (x.stmts.drop (j+1)))/\(stE b s≠0->R=stE b s)):=aF (by
      rw [hr.out,hd];constructor
      ·intro h;rw [show stsE b (s :: x.stmts.drop (j+1))=stsE b (x.stmts.drop (j+1)) from by rw [stsE,bA h]]
      ·intro h;rw [show stsE b (s :: x.stmts.drop (j+1))=stE b s from by rw [stsE,aZ h],aZ h])
     have HB6:=aF (HB5.out.alloc (Nat.le_of_lt hlw6) (.cells (stC s B0 d0 B1 d1 B2 d2).toArray 87));generalize stE b s=es at HSS HQ3;clear hd hy hss hp0 hp hl hr;by_cases he:es=0
     ·subst he;have HF:=aF (HQ3.out.1 rfl);clear HQ3;go_wp2_with (go_at_call 71;refine (HSS.out _ HB6.out).mono ?_;rintro e' w5 ⟨rfl,hb5⟩;have HB7:=aF (HB6.out.trans (hb5.mono HB6.out.size));have HC7:=aF (dR HCC.out hb5);have HK7:=aF (dR HBK.out hb5);have hsz7:=hb5.size;simp only [bI] at hsz7;clear hb5)
      go_roundg (x.stmts.length - (j+1))
      case measure=>omega
      case rel=>exact ⟨j+1,rfl,by omega,rfl,by go_num,HC7,HK7,HB7,by omega,HF⟩
     ·have HF:=aF (HQ3.out.2 he);have e1:(es != 0)=true:=by simp [he]
      clear HQ3 he;go_wp2_with (go_at_call 71;refine (HSS.out _ HB6.out).mono ?_;rintro e' w5 ⟨rfl,hb5⟩;have HB7:=aF (HB6.out.trans (hb5.mono HB6.out.size));clear hb5)
      rw [Exit.noGoto_ret];go_ret;exact ⟨by rw [HF.out];rfl,HB2.out.trans (HB7.out.mono HB2.out.size)⟩
    ·have HQ3:Hid (R=if tmE b x.term=0 then bksE b (b.blocks.drop (k+1)) else tmE b x.term):=aF (by rw [hr.out,bE (by omega:x.stmts.length<=j)];rfl);obtain ⟨k0,k1,k2,k3,k4,k5,k6⟩:=aS HBK.out;generalize tmE b x.term=et at HTT HQ3;clear hr;by_cases he:et=0
     ·subst he;have HF:Hid (R=bksE b (b.blocks.drop (k+1))):=aF (by rw [HQ3.out];rfl);clear HQ3;go_wp2_with (go_at_call 72;refine (HTT.out _ HB5.out).mono ?_;rintro e' w5 ⟨rfl,hb5⟩;have HB7:=aF (HB5.out.trans (hb5.mono HB5.out.size));have HC7:=aF (cK HCC.out hb5);have hsz7:=hb5.size;clear hb5)
      go_roundg (b.blocks.length - (k+1))
      case measure=>omega
      case rel=>exact ⟨k+1,rfl,by omega,rfl,by go_num,HC7,HB7,by omega,HF⟩
     ·have HF:Hid (R=et):=aF (by rw [HQ3.out,aZ he]);have e1:(et == 0)=false:=by simp [he]
      clear HQ3 he;go_wp2_with (go_at_call 72;refine (HTT.out _ HB5.out).mono ?_;rintro e' w5 ⟨rfl,hb5⟩;have HB7:=aF (HB5.out.trans (hb5.mono HB5.out.size));clear hb5)
      rw [Exit.noGoto_ret];go_ret;exact ⟨by rw [HF.out];rfl,HB2.out.trans (HB7.out.mono HB2.out.size)⟩
  ·have HF:Hid (R=0):=aF (by rw [hr.out,bE (by omega:b.blocks.length<=k)];rfl);clear hr;go_wp2_with fail
   rw [Exit.noGoto_ret];go_ret;exact ⟨by rw [HF.out];rfl,HB2.out.trans (HB3.out.mono HB2.out.size)⟩
end
section
open Go Go.RowKit
def cntP:List Blk->Nat
 | []=>0
 | x :: xs=>(x.stmts.length+1)+cntP xs
theorem tF (l:List Blk) (x:Blk):cntP (l ++ [x])=cntP l+(x.stmts.length+1):=by
 induction l with
 | nil=>simp [cntP]
 | cons y l ih=>simp only [List.cons_append,cntP,ih];omega
theorem tE {l:List Blk} {k:Nat} (h:k<l.length):cntP (l.take (k+1))=cntP (l.take k)+(l[k].stmts.length+1):=by
 rw [bF h,tF]
theorem yQ {l:List Blk} {m:Nat} (h:∀x∈l,x.stmts.length<=m):cntP l<=(m+1) * l.length:=by
 induction l with
 | nil=>simp [cntP]
 | cons y l ih=>
   have h1:=h y (by simp);have h2:=ih (fun x hx=>h x (by simp [hx]));simp only [cntP,bK,Nat.mul_add];omega
theorem lY {l:List Blk} (k:Nat):cntP (l.take k)<=cntP l:=by
 induction l generalizing k with
 | nil=>simp [cntP]
 | cons y l ih=>
   cases k with
   | zero=>simp [cntP]
   | succ k=>simp only [List.take_succ_cons,cntP];have:=ih k;omega
def stL (l:List Blk) (k:Nat):List Int:=(List.range (k+1)).map (fun i=>((cntP (l.take i):Nat):Int))
theorem uM (l:List Blk):stL l 0=[0]:=by simp [stL,cntP]
theorem qZ (l:List Blk) (k:Nat):(stL l k).length=k+1:=by simp [stL]
theorem wK (l:List Blk) {k i:Nat} (h:i<=k):(stL l k)[i]?=some ((cntP (l.take i):Nat):Int):=by
 simp [stL,show i<k+1 by omega]
theorem uN (l:List Blk) (k:Nat):stL l (k+1)=stL l k ++ [((cntP (l.take (k+1)):Nat):Int)]:=by
 unfold stL;rw [List.range_succ,bU];rfl
theorem xU (w:World) (x:Value) (e:TypeId) (base:Nat) (hb:base<=w.heap.size):(w.alloc (.cells #[x] e)).ownsRow base e 1 (.slice (some ⟨w.heap.size,0,none⟩) 1 1) 1 [x]:=
 ⟨rfl,.inr ⟨w.heap.size,1,#[x],rfl,hb,heap_alloc_new w _,aY _,by decide,rfl,rfl⟩⟩
theorem pC (b:Bdy) (bh:BH) (w:World) (H:BdAt w b bh) (hz:cntP b.blocks<=4611686018427387904) (hl:b.blocks.length<=1000000):
 Calls Tryz.prog 90 #[.agg (bdC b bh).toArray] w fun e' w'=>(∃A c,e' = .returned (.slice A (b.blocks.length+1) c)/\Slc 1 RInt w' A c (stL b.blocks b.blocks.length))/\Below w.heap.size w w':=by
 obtain ⟨A1,c1,A2,c2,A3,c3,A4,c4,A5,c5⟩:=bh;have hbl:=H.blk.le;have hbg:=H.blk.big;have HBK:=aF H.blk;have HZ:=aF hz;simp only at hbl hbg HBK;obtain ⟨i0,hi,hz0,hz1,hz2⟩:=info_parts eF;have HCW:=aF (cP w [Value.string b.name,.slice A1 b.regions.length c1,.slice A2 b.outl.length c2,.slice A3 b.types.length c3,.slice A4 b.locals.length c4,.int .i64 b.args,.slice A5 b.blocks.length c5] 28);have HBW:=aF ((aX w.heap.size w).alloc (aY _) (.cells ([Value.string b.name,.slice A1 b.regions.length c1,.slice A2 b.outl.length c2,.slice A3 b.types.length c3,.slice A4 b.locals.length c4,.int .i64 b.args,.slice A5 b.blocks.length c5]).toArray 28));have y6:(w.alloc (.cells ([Value.string b.name,.slice A1 b.regions.length c1,.slice A2 b.outl.length c2,.slice A3 b.types.length c3,.slice A4 b.locals.length c4,.int .i64 b.args,.slice A5 b.blocks.length c5]).toArray 28)).cell? ⟨w.heap.size,6,none⟩=some (.slice A5 b.blocks.length c5):=HCW.out 6 _ rfl;clear H HCW hz;unfold bdC;simp only;go_enter Tryz.func90,Tryz.ntmps90
 go_wp2_with fail
 have hz0':w.heap.size+1<=((w.alloc (.cells ([Value.string b.name,.slice A1 b.regions.length c1,.slice A2 b.outl.length c2,.slice A3 b.types.length c3,.slice A4 b.locals.length c4,.int .i64 b.args,.slice A5 b.blocks.length c5]).toArray 28)).alloc (.cells #[.int .i64 0] 3)).heap.size:=by simp
 have HO0:Hid (((w.alloc (.cells ([Value.string b.name,.slice A1 b.regions.length c1,.slice A2 b.outl.length c2,.slice A3 b.types.length c3,.slice A4 b.locals.length c4,.int .i64 b.args,.slice A5 b.blocks.length c5]).toArray 28)).alloc (.cells #[.int .i64 0] 3)).ownsRow (w.heap.size+1) 3 1 (.slice (some ⟨w.heap.size+1,0,none⟩) 1 1) 1 ((stL b.blocks 0).map (Value.int .i64))):=aF (by
  rw [uM];have h:=xU (w.alloc (.cells ([Value.string b.name,.slice A1 b.regions.length c1,.slice A2 b.outl.length c2,.slice A3 b.types.length c3,.slice A4 b.locals.length c4,.int .i64 b.args,.slice A5 b.blocks.length c5]).toArray 28)) (.int .i64 0) 3 (w.heap.size+1) (by simp)
  rwa [bI] at h)
 have HB1:Hid (Below w.heap.size w ((w.alloc (.cells ([Value.string b.name,.slice A1 b.regions.length c1,.slice A2 b.outl.length c2,.slice A3 b.types.length c3,.slice A4 b.locals.length c4,.int .i64 b.args,.slice A5 b.blocks.length c5]).toArray 28)).alloc (.cells #[.int .i64 0] 3))):=aF (HBW.out.alloc (by simp) _);go_loopw [3,10] (fun v i wr=>∃k:Nat,k<=b.blocks.length/\i = .int .i64 k/\Hid (wr.ownsRow (w.heap.size+1) 3 1 v (k+1) ((stL b.blocks k).map (Value.int .i64)))/\Hid (Below w.heap.size w wr)) (fun _ i _=>b.blocks.length - (intOf i).toNat)
 case atStart=>exact ⟨0,by omega,rfl,HO0,HB1⟩
 case round=>
  clear HO0 HB1 hz0';obtain ⟨k,hk,rfl,HO,HB⟩:=hrel;obtain ⟨g,cap,rfl⟩:=ownsRow_succ HO.out;have hsz:=HB.out.size;have hgl:=(HO.out.lt g rfl);by_cases hlt:k<b.blocks.length
  case neg=>
   obtain rfl:k=b.blocks.length:=by omega
   have HSL:=xG (R:=RInt) (enc:=Value.int .i64) (fun w B b o x h=>h) HO.out (qZ _ _);have HS:=aF HSL;clear HSL hgl;go_wp2_with fail
   go_ret;obtain ⟨A,c,e,hs,-⟩:=HS.out;exact ⟨⟨A,c,by rw [e];rfl,hs⟩,HB.out⟩
  case pos=>
  obtain ⟨bb,oo,rfl,hbb,y⟩:=HBK.out.sl.at_ hlt;obtain ⟨S1,d1,S2,d2,S3,d3,S4,d4,h0,h1,h2,h3,h4,h5,h6,q1,q2,q3,q4⟩:=nI y;have g0:=(HB.out.cell (p:=⟨bb,oo+k * 7,none⟩) hbb).trans h0;have g1:=(HB.out.cell (p:=⟨bb,oo+k * 7+1,none⟩) hbb).trans h1;have g2:=(HB.out.cell (p:=⟨bb,oo+k * 7+2,none⟩) hbb).trans h2;have g3:=(HB.out.cell (p:=⟨bb,oo+k * 7+3,none⟩) hbb).trans h3;have g4:=(HB.out.cell (p:=⟨bb,oo+k * 7+4,none⟩) hbb).trans h4;have g5:=(HB.out.cell (p:=⟨bb,oo+k * 7+5,none⟩) hbb).trans h5;have g6:=(HB.out.cell (p:=⟨bb,oo+k * 7+6,none⟩) hbb).trans h6;have HT:=aF (tE hlt);have hle2:=lY (l:=b.blocks) (k+1);have hZ2:cntP (b.blocks.take (k+1))<=4611686018427387904:=bZ hle2 HZ.out;have HSU:=aF (uN b.blocks k);have hcell:=HO.out.cells (g:=g) rfl k (.int .i64 (cntP (b.blocks.take k))) (by rw [cI,wK _ (aY k)];rfl);rw [add0] at hcell;generalize b.blocks[k]=x at *;obtain ⟨xs,tk,tg,ar,⟨tl,tp⟩,tn⟩:=x;simp only at g0 g1 g2 g3 g4 g5 g6 HT;clear h0 h1 h2 h3 h4 h5 h6 q1 q2 q3 q4 y hle2;rw [HT.out] at hZ2 HSU;obtain ⟨m,hm⟩:∃m,xs.length=m:=⟨_,rfl⟩;obtain ⟨c,hc⟩:∃c,cntP (b.blocks.take k)=c:=⟨_,rfl⟩;rw [hm] at HSU hZ2 g0;rw [hc] at HSU hZ2 hcell;have hw1:IntKind.i64.wrap ((c:Int)+(m:Int))=((c+m:Nat):Int):=by rw [IntKind.wrap_i64];omega
  have hw2:IntKind.i64.wrap (((c+m:Nat):Int)+1)=((c+(m+1):Nat):Int):=by rw [IntKind.wrap_i64];omega
  clear hm hc HT;go_wp2_with fail
  obtain ⟨W1,hW1⟩:∃W,wr.alloc (.cells #[.slice S1 m d1,.int .i64 tk,.slice S2 tg.length d2,.slice S3 ar.length d3,.int .i64 tl,.slice S4 tp.length d4,.string tn] 64)=W:=⟨_,rfl⟩;have hbW:Below wr.heap.size wr W1:=by rw [<- hW1];exact (aX _ _).alloc (aY _) _
  have hnew:=cP wr [.slice S1 m d1,.int .i64 tk,.slice S2 tg.length d2,.slice S3 ar.length d3,.int .i64 tl,.slice S4 tp.length d4,.string tn] 64 0 _ rfl;simp only [hW1] at hnew;have HO1:Hid (W1.ownsRow (w.heap.size+1) 3 1 (.slice (some ⟨g,0,none⟩) (k+1) cap) (k+1) ((stL b.blocks k).map (Value.int .i64))):=aF (dB HO.out hbW);have HBB:=aF (HB.out.trans (hbW.mono hsz));try rw [hW1]
  have hkk:(k:Int)<(k:Int)+1:=by omega
  have hS:W1.drew.cell? ⟨g,k,none⟩=some (.int .i64 c)/\W1.drew.cell? ⟨wr.heap.size,0,none⟩=some (.slice S1 m d1):=⟨cJ hbW.drew hcell,hnew⟩;refine dH (S:=fun X=>X.cell? ⟨g,k,none⟩=some (.int .i64 c)/\X.cell? ⟨wr.heap.size,0,none⟩=some (.slice S1 m d1)) 11 [0,1,2,3,4,5,6,7,8,9,10,11,12] (by kernel_rfl) ?_;(iterate 8 (refine dS (v:=?_) (by kernel_rfl) (fun _ _ _ h=>h) (Or.inl ⟨by rfl,?_⟩) hS ?_;rotate_left;(next=>(rintro X ⟨s1,s2⟩;(try simp only [aI]);go_simp;rfl));simp only [aM]));refine dS (v:= .int .i64 ((c+m:Nat):Int)) (by kernel_rfl) (fun _ _ _ h=>h) (Or.inl ⟨by rfl,?_⟩) hS ?_
  ·rintro X -
   (try simp only [aI]);go_simp
  (simp only [aM]);refine dS (v:= .int .i64 ((c+(m+1):Nat):Int)) (by kernel_rfl) (fun _ _ _ h=>h) (Or.inl ⟨by rfl,?_⟩) hS ?_
  ·rintro X -
   (try simp only [aI]);go_simp;first | rfl | (rw [IntKind.wrap_i64];omega)
  (simp only [aM]);(refine cM (fun K1 hK1=>?_);simp only [aM];rw [bA (by rfl)];go_simp);have hbn:Below W1.heap.size W1 (W1.alloc (.cells #[.int .i64 (((c+(m+1):Nat):Int))] 3)):=(aX _ _).alloc (aY _) _;have hnx:=rD W1 [.int .i64 (((c+(m+1):Nat):Int))] 3;have hO2:=dB HO1.out hbn.drew;obtain ⟨W2,hW2⟩:∃W,(W1.alloc (.cells #[.int .i64 (((c+(m+1):Nat):Int))] 3)).drew=W:=⟨_,rfl⟩;push_cast at hW2
  try rw [hW2]
  have hbn2:Below W1.heap.size W1 W2:=by rw [<- hW2];exact hbn.drew
  have hO3:W2.ownsRow (w.heap.size+1) 3 1 (.slice (some ⟨g,0,none⟩) (k+1) cap) (k+1) ((stL b.blocks k).map (Value.int .i64)):=dB HO1.out hbn2
  have hnx2:∀j u,[Value.int .i64 ((c+(m+1):Nat):Int)][j]?=some u->W2.cell? ((⟨W1.heap.size,0,none⟩:Addr).add j)=some u:=fun j u hj=>by
   rw [add0,<- hW2];exact hnx j u hj
  have hS2:W2.cell? ⟨g,k,none⟩=some (.int .i64 c)/\W2.cell? ⟨wr.heap.size,0,none⟩=some (.slice S1 m d1):=⟨cJ hbn2 hS.1,cJ hbn2 hS.2⟩;have hB2:Below w.heap.size w W2:=HBB.out.trans (hbn2.mono HBB.out.size);have hsz2:=hB2.size;have hw1s:W1.heap.size<W2.heap.size:=by rw [<- hW2];simp
  refine hK1.out _ _ (fun _=>hS2) ?_;clear hK1;(refine cM (fun K1 hK1=>?_);simp only [aM];rw [bA (by rfl)]);refine fD (.tmp 15) (.tmp 25) 58 rfl (w.heap.size+1) 3 i0 (.int .i64 0) 1 8 Tryz.underlying58 hi hz0 hz1 hz2 rfl (by decide) (.slice (some ⟨g,0,none⟩) (k+1) cap) (k+1) _ rfl hO3 ⟨W1.heap.size,0,none⟩ 1 1 [.int .i64 ((c+(m+1):Nat):Int)] rfl rfl hnx2 (fun u hu=>by simp at hu;subst hu;rfl) (by unfold maxLen;omega) (by omega) (by have:=HBB.out.size;have:=hbW.size;omega) ?_;intro v' w5 hown' hgrow _;obtain ⟨B5,d5,hv⟩:=mX hown';subst hv;have HO5:Hid (w5.ownsRow (w.heap.size+1) 3 1 (.slice B5 (k+1+1) d5) (k+1+1) ((stL b.blocks (k+1)).map (Value.int .i64))):=aF (by rw [HSU.out,bU];exact hown');have HB5:=aF (hB2.grown hgrow (by omega) (fun q hq=>by have:=(hO3.lt q hq).1;omega));refine hK1.out _ _ (fun h=>absurd h (by decide)) ?_;clear hK1 hown' hgrow hO3 hnx2 hS2 hS hW2 hbn hbn2 hB2 hnx hO2;(refine cM (fun K1 hK1=>?_);simp only [aM];rw [bA (by rfl)];go_simp);refine hK1.out _ _ (fun h=>absurd h (by decide)) ?_;refine cV ?_;go_wp2_with fail
  go_roundw
  case rel=>exact ⟨k+1,by omega,by go_num,HO5,HB5⟩
  case measure=>simp [intOf];omega
theorem pL (b:Bdy) (bh:BH) (w:World) (H:BdAt w b bh) (hz:cntP b.blocks<=4611686018427387904) (hl:b.blocks.length<=1000000):
 Calls Tryz.prog 44 #[.agg (bdC b bh).toArray] w fun e' w'=>e' = .returned (.int .i64 (cntP b.blocks))/\Below w.heap.size w w':=by
 obtain ⟨A1,c1,A2,c2,A3,c3,A4,c4,A5,c5⟩:=bh;have hbl:=H.blk.le;have hbg:=H.blk.big;simp only at hbl hbg;have HBW:=aF ((aX w.heap.size w).alloc (aY _) (.cells ([Value.string b.name,.slice A1 b.regions.length c1,.slice A2 b.outl.length c2,.slice A3 b.types.length c3,.slice A4 b.locals.length c4,.int .i64 b.args,.slice A5 b.blocks.length c5]).toArray 28))
 have HF:Hid (Calls Tryz.prog 90 #[.agg ([Value.string b.name,.slice A1 b.regions.length c1,.slice A2 b.outl.length c2,.slice A3 b.types.length c3,.slice A4 b.locals.length c4,.int .i64 b.args,.slice A5 b.blocks.length c5]).toArray] (w.alloc (.cells ([Value.string b.name,.slice A1 b.regions.length c1,.slice A2 b.outl.length c2,.slice A3 b.types.length c3,.slice A4 b.locals.length c4,.int .i64 b.args,.slice A5 b.blocks.length c5]).toArray 28)) fun e' w'=>∃g o c,e' = .returned (.slice (some ⟨g,o,none⟩) (b.blocks.length+1) c)/\w'.cell? ⟨g,o+b.blocks.length,none⟩=some (.int .i64 (cntP b.blocks))/\Below (w.alloc (.cells ([Value.string b.name,.slice A1 b.regions.length c1,.slice A2 b.outl.length c2,.slice A3 b.types.length c3,.slice A4 b.locals.length c4,.int .i64 b.args,.slice A5 b.blocks.length c5]).toArray 28)).heap.size (w.alloc (.cells ([Value.string b.name,.slice A1 b.regions.length c1,.slice A2 b.outl.length c2,.slice A3 b.types.length c3,.slice A4 b.locals.length c4,.int .i64 b.args,.slice A5 b.blocks.length c5]).toArray 28)) w'):=
  aF ((pC b ⟨A1,c1,A2,c2,A3,c3,A4,c4,A5,c5⟩ _ (H.keep HBW.out) hz hl).mono (by
   rintro e' w1 ⟨⟨A,c,rfl,hs⟩,hb⟩;obtain ⟨gb,go,rfl,hgb,hx⟩:=hs.sl.at_ (i:=b.blocks.length) (by rw [qZ];omega);refine ⟨gb,go,c,rfl,?_,hb⟩;have h:=hx;unfold RInt at h;rw [Nat.mul_one] at h;obtain ⟨_,e⟩:=List.getElem_of_getElem? (wK b.blocks (aY b.blocks.length))
   rw [h,e,cA]))
 have hwl:IntKind.i64.wrap ((b.blocks.length:Int)+1 - 1)=(b.blocks.length:Int):=by rw [IntKind.wrap_i64];omega
 have hll:(b.blocks.length:Int)<(b.blocks.length:Int)+1:=by omega
 clear H;unfold bdC;simp only;go_enter Tryz.func44,Tryz.ntmps44
 go_wp2_with (go_at_call 90;refine HF.out.mono ?_;rintro e' w1 ⟨g,o,c,rfl,x0,hb⟩)
 go_ret;exact ⟨rfl,HBW.out.trans (hb.mono HBW.out.size)⟩
def mutP (m:Bool):List UInt8:=if m then [109,117,116,32] else []
def lnP (ls:List Lc) (rs:List ByteArray) (l:Ln):List UInt8:=[108,111,97,110,32,39] ++ rgP rs l.reg ++ [32] ++ mutP l.mu ++ placeP ls l.place ++ [32,97,116,32] ++ Lib.itoa l.pt
def oH (ls:List Lc) (rs:List ByteArray) (l:Ln):List UInt8:=[32,32] ++ lnP ls rs l ++ semP
def prP (wd:List UInt8) (x:Int × Int):List UInt8:=wd ++ [32] ++ Lib.itoa x.1 ++ [32] ++ Lib.itoa x.2
def prLine (wd:List UInt8) (x:Int × Int):List UInt8:=[32,32] ++ prP wd x ++ semP
def lvP (rs:List ByteArray) (x:Int × Int):List UInt8:=[108,105,118,101,32,39] ++ rgP rs x.1 ++ [32] ++ Lib.itoa x.2
def oE (rs:List ByteArray) (x:Int × Int):List UInt8:=[32,32] ++ lvP rs x ++ semP
def wEdge:List UInt8:=[101,100,103,101]
def wKill:List UInt8:=[107,105,108,108,101,100]
def wInv:List UInt8:=[105,110,118,97,108,105,100]
def wFacts:List UInt8:=[102,97,99,116,115]
def printF (b:Bdy) (f:Fct):List UInt8:=
 headP wFacts b ++ (f.loans.flatMap (oH b.locals b.regions) ++ (f.edges.flatMap (prLine wEdge) ++ (f.killed.flatMap (prLine wKill) ++ (f.inval.flatMap (prLine wInv) ++ (f.live.flatMap (oE b.regions) ++ [125,10])))))
def canP (nl:Nat) (l:Ln):Prop:=l.place.loc<nl/\∀x∈l.place.proj,x.field<65535
instance (nl:Nat) (l:Ln):Decidable (canP nl l):=by unfold canP;exact inferInstance
def okF (b:Bdy) (f:Fct):Prop:=chkB b=0/\fctE f (cntP b.blocks) b.regions.length=0/\∀l∈f.loans,canP b.locals.length l
instance (b:Bdy) (f:Fct):Decidable (okF b f):=by unfold okF;exact inferInstance
def pfR (b:Bdy) (f:Fct):List UInt8 × Int:=if okF b f then (printF b f,0) else ([],16)
end
section
open Go Go.RowKit Go.Shelf
theorem yZ {prev:List Ty} {d:List Int} {n:Int} {t:Ty} (h:(tyE prev d n t).1=0):∃K,depF d 0 (refsD t)=some K/\K<32/\(t.kind=3->t.flds=[]):=by
 have h1:¬(t.kind<0\/4<t.kind):=fun hc=>by unfold tyE at h;rw [bA hc] at h;cases h
 rw [tX h1] at h;by_cases c2:(t.kind≠3/\(t.mu=true\/t.reg≠0\/t.elem≠0))\/(t.kind≠4/\0<t.flds.length)
 ·rw [bA c2] at h;cases h
 rw [aZ c2] at h;by_cases c3:t.kind=3/\(t.reg<0\/n<=t.reg)
 ·rw [bA c3] at h;cases h
 rw [aZ c3] at h;unfold restE at h;cases hd:depF d 0 (refsD t) with
 | none=>rw [hd] at h;cases h
 | some K=>
   rw [hd] at h;simp only at h;by_cases c4:t.kind=4/\(t.flds.length=0\/65535<t.flds.length)
   ·rw [bA c4] at h;cases h
   rw [aZ c4] at h;by_cases c5:32<=K
   ·rw [bA c5] at h;cases h
   ·refine ⟨K,rfl,by omega,fun hk=>?_⟩;rcases Nat.eq_zero_or_pos t.flds.length with h0 | h0
    ·exact List.length_eq_zero_iff.1 h0
    ·exact absurd (Or.inr ⟨by omega,h0⟩) c2
structure DepOk (ts:List Ty) (i:Nat):Prop where
 ok:OkD ts i
 le:∀y∈depsN [] (ts.take i),0<=y/\y<=1000
theorem DepOk.zero (ts:List Ty):DepOk ts 0:=⟨fun i _ h=>absurd h (by omega),fun y h=>by simp [depsN] at h⟩
theorem DepOk.next {ts:List Ty} {i:Nat} {n:Int} (h:DepOk ts i) (hi:i<ts.length) (ht:(tyE (ts.take i) (depsN [] (ts.take i)) n ts[i]).1=0):DepOk ts (i+1):=by
 obtain ⟨K,hK,hK1,hK2⟩:=yZ ht;refine ⟨fun j hj hlt=>?_,fun y hy=>?_⟩
 ·by_cases hji:j=i
  ·subst hji;exact ⟨K,hK,by omega,hK2⟩
  ·exact h.ok j hj (by omega)
 ·rw [bF hi,jC] at hy;rcases List.mem_append.1 hy with e | e
  ·exact h.le y e
  ·rw [bS] at e
   have:depK (depsN [] (ts.take i)) ts[i]=K:=by
    unfold depK;unfold refsD at hK;rw [hK];rfl
   have h0:=yO (depsN [] (ts.take i)) ts[i];omega
end
section
open Go Go.RowKit
structure NmOk (b:Bdy):Prop where
 name:b.name.size<=9223372036854775807
 regs:∀s∈b.regions,s.size<=9223372036854775807
 locs:∀x∈b.locals,x.name.size<=9223372036854775807
 blks:∀x∈b.blocks,x.term.name.size<=9223372036854775807
structure ShortB (b:Bdy):Prop where
 outl:b.outl.length<=65535
 regs:b.regions.length<=65535
 typs:b.types.length<=65535
 locs:b.locals.length<=65535
 blks:∀x∈b.blocks,x.stmts.length<=65535/\x.term.targets.length<=2/\x.term.place.proj.length<=32/\∀s∈x.stmts,s.place.proj.length<=32/\s.rv.place.proj.length<=32
def tyZ (l:List Ty):Nat:=(l.map (fun t=>1+min t.flds.length 9000)).sum
def z1 (b:Bdy) (k:Nat):Nat:=szN b.name+b.outl.length+sumN (b.regions.take k)
def z2 (b:Bdy) (k:Nat):Nat:=z1 b b.regions.length+tyZ (b.types.take k)
def z3 (b:Bdy) (k:Nat):Nat:=z2 b b.types.length+sumN ((b.locals.take k).map (·.name))
def z4 (b:Bdy) (k:Nat):Nat:=z3 b b.locals.length+sumN ((b.blocks.take k).map (·.term.name))
theorem jX {b:Bdy} (h:chkB b=0):declC b=0:=by
 unfold chkB at h;by_cases h0:declC b=0
 ·exact h0
 ·rw [aZ h0] at h;exact absurd h h0
theorem tK {b:Bdy}:∀{l:List Blk},bksE b l=0->∀x∈l,bkE b x=0
 | [],_=>by simp
 | y :: r,h=>by
   rw [bksE] at h;by_cases he:bkE b y=0
   ·rw [bA he] at h;intro x hx;rcases List.mem_cons.1 hx with rfl | hx
    ·exact he
    ·exact tK h x hx
   ·rw [aZ he] at h;exact absurd h he
theorem qW {b:Bdy}:∀{l:List Stm},stsE b l=0->∀x∈l,stE b x=0
 | [],_=>by simp
 | y :: r,h=>by
   rw [stsE] at h;by_cases he:stE b y=0
   ·rw [bA he] at h;intro x hx;rcases List.mem_cons.1 hx with rfl | hx
    ·exact he
    ·exact qW h x hx
   ·rw [aZ he] at h;exact absurd h he
theorem wC {b:Bdy} {x:Blk} (h:bkE b x=0):x.stmts.length<=65535/\stsE b x.stmts=0/\tmE b x.term=0:=by
 unfold bkE at h;by_cases h1:65535<x.stmts.length
 ·rw [bA h1] at h;cases h
 rw [aZ h1] at h;by_cases h2:stsE b x.stmts=0
 ·rw [aZ (by simp [h2])] at h;exact ⟨by omega,h2,h⟩
 ·rw [bA h2] at h;exact absurd h h2
theorem jJ {b:Bdy} {p:Plc} (h:(tyB b p).2=0):p.proj.length<=32:=by
 have hc:=(kE h).1;unfold chk at hc;by_cases h1:p.loc<0
 ·rw [bA h1] at hc;cases hc
 rw [aZ h1] at hc;by_cases h2:32<p.proj.length
 ·rw [bA h2] at hc;cases hc
 ·omega
theorem eL {p:Plc} (h:zeroP p=true):p.proj.length<=32:=by
 unfold zeroP at h;simp only [bQ,decide_eq_true_eq] at h;omega
theorem kA {b:Bdy} {p:Plc} (h:writE b p=0):p.proj.length<=32:=by
 unfold writE at h;by_cases h1:(tyB b p).2≠0
 ·rw [bA h1] at h;exact absurd h h1
 ·exact jJ (by simpa using h1)
theorem xM {b:Bdy} {r:Rvl} {t:Int} (h:rvE b r t=0):r.place.proj.length<=32:=by
 unfold rvE at h;by_cases h0:r.kind<0\/4<r.kind
 ·rw [bA h0] at h;cases h
 rw [aZ h0] at h;by_cases h1:unusedR r=false
 ·rw [bA h1] at h;cases h
 rw [aZ h1] at h;by_cases hk:r.kind=1
 ·rw [aZ (by omega),bA hk] at h;unfold borE at h;by_cases h2:(tyB b r.place).2≠0
  ·rw [bA h2] at h;exact absurd h h2
  ·exact jJ (by simpa using h2)
 ·have h2:unusedR r=true:=by simpa using h1
  unfold unusedR at h2;refine eL ?_;by_cases k0:r.kind=0
  ·rw [bA k0] at h2;simp only [bQ] at h2;exact h2.1.1.2
  rw [aZ k0,aZ hk] at h2;by_cases k2:r.kind=2
  ·rw [bA k2] at h2;simp only [bQ] at h2;exact h2.1.2
  rw [aZ k2] at h2;by_cases k3:r.kind=3
  ·rw [bA k3] at h2;simp only [bQ] at h2;exact h2.1.2
  rw [aZ k3] at h2;simp only [bQ] at h2;exact h2.1.2
theorem jF {r:Rvl} (h:dM r=true):r.place.proj.length<=32:=by
 unfold dM at h;simp only [bQ] at h;exact eL h.2
theorem xF {b:Bdy} {s:Stm} (h:stE b s=0):s.place.proj.length<=32/\s.rv.place.proj.length<=32:=by
 unfold stE at h;by_cases k0:s.kind=0
 ·rw [bA k0] at h;by_cases h1:s.loc≠0
  ·rw [bA h1] at h;cases h
  rw [aZ h1] at h;by_cases h2:writE b s.place≠0
  ·rw [bA h2] at h;exact absurd h h2
  rw [aZ h2] at h;exact ⟨kA (by simpa using h2),xM h⟩
 rw [aZ k0] at h;by_cases k1:s.kind=1
 ·rw [bA k1] at h;by_cases h1:zeroP s.place=false\/dM s.rv=false
  ·rw [bA h1] at h;cases h
  ·exact ⟨eL (by cases e:zeroP s.place <;> simp_all),jF (by cases e:dM s.rv <;> simp_all)⟩
 rw [aZ k1] at h;by_cases k2:s.kind=2
 ·rw [bA k2] at h;by_cases h1:zeroP s.place=false\/dM s.rv=false\/s.loc≠0
  ·rw [bA h1] at h;cases h
  ·exact ⟨eL (by cases e:zeroP s.place <;> simp_all),jF (by cases e:dM s.rv <;> simp_all)⟩
 rw [aZ k2] at h;cases h
theorem uB {b:Bdy} {t:Trm} (h:tmE b t=0):t.targets.length<=2/\t.place.proj.length<=32/\(t.kind=3->isIdent t.name=true):=by
 unfold tmE at h;by_cases h0:t.kind<0\/5<t.kind
 ·rw [bA h0] at h;cases h
 rw [aZ h0] at h;by_cases h1:fieldsT t=false
 ·rw [bA h1] at h;cases h
 rw [aZ h1] at h;have h2:fieldsT t=true:=by simpa using h1
 by_cases h3:t.targets.all (fun k=>decide (0<=k/\k<(b.blocks.length:Int)))=false
 ·rw [bA h3] at h;cases h
 rw [aZ h3] at h;unfold fieldsT at h2;by_cases k3:t.kind=3
 ·rw [aZ (by omega),aZ (by omega),bA k3] at h2;rw [aZ (by omega),bA k3] at h;simp only [decide_eq_true_eq] at h2;by_cases g1:isIdent t.name=false
  ·rw [bA g1] at h;cases h
  rw [aZ g1] at h;by_cases g2:65535<t.args.length
  ·rw [bA g2] at h;cases h
  rw [aZ g2] at h;by_cases g3:opsE b t.args []≠0
  ·rw [bA g3] at h;exact absurd h g3
  rw [aZ g3] at h;exact ⟨by omega,kA h,fun _=>by simpa using g1⟩
 by_cases k4:t.kind=4
 ·rw [aZ (by omega),aZ (by omega),aZ k3,bA k4] at h2;rw [aZ (by omega),aZ k3,bA k4] at h;simp only [bQ,decide_eq_true_eq] at h2;by_cases g1:(tyB b t.place).2≠0
  ·rw [bA g1] at h;exact absurd h g1
  ·exact ⟨by omega,jJ (by simpa using g1),fun h=>absurd h k3⟩
 refine ⟨?_,?_,fun h=>absurd h k3⟩
 all_goals
  by_cases k0:t.kind=0
  ·rw [bA k0] at h2;simp only [bQ,decide_eq_true_eq] at h2;first | omega | exact eL h2.1.2
  ·rw [aZ k0] at h2;by_cases k1:t.kind=1
   ·rw [bA k1] at h2;simp only [bQ,decide_eq_true_eq] at h2;first | omega | exact eL h2.1.2
   ·rw [aZ k1,aZ k3,aZ k4] at h2;simp only [bQ,decide_eq_true_eq] at h2;first | omega | exact eL h2.1.2
theorem yT {b:Bdy} (h:chkB b=0):bksE b b.blocks=0:=by
 have hd:=jX h;unfold chkB at h;rwa [bA hd] at h
theorem tH {b:Bdy} (h:chkB b=0):ShortB b:=by
 have D:=eK (jX h);refine ⟨D.nout,D.nreg,D.ntyp,D.nloc,fun x hx=>?_⟩;obtain ⟨h1,h2,h3⟩:=wC (tK (yT h) x hx);obtain ⟨t1,t2,-⟩:=uB h3;exact ⟨h1,t1,t2,fun s hs=>xF (qW h2 s hs)⟩
theorem ybks {b:Bdy}:∀{l:List Blk},bksE b l=0->∀x∈l,bkE b x=0
 | [],_=>by simp
 | y :: r,h=>by
   rw [bksE] at h;by_cases he:bkE b y=0
   ·rw [bA he] at h;intro x hx;rcases List.mem_cons.1 hx with rfl | hx
    ·exact he
    ·exact ybks h x hx
   ·rw [aZ he] at h;exact absurd h he
theorem ysts {b:Bdy}:∀{l:List Stm},stsE b l=0->∀x∈l,stE b x=0
 | [],_=>by simp
 | y :: r,h=>by
   rw [stsE] at h;by_cases he:stE b y=0
   ·rw [bA he] at h;intro x hx;rcases List.mem_cons.1 hx with rfl | hx
    ·exact he
    ·exact ysts h x hx
   ·rw [aZ he] at h;exact absurd h he
theorem ybk {b:Bdy} {x:Blk} (h:bkE b x=0):stsE b x.stmts=0/\tmE b x.term=0:=by
 unfold bkE at h;split at h
 ·cases h
 split at h
 ·exact absurd h ‹_›
 ·exact ⟨Decidable.not_not.1 ‹_›,h⟩
theorem ychk {b:Bdy} (h:chkB b=0):declC b=0/\bksE b b.blocks=0:=by
 unfold chkB at h;split at h
 ·exact ⟨‹_›,h⟩
 ·exact absurd h ‹_›
theorem yops {b:Bdy}:∀{l:List Opd} {fs:List Int},opsE b l fs=0->∀o∈l,opE b o=0
 | [],_,_=>by simp
 | x :: r,[],h=>by
   rw [opsE] at h;split at h
   ·rename_i he;intro o ho;rcases List.mem_cons.1 ho with rfl | ho
    ·exact he
    ·exact yops h o ho
   ·exact absurd h ‹_›
 | x :: r,f :: fs,h=>by
   rw [opsE] at h;split at h
   ·rename_i he;split at h
    ·intro o ho;rcases List.mem_cons.1 ho with rfl | ho
     ·exact he
     ·exact yops h o ho
    ·cases h
   ·exact absurd h ‹_›
theorem oQ:∀{ps:List Pj},chkP ps=0->∀x∈ps,okJ x
 | [],_=>by simp
 | y :: r,h=>by
   rw [chkP] at h;split at h
   ·cases h
   split at h
   ·cases h
   split at h
   ·cases h
   intro x hx;rcases List.mem_cons.1 hx with rfl | hx
   ·unfold okJ;omega
   ·exact oQ h x hx
theorem yS {l:Int} {ps:List Pj} (h:chk l ps=0):∀x∈ps,okJ x:=by
 unfold chk at h;split at h
 ·cases h
 split at h
 ·cases h
 exact oQ h
theorem hH {b:Bdy} {p:Plc} (h:(tyB b p).2=0):OkPl b.locals p:=by
 obtain ⟨h1,h2,h3⟩:=kE h;exact ⟨⟨h2,h3⟩,yS h1⟩
theorem eD {p:Plc} (h:zeroP p=true):p=⟨0,[]⟩:=by
 unfold zeroP at h;simp only [bQ,decide_eq_true_eq] at h;obtain ⟨l,ps⟩:=p;obtain ⟨rfl,h2⟩:=h;obtain rfl:=bV h2;rfl
theorem gG {b:Bdy} {o:Opd} (h:opE b o=0):OkOp b.locals o:=by
 unfold opE at h;split at h
 ·cases h
 rename_i h1;split at h
 ·cases h
 rename_i h2;split at h
 ·cases h
 rename_i h3
 have hz:1<o.kind->o.place=⟨0,[]⟩:=fun hk=>eD (by
  cases e:zeroP o.place
  ·exact absurd (.inr ⟨hk,e⟩) h2
  ·rfl)
 have hn:o.kind≠2->o.kind≠3->o.n=0:=fun a b=>by
  by_cases e:o.n=0
  ·exact e
  ·exact absurd (.inl ⟨a,b,e⟩) h2
 have hb:o.kind=3->o.n=0\/o.n=1:=fun a=>by
  by_cases e:o.n=0
  ·exact .inl e
  ·by_cases e':o.n=1
   ·exact .inr e'
   ·exact absurd ⟨a,e,e'⟩ h3
 refine ⟨by omega,hn,hz,hb,fun hk=>?_,?_⟩
 ·rw [aZ (by omega)] at h;split at h
  ·exact absurd h ‹_›
  ·exact hH (Decidable.not_not.1 ‹_›)
 ·by_cases hk:1<o.kind
  ·rw [hz hk];simp
  ·rw [aZ (by omega)] at h;split at h
   ·exact absurd h ‹_›
   ·exact jJ (Decidable.not_not.1 ‹_›)
theorem xY {b:Bdy} (hok:Okay b.types b.locals) {r:Rvl} {p:Plc} (hp:(tyB b p).2=0) (h:rvE b r (tyB b p).1=0):OkRv b.locals b.regions r:=by
 obtain ⟨t0,t1⟩:=fZ hok hp;obtain ⟨ty,ht⟩:∃ty,b.types[(tyB b p).1.toNat]?=some ty:=⟨_,bD (show (tyOf b.types b.locals p.loc p.proj).1.toNat<b.types.length by omega)⟩;generalize (tyB b p).1=t at h ht;unfold rvE at h;split at h
 ·cases h
 rename_i h1;split at h
 ·cases h
 rename_i h2;rw [Bool.not_eq_false] at h2;unfold unusedR at h2;simp only at h2;have hk:r.kind=0\/r.kind=1\/r.kind=2\/r.kind=3\/r.kind=4:=by omega
 rcases hk with hk | hk | hk | hk | hk
 ·rw [bA hk] at h;simp only [hk,if_true,if_false,bQ,decide_eq_true_eq,Bool.not_eq_true',Int.reduceEq] at h2;obtain ⟨⟨⟨⟨a1,a2⟩,a3⟩,a4⟩,a5⟩:=h2;exact ⟨by omega,fun _=>⟨a1,a2,eD a3⟩,fun e=>by omega,fun _=>a4,fun _=>a5,fun e=>by omega,fun e=>by omega,fun o ho=>gG (yops h o ho)⟩
 ·rw [aZ (by omega),bA hk] at h;simp only [hk,if_true,if_false,bQ,decide_eq_true_eq,Int.reduceEq] at h2;obtain ⟨a1,a2⟩:=h2;have a3:=bV a2;unfold borE at h;split at h
  ·exact absurd h ‹_›
  rename_i h3;split at h
  ·cases h
  rename_i h4;exact ⟨by omega,fun e=>by omega,fun _=>⟨a1,a3,⟨by omega,by omega⟩,hH (Decidable.not_not.1 h3)⟩,fun _=>a1,fun e=>by omega,fun e=>by omega,fun e=>by omega,fun o ho=>by rw [a3] at ho;cases ho⟩
 ·rw [aZ (by omega),aZ (by omega),bA hk] at h;simp only [hk,if_true,if_false,bQ,decide_eq_true_eq,Bool.not_eq_true',Int.reduceEq] at h2;obtain ⟨⟨⟨a1,a2⟩,a3⟩,a5⟩:=h2;unfold operE at h;split at h
  ·cases h
  rename_i h3;split at h
  ·exact absurd h ‹_›
  rename_i h4;have h5:¬(r.op<0\/(2:Int)<=r.op):=h3;exact ⟨by omega,fun _=>⟨a1,a2,eD a3⟩,fun e=>by omega,fun e=>by omega,fun e=>by omega,fun _=>by omega,fun e=>by omega,fun o ho=>gG (yops (Decidable.not_not.1 h4) o ho)⟩
 ·rw [aZ (by omega),aZ (by omega),aZ (by omega),bA hk] at h;simp only [hk,if_true,if_false,bQ,decide_eq_true_eq,Bool.not_eq_true',Int.reduceEq] at h2;obtain ⟨⟨⟨a1,a2⟩,a3⟩,a5⟩:=h2;unfold operE at h;split at h
  ·cases h
  rename_i h3;split at h
  ·exact absurd h ‹_›
  rename_i h4;have h5:¬(r.op<0\/(6:Int)<=r.op):=h3;exact ⟨by omega,fun _=>⟨a1,a2,eD a3⟩,fun e=>by omega,fun e=>by omega,fun e=>by omega,fun e=>by omega,fun _=>by omega,fun o ho=>gG (yops (Decidable.not_not.1 h4) o ho)⟩
 ·rw [aZ (by omega),aZ (by omega),aZ (by omega),aZ (by omega),ht] at h;simp only [hk,if_false,bQ,decide_eq_true_eq,Bool.not_eq_true',Int.reduceEq] at h2;obtain ⟨⟨⟨a1,a2⟩,a3⟩,a4⟩:=h2;simp only at h;split at h
  ·cases h
  exact ⟨by omega,fun _=>⟨a1,a2,eD a3⟩,fun e=>by omega,fun _=>a4,fun e=>by omega,fun e=>by omega,fun e=>by omega,fun o ho=>gG (yops h o ho)⟩
theorem oS {r:Rvl} (h:dM r=true):r=⟨0,0,0,false,⟨0,[]⟩,[]⟩:=by
 unfold dM at h;simp only [bQ,decide_eq_true_eq,Bool.not_eq_true'] at h;obtain ⟨⟨⟨⟨⟨a1,a2⟩,a3⟩,a4⟩,a5⟩,a6⟩:=h;obtain ⟨k,op,reg,mu,place,args⟩:=r;simp only at a1 a2 a3 a4 a5 a6;subst a1 a2 a4 a5;rw [eD a6,bV a3]
theorem jH {b:Bdy} {p:Plc} (h:writE b p=0):(tyB b p).2=0:=by
 unfold writE at h;split at h
 ·exact absurd h ‹_›
 ·exact Decidable.not_not.1 ‹_›
theorem nB {b:Bdy} (hok:Okay b.types b.locals) {s:Stm} (h:stE b s=0):OkSt b.locals b.regions s:=by
 unfold stE at h;split at h
 ·rename_i hk;split at h
  ·cases h
  rename_i hl;split at h
  ·exact absurd h ‹_›
  rename_i hw;have ht:=jH (Decidable.not_not.1 hw);exact ⟨by omega,fun _=>⟨Decidable.not_not.1 hl,hH ht,xY hok ht h⟩,fun e=>absurd hk e,fun e=>by omega,fun e=>by omega⟩
 rename_i hk;split at h
 ·rename_i hk1;split at h
  ·cases h
  rename_i hz;split at h
  ·cases h
  rename_i hl;simp only [not_or,Bool.not_eq_false] at hz;exact ⟨by omega,fun e=>absurd e hk,fun _=>⟨eD hz.1,oS hz.2⟩,fun _=>⟨by omega,by omega⟩,fun e=>by omega⟩
 rename_i hk1;split at h
 ·rename_i hk2;split at h
  ·cases h
  rename_i hz;simp only [not_or,Bool.not_eq_false] at hz;exact ⟨by omega,fun e=>absurd e hk,fun _=>⟨eD hz.1,oS hz.2.1⟩,fun e=>absurd e hk1,fun _=>Decidable.not_not.1 hz.2.2⟩
 ·cases h
theorem iB {n:ByteArray} (h:n.size=0):n=⟨#[]⟩:=by
 obtain ⟨d⟩:=n;rw [show d = #[] from Array.eq_empty_of_size_eq_zero h]
theorem nA {b:Bdy} {t:Trm} (h:tmE b t=0):OkTm b.locals t:=by
 unfold tmE at h;split at h
 ·cases h
 rename_i h1;split at h
 ·cases h
 rename_i h2;rw [Bool.not_eq_false] at h2;unfold fieldsT at h2;split at h
 ·cases h
 have hk:t.kind=0\/t.kind=1\/t.kind=2\/t.kind=3\/t.kind=4\/t.kind=5:=by omega
 rcases hk with hk | hk | hk | hk | hk | hk
 ·simp only [hk,if_true,if_false,bQ,decide_eq_true_eq,Int.reduceEq] at h2;obtain ⟨⟨⟨a1,a2⟩,a3⟩,a4⟩:=h2;have a5:=bV a2;exact ⟨by omega,fun _=>a1,fun e=>by omega,fun e=>by omega,fun _ _=>a5,fun _ _=>eD a3,fun _=>iB a4,fun e=>by omega,fun e=>by omega,fun o ho=>by rw [a5] at ho;cases ho⟩
 ·simp only [hk,if_true,if_false,bQ,decide_eq_true_eq,Int.reduceEq] at h2;obtain ⟨⟨⟨a1,a2⟩,a3⟩,a4⟩:=h2;rw [bA hk] at h
  have hargs:∀o∈t.args,OkOp b.locals o:=by
   match e:t.args,a2 with
   | [o],_=>
     rw [e] at h;simp only at h;split at h
     ·exact absurd h ‹_›
     ·intro x hx;rw [List.mem_singleton.1 hx];exact gG (Decidable.not_not.1 ‹_›)
  exact ⟨by omega,fun e=>by omega,fun _=>⟨a1,a2⟩,fun e=>by omega,fun e=>absurd hk e,fun _ _=>eD a3,fun _=>iB a4,fun e=>by omega,fun e=>by omega,hargs⟩
 ·simp only [hk,if_false,bQ,decide_eq_true_eq,Int.reduceEq] at h2;obtain ⟨⟨⟨a1,a2⟩,a3⟩,a4⟩:=h2;have a5:=bV a2;exact ⟨by omega,fun e=>by omega,fun e=>by omega,fun _=>bV a1,fun _ _=>a5,fun _ _=>eD a3,fun _=>iB a4,fun e=>by omega,fun e=>by omega,fun o ho=>by rw [a5] at ho;cases ho⟩
 ·simp only [hk,if_true,if_false,decide_eq_true_eq,Int.reduceEq] at h2;rw [aZ (by omega),bA hk] at h;split at h
  ·cases h
  rename_i h3;split at h
  ·cases h
  split at h
  ·exact absurd h ‹_›
  rename_i h4;exact ⟨by omega,fun _=>h2,fun e=>by omega,fun e=>by omega,fun _ e=>absurd hk e,fun e=>absurd hk e,fun e=>absurd hk e,fun _=>by simpa using h3,fun _=>hH (jH h),fun o ho=>gG (yops (Decidable.not_not.1 h4) o ho)⟩
 ·simp only [hk,if_true,if_false,bQ,decide_eq_true_eq,Int.reduceEq] at h2;obtain ⟨⟨a1,a2⟩,a4⟩:=h2;have a5:=bV a2;rw [aZ (by omega),aZ (by omega),bA hk] at h;split at h
  ·exact absurd h ‹_›
  rename_i h4;exact ⟨by omega,fun _=>a1,fun e=>by omega,fun e=>by omega,fun _ _=>a5,fun _ e=>absurd hk e,fun _=>iB a4,fun e=>by omega,fun _=>hH (Decidable.not_not.1 h4),fun o ho=>by rw [a5] at ho;cases ho⟩
 ·simp only [hk,if_false,bQ,decide_eq_true_eq,Int.reduceEq] at h2;obtain ⟨⟨⟨a1,a2⟩,a3⟩,a4⟩:=h2;have a5:=bV a2;exact ⟨by omega,fun e=>by omega,fun e=>by omega,fun _=>bV a1,fun _ _=>a5,fun _ _=>eD a3,fun _=>iB a4,fun e=>by omega,fun e=>by omega,fun o ho=>by rw [a5] at ho;cases ho⟩
theorem wI:∀{l seen:List ByteArray},namesE seen l=0->(∀s∈l,isIdent s=true)/\l.Nodup/\∀s∈l,s∉seen
 | [],_,_=>by simp
 | x :: r,seen,h=>by
   rw [namesE] at h;split at h
   ·cases h
   rename_i h1;split at h
   ·cases h
   rename_i h2;obtain ⟨a1,a2,a3⟩:=wI h;have h3:x∉seen:=fun e=>h2 (oB.2 e)
   refine ⟨fun s hs=>?_,List.nodup_cons.2 ⟨fun e=>a3 x e (by simp),a2⟩,fun s hs=>?_⟩
   ·rcases List.mem_cons.1 hs with rfl | hs
    ·simpa using h1
    ·exact a1 s hs
   ·rcases List.mem_cons.1 hs with rfl | hs
    ·exact h3
    ·exact fun e=>a3 s hs (by simp [e])
theorem qH {nt:Nat}:∀{l:List Lc} {seen:List ByteArray},localsE nt seen l=0->(∀s∈l,isIdent s.name=true)/\(l.map (·.name)).Nodup/\∀s∈l,s.name∉seen
 | [],_,_=>by simp
 | x :: r,seen,h=>by
   rw [localsE] at h;split at h
   ·cases h
   rename_i h1;split at h
   ·cases h
   rename_i h2;split at h
   ·cases h
   obtain ⟨a1,a2,a3⟩:=qH h;have h3:x.name∉seen:=fun e=>h2 (oB.2 e)
   refine ⟨fun s hs=>?_,?_,fun s hs=>?_⟩
   ·rcases List.mem_cons.1 hs with rfl | hs
    ·simpa using h1
    ·exact a1 s hs
   ·rw [List.map_cons,List.nodup_cons];refine ⟨fun e=>?_,a2⟩;obtain ⟨y,hy,e⟩:=List.mem_map.1 e;exact a3 y hy (by simp [e])
   ·rcases List.mem_cons.1 hs with rfl | hs
    ·exact h3
    ·exact fun e=>a3 s hs (by simp [e])
theorem oA {α : Type} {l:List α} (h:l.Nodup) {i j:Nat} {a : α} (hi:l[i]?=some a) (hj:l[j]?=some a):i=j:=by
 obtain ⟨h1,_⟩:=List.getElem?_eq_some_iff.1 hi;exact (List.getElem?_inj h1 h).1 (by rw [hi,hj])
theorem xZ {l:List ByteArray} (h:namesC l=0):NmRs l:=by
 unfold namesC at h;split at h
 ·cases h
 obtain ⟨a1,a2,_⟩:=wI h;exact ⟨fun i x hi=>a1 x (List.mem_of_getElem? hi),fun i j a b hi hj e=>oA a2 hi (by rw [hj,e])⟩
theorem yA {nt:Nat} {l:List Lc} (h:localsE nt [] l=0):NmLs l:=by
 obtain ⟨a1,a2,_⟩:=qH h;refine ⟨fun i x hi=>a1 x (List.mem_of_getElem? hi),fun i j a b hi hj e=>oA (a:=a.name) a2 ?_ ?_⟩
 ·rw [cI,hi];rfl
 ·rw [cI,hj,e];rfl
theorem xX {prev:List Ty} {d:List Int} {rs:List ByteArray} {t:Ty} (h:(tyE prev d rs.length t).1=0):OkTy rs t:=by
 unfold tyE at h;split at h
 ·cases h
 rename_i h1;split at h
 ·cases h
 rename_i h2;split at h
 ·cases h
 rename_i h3;clear h
 have hf:t.kind≠4->t.flds=[]:=fun e=>bV (by
  by_cases e':t.flds.length=0
  ·exact e'
  ·exact absurd (.inr ⟨e,by omega⟩) h2)
 have hm:t.kind≠3->t.mu=false/\t.reg=0/\t.elem=0:=fun e=>by
  have h4:¬(t.mu=true\/t.reg≠0\/t.elem≠0):=fun e'=>h2 (.inl ⟨e,e'⟩)
  simp only [not_or,Bool.not_eq_true,Decidable.not_not] at h4;exact h4
 exact ⟨by omega,hm,hf,fun e=>⟨by omega,by omega⟩⟩
theorem wH {rs:List ByteArray}:∀{l prev:List Ty} {d:List Int},typesE rs.length prev d l=0->∀t∈l,OkTy rs t
 | [],_,_,_=>by simp
 | x :: r,prev,d,h=>by
   rw [typesE] at h;split at h
   ·rename_i h0;intro t ht;rcases List.mem_cons.1 ht with rfl | ht
    ·exact xX h0
    ·exact wH h t ht
   ·exact absurd h ‹_›
theorem wS {b:Bdy} (h:chkB b=0):OkB b:=by
 obtain ⟨hd,hb⟩:=ychk h;have D:=eK hd;refine ⟨D.name,xZ D.regs,fun x hx=>?_,?_,yA D.locE,D.args,fun x hx=>?_⟩
 ·obtain ⟨a,b,c,d⟩:=D.pairs x hx;exact ⟨⟨a,b⟩,⟨c,d⟩⟩
 ·have:=D.typC;unfold typesC at this;split at this
  ·cases this
  exact wH this
 ·obtain ⟨h1,h2⟩:=ybk (ybks hb x hx);exact ⟨fun s hs=>nB D.okay (ysts h1 s hs),nA h2⟩
theorem oG {p:Int} {nr:Nat}:∀{xs:List Ln} {q:Option Ln},losE p nr q xs=0->∀l∈xs,okI nr l.reg/\0<=l.pt/\l.pt<p/\chk l.place.loc l.place.proj=0
 | [],_,_,l,hl=>by cases hl
 | x :: xs,q,h,l,hl=>by
   rw [lR] at h;split at h
   ·rename_i h0;rcases List.mem_cons.1 hl with rfl | hl
    ·unfold loE at h0;split at h0
     ·cases h0
     rename_i hr;split at h0
     ·rename_i hc;exact absurd h0 hc
     rename_i hc;exact ⟨⟨by omega,by omega⟩,by omega,by omega,Decidable.not_not.1 hc⟩
    ·exact oG h l hl
   ·rename_i h0;exact absurd h h0
theorem fR {f s:Int}:∀{xs:List (Int × Int)} {q:Option (Int × Int)},prsE f s q xs=0->∀x∈xs,0<=x.1/\x.1<f/\0<=x.2/\x.2<s
 | [],_,_,l,hl=>by cases hl
 | x :: xs,q,h,l,hl=>by
   rw [lI] at h;split at h
   ·rename_i h0;rcases List.mem_cons.1 hl with rfl | hl
    ·unfold prE at h0;split at h0
     ·cases h0
     rename_i hr;omega
    ·exact fR h l hl
   ·rename_i h0;exact absurd h h0
structure OkFct (f:Fct) (p:Int) (nr:Nat):Prop where
 ln:∀l∈f.loans,okI nr l.reg/\0<=l.pt/\l.pt<p/\chk l.place.loc l.place.proj=0
 ed:∀x∈f.edges,0<=x.1/\x.1<p/\0<=x.2/\x.2<p
 ki:∀x∈f.killed,0<=x.1/\x.1<f.loans.length/\0<=x.2/\x.2<p
 iv:∀x∈f.inval,0<=x.1/\x.1<f.loans.length/\0<=x.2/\x.2<p
 li:∀x∈f.live,0<=x.1/\x.1<nr/\0<=x.2/\x.2<p
theorem yH {f:Fct} {p:Int} {nr:Nat} (h:fctE f p nr=0):OkFct f p nr:=by
 unfold fctE at h;split at h
 ·cases h
 split at h
 ·exact absurd h ‹_›
 rename_i h1;split at h
 ·exact absurd h ‹_›
 rename_i h2;split at h
 ·exact absurd h ‹_›
 rename_i h3;split at h
 ·exact absurd h ‹_›
 rename_i h4;exact ⟨oG (Decidable.not_not.1 h1),fR (Decidable.not_not.1 h2),fR (Decidable.not_not.1 h3),fR (Decidable.not_not.1 h4),fR h⟩
end
section
open Go Go.ChangeShapes Go.WideShapes Go.ChangeAt Go.RowKit Go.Joins Go.Deep
theorem yD {α : Type} {n:Nat} {p:Nat-> α -> Prop} (h:∀i,i<n->∃x,p i x):∃xs:List α,xs.length=n/\∀i x,xs[i]?=some x->p i x:=by
 induction n with
 | zero=>exact ⟨[],rfl,by simp⟩
 | succ n ih=>
   obtain ⟨xs,hl,hx⟩:=ih (fun i hi=>h i (by omega));obtain ⟨y,hy⟩:=h n (by omega);refine ⟨xs ++ [y],by simp [hl],fun i x hi=>?_⟩;by_cases hin:i<n
   ·rw [List.getElem?_append_left (by omega)] at hi;exact hx i x hi
   ·have hlt:=(List.getElem?_eq_some_iff.1 hi).1;simp only [bB,cG] at hlt;obtain rfl:i=n:=by omega
    rw [<- hl,List.getElem?_concat_length] at hi;cases hi
    exact hy
theorem oV (b o n:Nat):(⟨b,o,none⟩:Addr).add n=⟨b,o+n,none⟩:=by
 unfold Addr.add;split
 ·next h=>subst h;rfl
 ·rfl
theorem rA {w:World} {a:Addr} {v:Value} (h:w.cell? a=some v):a.spot=none:=by
 cases hs:a.spot with
 | none=>rfl
 | some x=>
   unfold World.cell? at h;rw [hs] at h;split at h
   ·simp at h
   ·cases h
section
variable {H:Type} {enc:TypeId × Value->H} {P:Program} {w:World} {base:Nat} {spare:Nat->Bool} {held:Bool}
theorem rU {α : Type} {k:Nat} {R:Rd α} {t e:TypeId} {fuel:Nat} {cs:List Value} {x:DataW H × List MemPlace} (ht:P.underlying t=some (.slice e)) (hk:P.cellsOf e=k) (hk0:0<k)
 (h:DataW.trod enc P w base spare held fuel t cs=some x)
 (hR:∀(b o n:Nat) (cs':List Value) (y:DataW H × List MemPlace),cs'.length=k->(∀j,j<k->w.cell? ⟨b,o+j,none⟩=cs'[j]?)->DataW.trod enc P w base spare held n e cs'=some y->∃z,R w w.heap.size b o z):
 ∃A c,∃xs:List α,cs=[.slice A xs.length c]/\Slc k R w A c xs:=by
 rcases open_slice ht h with ⟨rfl,_⟩ | ⟨a,len,cap,m,n,D,Pl,rfl,hb,hl,hm,hmm,hx,hi⟩
 ·exact ⟨none,0,[],rfl,Sl.nil,by simp,by omega⟩
 ·obtain ⟨b,off,s⟩:=a;have hlm:len<=m:=by rw [hmm];split <;> omega
  rw [hk] at hi;unfold maxLen at hm;by_cases h0:len=0
  ·subst h0;exact ⟨_,cap,[],rfl,Sl.nil,by simp,hm⟩
  ·have hfirst:∃v,w.cell? ⟨b,off,s⟩=some v:=by
    obtain ⟨cs',hc,_⟩:=hi 0 (by omega);obtain ⟨_,hcl,hat⟩:=World.cells?_some hc;have h1:=hat 0 hk0;rw [bD (by omega)] at h1;simp only [Nat.zero_mul,Addr.add,if_true] at h1;exact ⟨_,h1⟩
   obtain ⟨v,hv⟩:=hfirst;have hs:s=none:=rA hv;subst hs
   obtain ⟨xs,hxl,hxs⟩:=yD (n:=len) (p:=fun i z=>R w w.heap.size b (off+i * k) z) (fun i hi'=>by
    obtain ⟨cs',hc,ht'⟩:=hi i (by omega);obtain ⟨_,hcl,hat⟩:=World.cells?_some hc;refine hR b (off+i * k) n cs' _ hcl (fun j hj=>?_) ht';have h1:=hat j hj;rw [oV,oV] at h1
    exact h1)
   exact ⟨_,cap,xs,by rw [hxl],⟨fun _=>⟨b,off,rfl,cD _ _ hv,hxs⟩,by omega,hm⟩⟩
theorem lV {e:TypeId} {fs:Array Field} {n:Nat} {cs:List Value} {y:DataW H × List MemPlace} (he:P.underlying e=some (.struct fs)) (hone:oneCellFields P fs=true)
 (h:DataW.trod enc P w base spare held n e cs=some y) (hl:cs.length=fs.size) {j:Nat} {f:Field} (hf:fs[j]?=some f):
 ∃v m y',cs[j]?=some v/\DataW.trod enc P w base spare held m f.type [v]=some y':=by
 obtain ⟨ys,m,_,_,_,hyl,hfl⟩:=DataW.trod_struct he h;have hjl:j<fs.size:=(Array.getElem?_eq_some_iff.1 hf).1;obtain ⟨ho,hk⟩:=hone_of hone j f hf;have h1:=hfl j f hf;rw [ho,hk,cH (show j<cs.length by omega)] at h1;refine ⟨cs[j],m,ys[j],bD _,?_⟩;rw [bD (show j<ys.length by omega)] at h1;exact h1
theorem fN (hl:laidOutB P=true) {W W':World} {sp:Nat->Bool}:∀(ts:List TypeId) (vs:List Value) (ds:List (DataW H)) (ps:List MemPlace),
 (∀t∈ts,P.readableRec t=true/\t<P.types.size)->DataW.TrodAll enc P W 0 (fun _=>true) true ts vs ds ps->(∀p∈ps,W.sameAt W' p)->(∀p∈ps,sp p.block=true)->DataW.TrodAll enc P W' 0 sp true ts vs ds ps
 | [],[],[],_,_,h,_,_=>h
 | t :: ts,v :: vs,d :: ds,ps,hr,h,hs,hp=>by
   obtain ⟨p,q,h1,h2,rfl⟩:=h
   exact ⟨p,q,WideElems.Trod_stays hl (hr t (by simp)).1 (hr t (by simp)).2 h1 (fun x hx=>hs x (by simp [hx])) (fun x hx=>hp x (by simp [hx])),
    fN hl ts vs ds q (fun t' ht=>hr t' (by simp [ht])) h2 (fun x hx=>hs x (by simp [hx])) (fun x hx=>hp x (by simp [hx])),rfl⟩
 | [],[],_ :: _,_,_,h,_,_=>h.elim
 | [],_ :: _,_,_,_,h,_,_=>h.elim
 | _ :: _,[],_,_,_,h,_,_=>h.elim
 | _ :: _,_ :: _,[],_,_,h,_,_=>h.elim
theorem vJ {f:Func} {s:ChangeSpec} {apart fresh handsOn:Bool} {W W':World} {args:Array Value} {ds:List (DataW H)} {before:List MemPlace} {tb:TypeId}
 (hl:laidOutB P=true) (hvars:s.vars=[]) (hrt:f.resultTypes = #[tb]) (htb:P.underlying tb=some .bool)
 (hfn:s.fn H ds={ results:=[.lit (.bool true)],args:=ds }) (hrd:∀t∈f.params.toList,P.readableRec t=true/\t<P.types.size)
 (hW:DataW.Whole enc P f.params.toList s.vars apart W args.toList ds [] before) (hb:Below W.heap.size W W'):
 s.post enc P f apart fresh handsOn false W args (.bool true) W':=by
 have hlt:∀p∈before,p.block<W.heap.size:=fun p hp=>hW.lt p hp
 have hW2:=hW;obtain ⟨p,q,hA,hV,hbe,_,_⟩:=hW2;rw [hvars] at hV;obtain ⟨_,rfl⟩:=trodVars_none hV;rw [List.append_nil] at hbe;subst hbe;refine ⟨ds,[],before,[],before,[],hW,?_,?_,?_,World.keptBut_mono (fun p hp=>⟨hp,Or.inr (Or.inl hp)⟩) (hb.frame (· ∈ before)),fun h=>by cases h⟩
 ·rw [List.append_nil,hfn,hrt];exact trodAll_mk1 (shut_bool htb true)
 ·rw [List.append_nil,hfn];exact fN hl _ _ _ _ hrd hA (fun x hx=>hb.same (hlt x hx)) (fun x hx=>by simpa using hlt x hx)
 ·rw [List.append_nil,hfn,hvars];rfl
end
theorem Tryz.own:ownKnob Tryz.prog.godebug=none:=by kernel_rfl
theorem Tryz.laidOut:laidOutB Tryz.prog=true:=by kernel_rfl
section
variable {H:Type} {enc:TypeId × Value->H} {w:World} {base:Nat} {spare:Nat->Bool} {held:Bool}
end
theorem sC {α : Type}:∀{l:List α},l.length=2->∃a b,l=[a,b]
 | [a,b],_=>⟨a,b,rfl⟩
section
variable {H:Type} {enc:TypeId × Value->H} {P:Program} {w:World} {base:Nat} {spare:Nat->Bool} {held:Bool}
theorem rR {e:TypeId} {f0 f1:Field} {m:Nat} {cs:List Value} {a b:Int} {x:DataW H × List MemPlace} (he:P.underlying e=some (.struct #[f0,f1])) (hone:oneCellFields P #[f0,f1]=true) (hC:P.cellsOf e=2)
 (hf0:P.underlying f0.type=some (.int .i64)) (hf1:P.underlying f1.type=some (.int .i64))
 (h:DataW.trod enc P w base spare held m e cs=some x) (hx1:x.1 = .agg [.lit (.int .i64 a),.lit (.int .i64 b)]):cs[0]?=some (.int .i64 a)/\cs[1]?=some (.int .i64 b):=by
 obtain ⟨ys,n,_,rfl,hcl,hyl,hfl⟩:=DataW.trod_struct he h;obtain ⟨y0,y1,rfl⟩:=sC (show ys.length=2 from hyl);obtain ⟨c0,c1,rfl⟩:=sC (hcl.trans hC);obtain ⟨o0,k0⟩:=hone_of hone 0 f0 rfl;obtain ⟨o1,k1⟩:=hone_of hone 1 f1 rfl;have g0:=hfl 0 f0 rfl;have g1:=hfl 1 f1 rfl;rw [o0,k0] at g0;rw [o1,k1] at g1;obtain ⟨n0,e0,z0,_⟩:=DataW.trod_int (k:= .i64) (x:=y0) hf0 g0;obtain ⟨n1,e1,z1,_⟩:=DataW.trod_int (k:= .i64) (x:=y1) hf1 g1;simp only [List.map_cons,List.map_nil,z0,z1,DataW.agg.injEq,List.cons.injEq,DataW.lit.injEq,Lit.int.injEq,and_true,true_and] at hx1;obtain ⟨rfl,rfl⟩:=hx1;simp at e0 e1;subst e0 e1;exact ⟨rfl,rfl⟩
theorem pM {t e:TypeId} {n:Nat} {f0 f1:Field} {m:Nat} {cs:List Value} {l:List (Int × Int)} {x:DataW H × List MemPlace} (ht:P.underlying t=some (.array n e)) (he:P.underlying e=some (.struct #[f0,f1])) (hone:oneCellFields P #[f0,f1]=true) (hC:P.cellsOf e=2)
 (hf0:P.underlying f0.type=some (.int .i64)) (hf1:P.underlying f1.type=some (.int .i64))
 (h:DataW.trod enc P w base spare held m t cs=some x) (hx:x.1 = .agg (l.map fun p=> .agg [.lit (.int .i64 p.1),.lit (.int .i64 p.2)])) (i:Nat) (p:Int × Int) (hi:l[i]?=some p):
 cs[i * 2]?=some (.int .i64 p.1)/\cs[i * 2+1]?=some (.int .i64 p.2):=by
 obtain ⟨xs,k,_,rfl,hcl,hxl,hel⟩:=DataW.trod_array ht h;have hm:xs.map (·.1)=l.map fun p=> .agg [.lit (.int .i64 p.1),.lit (.int .i64 p.2)]:=by simpa using hx
 have hll:xs.length=l.length:=by simpa using congrArg List.length hm
 have hil:=(List.getElem?_eq_some_iff.1 hi).1;have h1:=hel i (by omega);rw [hC,bD (show i<xs.length by omega)] at h1
 have hx1:xs[i].1 = .agg [.lit (.int .i64 p.1),.lit (.int .i64 p.2)]:=by
  have:=congrArg (fun z=>z[i]?) hm;simp only [cI,hi,bD (show i<xs.length by omega),Option.map_some,Option.some.injEq] at this;exact this
 obtain ⟨q0,q1⟩:=rR he hone hC hf0 hf1 h1 hx1;simp only [List.getElem?_take,List.getElem?_drop,Nat.add_zero] at q0 q1;rw [bA (by omega)] at q0 q1;exact ⟨q0,q1⟩
end
theorem gUn : Tryz.prog.globalNamed "mirtower/valid.unary" = some 0 := by kernel_rfl
theorem gUnT:(Tryz.prog.globals[0]?).map (·.type)=some 214:=by kernel_rfl
theorem gBi : Tryz.prog.globalNamed "mirtower/valid.binary" = some 1 := by kernel_rfl
theorem gBiT:(Tryz.prog.globals[1]?).map (·.type)=some 215:=by kernel_rfl
theorem vZ:Tryz.prog.cellsOf 213=2:=by kernel_rfl
theorem iZ {n:String} {g:Nat} {tid:TypeId} {k:Nat} {l:List (Int × Int)} {r:List (String × DataW Unit)} {w:World} (hg:Tryz.prog.globalNamed n=some g) (ht:(Tryz.prog.globals[g]?).map (·.type)=some tid) (hu:Tryz.prog.underlying tid=some (.array k 213)) (hk:l.length=k) (hk0:0<k) (hkm:k<=1000)
 (h:laidMet Tryz.prog ((n,.agg (l.map fun p=> .agg [.lit (.int .i64 p.1),.lit (.int .i64 p.2)])) :: r) w):Slc 2 RPr w (some ⟨g,0,none⟩) k l:=by
 subst hk;obtain ⟨ps,⟨g0,t0,cs0,f0,p0,q0,hg0,ht0,hv0,hd0,_,e0⟩,_,_⟩:=h;obtain rfl:=Option.some.inj (hg.symm.trans hg0);obtain rfl:=Option.some.inj (ht.symm.trans ht0);have hc:=fun i p hi=>pM hu Tryz.underlying213 (by kernel_rfl) vZ Tryz.underlying3 Tryz.underlying3 hd0 rfl i p hi
 have hcell:=fun i=>World.var?_cell hg0 hv0 i
 refine ⟨fun _=>⟨g,0,rfl,?_,fun i p hi=>?_⟩,aY _,by omega⟩
 ·obtain ⟨p,hp⟩:∃p,l[0]?=some p:=⟨_,bD hk0⟩;have h1:=(hc 0 p hp).1;have h2:=hcell 0;rw [show cs0[0]?=cs0.toList[0]? from (Array.getElem?_toList ..).symm,show cs0.toList[0]?=_ from h1] at h2;exact cD _ _ h2
 ·have h1:=hc i p hi;have h2:=hcell (i * 2);have h3:=hcell (i * 2+1);rw [<- Array.getElem?_toList,h1.1] at h2;rw [<- Array.getElem?_toList,h1.2] at h3;refine ⟨?_,?_⟩
  ·rw [Nat.zero_add];exact h2
  ·rw [Nat.zero_add];exact h3
end
end Go.Proofs.YtmknfbfppmkcfaaGreatDoor
