/-
  Parts of the proof: V41 A5 HA HB HC V68 HD KR.
-/
import Derived.Test.YtcfchohkmkilpaaGreatDoorLP0
import Derived.Test.YtcfchohkmkilpaaGreatDoorLP11
import Derived.Test.YtcfchohkmkilpaaGreatDoorLP5
import Derived.Test.YtcfchohkmkilpaaGreatDoorLP6
import Derived.Test.YtcfchohkmkilpaaGreatDoorLP3
import Derived.Test.YtcfchohkmkilpaaGreatDoorLP9
import Derived.Test.YtcfchohkmkilpaaGreatDoorLP2
import Derived.Test.YtcfchohkmkilpaaGreatDoorLP4
import Derived.Deep.LoopGhost
import Derived.RangeFuncBox
namespace Go.Proofs.YtcfchohkmkilpaaGreatDoor
set_option maxRecDepth 100000
set_option maxHeartbeats 16000000
section
open Go Go.RowKit Go.Maps
theorem eV {w:World} {b o:Nat} {x:Blk} (h:RBk w w.heap.size b o x):∃A1 c1 A2 c2 A3 c3 A4 c4,w.cell? ⟨b,o,none⟩=some (.slice A1 x.stmts.length c1)/\w.cell? ⟨b,o+1,none⟩=some (.int .i64 x.term.kind)/\w.cell? ⟨b,o+2,none⟩=some (.slice A2 x.term.targets.length c2)/\w.cell? ⟨b,o+3,none⟩=some (.slice A3 x.term.args.length c3)/\w.cell? ⟨b,o+4,none⟩=some (.int .i64 x.term.place.loc)/\w.cell? ⟨b,o+5,none⟩=some (.slice A4 x.term.place.proj.length c4)/\w.cell? ⟨b,o+6,none⟩=some (.string x.term.name)/\
 Slc 11 RSt w A1 c1 x.stmts/\Slc 1 RInt w A2 c2 x.term.targets/\Slc 4 ROp w A3 c3 x.term.args/\Slc 2 RPj w A4 c4 x.term.place.proj:=by
 obtain ⟨⟨A1,c1,h1,h2,h3,h4⟩,t0,⟨A2,c2,t1,t2,t3,t4⟩,⟨A3,c3,s1,s2,s3,s4⟩,⟨p0,A4,c4,p1,p2,p3,p4⟩,t5⟩:=h;exact ⟨A1,c1,A2,c2,A3,c3,A4,c4,h1,t0,t1,s1,p0,p1,t5,⟨h4,h2,h3⟩,⟨t4,t2,t3⟩,⟨s4,s2,s3⟩,⟨p4,p2,p3⟩⟩
theorem iY {w:World} {b o:Nat} {s:Stm} (h:RSt w w.heap.size b o s):∃A0 c0 A c B d,w.cell? ⟨b,o,none⟩=some (.int .i64 s.kind)/\w.cell? ⟨b,o+1,none⟩=some (.int .i64 s.place.loc)/\w.cell? ⟨b,o+2,none⟩=some (.slice A0 s.place.proj.length c0)/\w.cell? ⟨b,o+3,none⟩=some (.int .i64 s.rv.kind)/\w.cell? ⟨b,o+4,none⟩=some (.int .i64 s.rv.op)/\w.cell? ⟨b,o+5,none⟩=some (.int .i64 s.rv.reg)/\w.cell? ⟨b,o+6,none⟩=some (.bool s.rv.mu)/\w.cell? ⟨b,o+7,none⟩=some (.int .i64 s.rv.place.loc)/\w.cell? ⟨b,o+8,none⟩=some (.slice A s.rv.place.proj.length c)/\w.cell? ⟨b,o+9,none⟩=some (.slice B s.rv.args.length d)/\w.cell? ⟨b,o+10,none⟩=some (.int .i64 s.loc)/\
 Slc 2 RPj w A0 c0 s.place.proj/\Slc 2 RPj w A c s.rv.place.proj/\Slc 4 ROp w B d s.rv.args:=by
 obtain ⟨k0,⟨p0,A0,c0,p1,p2,p3,p4⟩,⟨v0,v1,v2,v3,⟨q0,A,c,q1,q2,q3,q4⟩,⟨B,d,a1,a2,a3,a4⟩⟩,l0⟩:=h;exact ⟨A0,c0,A,c,B,d,k0,p0,p1,v0,v1,v2,v3,q0,q1,a1,l0,⟨p4,p2,p3⟩,⟨q4,q2,q3⟩,⟨a4,a2,a3⟩⟩
def bkL (x:Blk) (A1:Option Addr) (c1:Nat) (A2:Option Addr) (c2:Nat) (A3:Option Addr) (c3:Nat) (A4:Option Addr) (c4:Nat):List Value:=[.slice A1 x.stmts.length c1,.int .i64 x.term.kind,.slice A2 x.term.targets.length c2,.slice A3 x.term.args.length c3,.int .i64 x.term.place.loc,.slice A4 x.term.place.proj.length c4,.string x.term.name]
theorem sQ (b:Bdy) (bh:BH) (w:World) (H:BdAt w b bh) (hT:TabsOk w):
 Calls Tryz.prog 44 #[.agg (bdC b bh).toArray] w fun e' w'=>e' = .returned (.int .i64 (chkB b))/\Below w.heap.size w w':=by
 have HD:=aF (fun (W:World) (hb:Below w.heap.size w W)=>xAW b bh W (H.keep hb));have HN:=aF (fun (W:World) (hb:Below w.heap.size w W) (h:declC b=0)=>xAI b bh W (H.keep hb) (eN h));have HH:=aF H;have HT:=aF hT;have hbl:=H.blk.le;have hbg:=H.blk.big;obtain ⟨R,hR⟩:∃R,chkB b=R:=⟨_,rfl⟩;rw [hR];have HR:Hid (R=if declC b=0 then bksE b b.blocks else declC b):=aF hR.symm;have HOK:=aF (fun h=>eN (b:=b) h);clear hR H hT;unfold bdC at *;by_cases hd:declC b=0
 case neg=>
  have HF:Hid (R=declC b):=aF (by rw [HR.out,aZ hd]);generalize declC b=de at HD HF hd;have e1:(de != 0)=true:=by simp [hd]
  clear HR HN HOK hd;go_enter Tryz.func44,Tryz.ntmps44
  go_wp2_with fail
  go_step3
  go_wp2_with (go_at_call 73;refine (HD.out _ ((aX _ _).alloc (aY _) _)).mono ?_;rintro e' w1 ⟨rfl,hb1⟩;have HB:=aF (((aX _ _).alloc (aY _) _).trans (hb1.mono ((aX _ _).alloc (aY _) _).size));have HY1:=aF (cP (cQ w [Value.string b.name,.slice bh.A1 b.regions.length bh.c1,.slice bh.A2 b.outl.length bh.c2,.slice bh.A3 b.types.length bh.c3,.slice bh.A4 b.locals.length bh.c4,.int .i64 b.args,.slice bh.A5 b.blocks.length bh.c5] 28) hb1);obtain ⟨y0,y1,y2,y3,y4,y5,y6⟩:=aS HY1.out;clear hb1)
  rw [Exit.noGoto_ret];go_ret;exact ⟨by rw [HF.out];rfl,HB.out⟩
 case pos=>
 have HF:Hid (R=bksE b b.blocks):=aF (by rw [HR.out,bA hd]);rw [hd] at HD;have HDOK:=aF (HOK.out hd);clear HR HOK;unfold ckC at HN;go_enter Tryz.func44,Tryz.ntmps44
 go_wp2_with fail
 go_step3
 go_wp2_with (first | (go_at_call 73;refine (HD.out _ ((aX _ _).alloc (aY _) _)).mono ?_;rintro e' w1 ⟨rfl,hb1⟩;have HB:=aF (((aX _ _).alloc (aY _) _).trans (hb1.mono ((aX _ _).alloc (aY _) _).size));have HY1:=aF (cP (cQ w [Value.string b.name,.slice bh.A1 b.regions.length bh.c1,.slice bh.A2 b.outl.length bh.c2,.slice bh.A3 b.types.length bh.c3,.slice bh.A4 b.locals.length bh.c4,.int .i64 b.args,.slice bh.A5 b.blocks.length bh.c5] 28) hb1);obtain ⟨y0,y1,y2,y3,y4,y5,y6⟩:=aS HY1.out;clear hb1) | (go_at_call 74;refine (HN.out _ HB.out hd).mono ?_;rintro e' w2 ⟨r,rfl,hck,hb2⟩;have HCK2:=aF hck;have HB2:=aF (HB.out.trans (hb2.mono HB.out.size));have HY2:=aF (cP HY1.out hb2);clear y0 y1 y2 y3 y4 y5 y6;obtain ⟨y0,y1,y2,y3,y4,y5,y6⟩:=aS HY2.out;have hsz2:w.heap.size<w2.heap.size:=bN (by have:=HB.out.size;have h9:=cD _ _ (HY1.out 0 _ rfl);exact h9) hb2.size;clear hck hb2))
 go_step3
 go_wp2_with fail
 have HSM:=aF (fun (W:World) (hb:Below w2.heap.size w2 W) (s:Stm) (A0 A B:Option Addr) (c0 c d:Nat) (hp0:Slc 2 RPj w2 A0 c0 s.place.proj) (hp:Slc 2 RPj w2 A c s.rv.place.proj) (hl:Slc 4 ROp w2 B d s.rv.args)=>yZ (HCK2.out.keep hb) ((HT.out.keep HB2.out).keep hb) s A0 A B c0 c d (hp0.keep RPj.keeps hb) (hp.keep RPj.keeps hb) (hl.keep ROp.keeps hb));have HTM:=aF (fun (W:World) (hb:Below w2.heap.size w2 W) (t:Trm) (A B C:Option Addr) (c d f:Nat) (ht:Slc 1 RInt w2 A c t.targets) (hl:Slc 4 ROp w2 B d t.args) (hp:Slc 2 RPj w2 C f t.place.proj)=>yS (HCK2.out.keep hb) t A B C c d f (ht.keep RInt.keeps hb) (hl.keep ROp.keeps hb) (hp.keep RPj.keeps hb));have HBLK:=aF HCK2.out.at_.blk;have HCC:=aF (cQ w2 (ckC b bh r) 118);unfold ckC at HSM HTM HCC;obtain ⟨bb,oo,hA5,hbb,hel⟩:=HBLK.out.sl HDOK.out.nblk.1;have HEL:=aF hel;clear hel;rw [hA5] at HSM HTM HCC ⊢;rw [hA5] at y6;clear y0 y1 y2 y3 y4 y5 y6 HD HN hd;go_loopg [3,19] b.blocks.length (fun gk e i wr=>∃k:Nat,gk=b.blocks.length - k/\k<=b.blocks.length/\e = .int .i64 0/\i = .int .i64 k/\Hid (aA (bdM b bh.A1 bh.c1 bh.A2 bh.c2 bh.A3 bh.c3 bh.A4 bh.c4 (some ⟨bb,oo,none⟩) bh.c5 [.pointer (some ⟨r,0,none⟩)]) wr w2.heap.size)/\Hid (Below w2.heap.size w2 wr)/\w2.heap.size+1<=wr.heap.size/\Hid (R=bksE b (b.blocks.drop k)))
 case atStart=>exact ⟨0,by omega,by omega,rfl,rfl,HCC,aF ((aX _ _).alloc (aY _) _),by simp,HF⟩
 case round=>
  clear HCC HF;obtain ⟨k,hgk,hk,rfl,rfl,HCC,HB3,hsz3,hr⟩:=hrel;have hlw3:w2.heap.size<wr.heap.size:=hsz3;by_cases hlt:k<b.blocks.length
  ·have hd:=cV hlt;have hx:=HEL.out k _ (bD hlt);obtain ⟨x,hxx⟩:∃x,b.blocks[k]=x:=⟨_,rfl⟩;rw [hxx] at hd hx;obtain ⟨A1,c1,A2,c2,A3,c3,A4,c4,p0,p1,p2,p3,p4,p5,p6,hs1,hs2,hs3,hs4⟩:=eV hx;have HQ:Hid (R=if bkE b x=0 then bksE b (b.blocks.drop (k+1)) else bkE b x):=aF (by rw [hr.out,hd,bksE]);have HS1:=aF hs1;have hl1:=hs1.le;have hg1:=hs1.big;have HTT:=aF (fun W hb=>HTM.out W hb x.term A2 A3 A4 c2 c3 c4 hs2 hs3 hs4);unfold tmC at HTT;replace p0:=cO HB3.out p0;replace p1:=cO HB3.out p1;replace p2:=cO HB3.out p2;replace p3:=cO HB3.out p3;replace p4:=cO HB3.out p4;replace p5:=cO HB3.out p5;replace p6:=cO HB3.out p6;clear hd hx hxx hr hs1 hs2 hs3 hs4;by_cases hln:65535<x.stmts.length
   ·have HF:Hid (R=15):=aF (by rw [HQ.out];unfold bkE;rw [bA hln];rfl);clear HQ;go_wp2_with fail
    rw [Exit.noGoto_ret];go_ret;exact ⟨by rw [HF.out];rfl,(HB2.out.trans (HB3.out.mono HB2.out.size)).alloc (bX HB2.out.size HB3.out.size) _⟩
   have HQ2:Hid (R=if stsE b (x.stmts.drop 0)=0 then (if tmE b x.term=0 then bksE b (b.blocks.drop (k+1)) else tmE b x.term) else stsE b (x.stmts.drop 0)):=aF (by
    rw [HQ.out,bW];unfold bkE;rw [aZ hln]
    by_cases h:stsE b x.stmts=0 <;> simp [h])
   have HBK:=aF (cQ wr (bkL x A1 c1 A2 c2 A3 c3 A4 c4) 55);have HCC2:Hid (∀i v,[Value.string b.name,.slice bh.A1 b.regions.length bh.c1,.slice bh.A2 b.outl.length bh.c2,.slice bh.A3 b.types.length bh.c3,.slice bh.A4 b.locals.length bh.c4,.int .i64 b.args,.slice (some ⟨bb,oo,none⟩) b.blocks.length bh.c5,.pointer (some ⟨r,0,none⟩)][i]?=some v->(wr.alloc (.cells (bkL x A1 c1 A2 c2 A3 c3 A4 c4).toArray 55)).cell? ⟨w2.heap.size,i,none⟩=some v):=aF (fun i v hi=>cO ((aX _ _).alloc (aY _) _) (HCC.out i v hi));have HB4:=aF (HB3.out.alloc (Nat.le_of_lt hlw3) (.cells (bkL x A1 c1 A2 c2 A3 c3 A4 c4).toArray 55));clear HQ;go_wp2_with fail
   go_loopg [3,30] x.stmts.length (fun gj e i wr2=>∃j:Nat,gj=x.stmts.length - j/\j<=x.stmts.length/\e = .int .i64 0/\i = .int .i64 j/\Hid (aA (bdM b bh.A1 bh.c1 bh.A2 bh.c2 bh.A3 bh.c3 bh.A4 bh.c4 (some ⟨bb,oo,none⟩) bh.c5 [.pointer (some ⟨r,0,none⟩)]) wr2 w2.heap.size)/\Hid (aA (bkL x A1 c1 A2 c2 A3 c3 A4 c4) wr2 wr.heap.size)/\Hid (Below w2.heap.size w2 wr2)/\wr.heap.size+1<=wr2.heap.size/\Hid (R=if stsE b (x.stmts.drop j)=0 then (if tmE b x.term=0 then bksE b (b.blocks.drop (k+1)) else tmE b x.term) else stsE b (x.stmts.drop j)))
   case atStart=>exact ⟨0,by omega,by omega,rfl,rfl,HCC2,HBK,HB4,by simp,HQ2⟩
   case round=>
    clear HCC2 HBK HB4 HQ2 p0 p1 p2 p3 p4 p5 p6 HCC HB3;obtain ⟨j,hgj,hj,rfl,rfl,HCC,HBK,HB5,hsz5,hr⟩:=hrel;have hlw5:=Nat.lt_of_succ_le hsz5;have hlw6:=Nat.lt_trans hlw3 hlw5;obtain ⟨v0,v1,v2,v3,v4,v5,v6,v7⟩:=aT HCC.out;by_cases hjl:j<x.stmts.length
    ·have hd:=cV hjl;obtain ⟨b3,o3,rfl,hb3,hy⟩:=HS1.out.sl.at_ hjl;obtain ⟨s,hss⟩:∃s,x.stmts[j]=s:=⟨_,rfl⟩;rw [hss] at hd hy;obtain ⟨B0,d0,B1,d1,B2,d2,m0,m1,m2,m3,m4,m5,m6,m7,m8,m9,m10,hp0,hp,hl⟩:=iY hy;have HSS:=aF (fun W hb=>HSM.out W hb s B0 B1 B2 d0 d1 d2 hp0 hp hl);unfold stC at HSS;replace m0:=cO HB5.out m0;replace m1:=cO HB5.out m1;replace m2:=cO HB5.out m2;replace m3:=cO HB5.out m3;replace m4:=cO HB5.out m4;replace m5:=cO HB5.out m5;replace m6:=cO HB5.out m6;replace m7:=cO HB5.out m7;replace m8:=cO HB5.out m8;replace m9:=cO HB5.out m9;replace m10:=cO HB5.out m10
     have HQ3:Hid ((stE b s=0->R=if stsE b (x.stmts.drop (j+1))=0 then (if tmE b x.term=0 then bksE b (b.blocks.drop (k+1)) else tmE b x.term) else stsE b (x.stmts.drop (j+1)))/\(stE b s≠0->R=stE b s)):=aF (by
      rw [hr.out,hd];constructor
      ·intro h;rw [show stsE b (s :: x.stmts.drop (j+1))=stsE b (x.stmts.drop (j+1)) from by rw [stsE,bA h]]
      ·intro h;rw [show stsE b (s :: x.stmts.drop (j+1))=stE b s from by rw [stsE,aZ h],aZ h])
     have HB6:=aF (HB5.out.alloc (Nat.le_of_lt hlw6) (.cells (stC s B0 d0 B1 d1 B2 d2).toArray 73));generalize stE b s=es at HSS HQ3;clear hd hy hss hp0 hp hl hr;by_cases he:es=0
     ·subst he;have HF:=aF (HQ3.out.1 rfl);clear HQ3;go_wp2_with (go_at_call 75;refine (HSS.out _ HB6.out).mono ?_;rintro e' w5 ⟨rfl,hb5⟩;have HB7:=aF (HB6.out.trans (hb5.mono HB6.out.size));have HC7:=aF (dN HCC.out hb5);have HK7:=aF (dN HBK.out hb5);have hsz7:=hb5.size;simp only [bI] at hsz7;clear hb5)
      go_roundg (x.stmts.length - (j+1))
      case measure=>omega
      case rel=>exact ⟨j+1,rfl,by omega,rfl,by go_num,HC7,HK7,HB7,by omega,HF⟩
     ·have HF:=aF (HQ3.out.2 he);have e1:(es != 0)=true:=by simp [he]
      clear HQ3 he;go_wp2_with (go_at_call 75;refine (HSS.out _ HB6.out).mono ?_;rintro e' w5 ⟨rfl,hb5⟩;have HB7:=aF (HB6.out.trans (hb5.mono HB6.out.size));clear hb5)
      rw [Exit.noGoto_ret];go_ret;exact ⟨by rw [HF.out];rfl,HB2.out.trans (HB7.out.mono HB2.out.size)⟩
    ·have HQ3:Hid (R=if tmE b x.term=0 then bksE b (b.blocks.drop (k+1)) else tmE b x.term):=aF (by rw [hr.out,bE (by omega:x.stmts.length<=j)];rfl);obtain ⟨k0,k1,k2,k3,k4,k5,k6⟩:=aS HBK.out;generalize tmE b x.term=et at HTT HQ3;clear hr;by_cases he:et=0
     ·subst he;have HF:Hid (R=bksE b (b.blocks.drop (k+1))):=aF (by rw [HQ3.out];rfl);clear HQ3;go_wp2_with (go_at_call 76;refine (HTT.out _ HB5.out).mono ?_;rintro e' w5 ⟨rfl,hb5⟩;have HB7:=aF (HB5.out.trans (hb5.mono HB5.out.size));have HC7:=aF (cP HCC.out hb5);have hsz7:=hb5.size;clear hb5)
      go_roundg (b.blocks.length - (k+1))
      case measure=>omega
      case rel=>exact ⟨k+1,rfl,by omega,rfl,by go_num,HC7,HB7,by omega,HF⟩
     ·have HF:Hid (R=et):=aF (by rw [HQ3.out,aZ he]);have e1:(et == 0)=false:=by simp [he]
      clear HQ3 he;go_wp2_with (go_at_call 76;refine (HTT.out _ HB5.out).mono ?_;rintro e' w5 ⟨rfl,hb5⟩;have HB7:=aF (HB5.out.trans (hb5.mono HB5.out.size));clear hb5)
      rw [Exit.noGoto_ret];go_ret;exact ⟨by rw [HF.out];rfl,HB2.out.trans (HB7.out.mono HB2.out.size)⟩
  ·have HF:Hid (R=0):=aF (by rw [hr.out,bE (by omega:b.blocks.length<=k)];rfl);clear hr;go_wp2_with fail
   rw [Exit.noGoto_ret];go_ret;exact ⟨by rw [HF.out];rfl,HB2.out.trans (HB3.out.mono HB2.out.size)⟩
end
section
open Go Go.RowKit
def cntP:List Blk->Nat
 | []=>0
 | x :: xs=>(x.stmts.length+1)+cntP xs
theorem xO (l:List Blk) (x:Blk):cntP (l ++ [x])=cntP l+(x.stmts.length+1):=by
 induction l with
 | nil=>simp [cntP]
 | cons y l ih=>simp only [List.cons_append,cntP,ih];omega
theorem kO {l:List Blk} {k:Nat} (h:k<l.length):cntP (l.take (k+1))=cntP (l.take k)+(l[k].stmts.length+1):=by
 rw [bF h,xO]
theorem xDX {l:List Blk} {m:Nat} (h:∀x∈l,x.stmts.length<=m):cntP l<=(m+1) * l.length:=by
 induction l with
 | nil=>simp [cntP]
 | cons y l ih=>
   have h1:=h y (by simp);have h2:=ih (fun x hx=>h x (by simp [hx]));simp only [cntP,bK,Nat.mul_add];omega
theorem oF {l:List Blk} (k:Nat):cntP (l.take k)<=cntP l:=by
 induction l generalizing k with
 | nil=>simp [cntP]
 | cons y l ih=>
   cases k with
   | zero=>simp [cntP]
   | succ k=>simp only [List.take_succ_cons,cntP];have:=ih k;omega
theorem xU {w:World} {B b o:Nat} {x:Blk} (h:RBk w B b o x):∃A c,w.cell? ⟨b,o,none⟩=some (.slice A x.stmts.length c)/\x.stmts.length<=9223372036854775807:=by
 obtain ⟨⟨A,c,h1,h2,h3,_⟩,_⟩:=h;exact ⟨A,c,h1,by omega⟩
theorem lB (b:Bdy) (bh:BH) (n:Nat) (w:World) (H:BdAt w b bh) (hn:n<=b.blocks.length):
 Calls Tryz.prog 22 #[.agg (bdC b bh).toArray,.int .i64 n] w fun e' w'=>(∃q:Int,e' = .returned (.int .i64 q)/\Hid (cntP (b.blocks.take n)<=4611686018427387904->q=cntP (b.blocks.take n)))/\Below w.heap.size w w':=by
 obtain ⟨A1,c1,A2,c2,A3,c3,A4,c4,A5,c5⟩:=bh;have hbl:=H.blk.le;have hbg:=H.blk.big;have HBK:=aF H.blk;simp only at hbl hbg HBK;have HCW:=aF (cQ w [Value.string b.name,.slice A1 b.regions.length c1,.slice A2 b.outl.length c2,.slice A3 b.types.length c3,.slice A4 b.locals.length c4,.int .i64 b.args,.slice A5 b.blocks.length c5] 28);have HBW:=aF ((aX w.heap.size w).alloc (aY _) (.cells ([Value.string b.name,.slice A1 b.regions.length c1,.slice A2 b.outl.length c2,.slice A3 b.types.length c3,.slice A4 b.locals.length c4,.int .i64 b.args,.slice A5 b.blocks.length c5]).toArray 28));have y6:(w.alloc (.cells ([Value.string b.name,.slice A1 b.regions.length c1,.slice A2 b.outl.length c2,.slice A3 b.types.length c3,.slice A4 b.locals.length c4,.int .i64 b.args,.slice A5 b.blocks.length c5]).toArray 28)).cell? ⟨w.heap.size,6,none⟩=some (.slice A5 b.blocks.length c5):=HCW.out 6 _ rfl;clear H HCW;unfold bdC;simp only;go_enter Tryz.func22,Tryz.ntmps22
 go_wp2_with fail
 go_loopw [5,6] (fun m i wr=>∃(k:Nat) (q:Int),k<=n/\i = .int .i64 k/\m = .int .i64 q/\Hid (cntP (b.blocks.take k)<=4611686018427387904->q=cntP (b.blocks.take k))/\wr=w.alloc (.cells ([Value.string b.name,.slice A1 b.regions.length c1,.slice A2 b.outl.length c2,.slice A3 b.types.length c3,.slice A4 b.locals.length c4,.int .i64 b.args,.slice A5 b.blocks.length c5]).toArray 28)) (fun _ i _=>n - (intOf i).toNat)
 case atStart=>exact ⟨0,0,by omega,rfl,rfl,aF (by simp [cntP]),rfl⟩
 case round=>
  obtain ⟨k,q,hk,rfl,rfl,HQ,rfl⟩:=hrel;by_cases hlt:k<n
  ·have hlt2:k<b.blocks.length:=by omega
   obtain ⟨bb,oo,rfl,hbb,hx⟩:=(HBK.out.keep RBk.keeps HBW.out).sl.at_ hlt2;obtain ⟨SA,sc,x0,x1⟩:=xU hx;have HT:=aF (kO hlt2);generalize (b.blocks[k]).stmts.length=m at *;have hkn:(k:Int)<n:=by omega
   have hkn2:(k:Int)<b.blocks.length:=by omega
   clear hx;go_wp2_with fail
   go_roundw
   case rel=>
    refine ⟨k+1,_,by omega,by go_num,rfl,aF (fun h=>?_),by first | rfl | trivial⟩;have h1:=HT.out;have h2:=HQ.out (by omega);try unfold wrap64
    omega
   case measure=>simp [intOf];omega
  ·obtain rfl:k=n:=by omega
   go_wp2_with fail
   all_goals first
    | (go_ret;exact ⟨⟨_,rfl,HQ⟩,HBW.out⟩)
    | (exfalso;omega)
theorem rcount_any' (b:Bdy) (bh:BH) (w:World) (H:BdAt w b bh):
 Calls Tryz.prog 17 #[.agg (bdC b bh).toArray] w fun e' w'=>(∃q:Int,e' = .returned (.int .i64 q)/\Hid (cntP b.blocks<=4611686018427387904->q=cntP b.blocks))/\Below w.heap.size w w':=by
 obtain ⟨A1,c1,A2,c2,A3,c3,A4,c4,A5,c5⟩:=bh;have hbl:=H.blk.le;have hbg:=H.blk.big;simp only at hbl hbg;have HBW:=aF ((aX w.heap.size w).alloc (aY _) (.cells ([Value.string b.name,.slice A1 b.regions.length c1,.slice A2 b.outl.length c2,.slice A3 b.types.length c3,.slice A4 b.locals.length c4,.int .i64 b.args,.slice A5 b.blocks.length c5]).toArray 28));have HF:Hid (Calls Tryz.prog 22 #[.agg ([Value.string b.name,.slice A1 b.regions.length c1,.slice A2 b.outl.length c2,.slice A3 b.types.length c3,.slice A4 b.locals.length c4,.int .i64 b.args,.slice A5 b.blocks.length c5]).toArray,.int .i64 b.blocks.length] (w.alloc (.cells ([Value.string b.name,.slice A1 b.regions.length c1,.slice A2 b.outl.length c2,.slice A3 b.types.length c3,.slice A4 b.locals.length c4,.int .i64 b.args,.slice A5 b.blocks.length c5]).toArray 28)) _):=aF (lB b ⟨A1,c1,A2,c2,A3,c3,A4,c4,A5,c5⟩ b.blocks.length _ (H.keep HBW.out) (aY _));rw [bZ] at HF;clear H;unfold bdC;simp only;go_enter Tryz.func17,Tryz.ntmps17
 go_wp2_with (go_at_call 22;refine HF.out.mono ?_;rintro e' w1 ⟨⟨q,rfl,HQ⟩,hb⟩)
 go_ret;exact ⟨⟨_,rfl,HQ⟩,HBW.out.trans (hb.mono HBW.out.size)⟩
def stL (l:List Blk) (k:Nat):List Int:=(List.range (k+1)).map (fun i=>((cntP (l.take i):Nat):Int))
theorem zA (l:List Blk):stL l 0=[0]:=by simp [stL,cntP]
theorem gG (l:List Blk) (k:Nat):(stL l k).length=k+1:=by simp [stL]
theorem vI (l:List Blk) {k i:Nat} (h:i<=k):(stL l k)[i]?=some ((cntP (l.take i):Nat):Int):=by
 simp [stL,show i<k+1 by omega]
theorem zB (l:List Blk) (k:Nat):stL l (k+1)=stL l k ++ [((cntP (l.take (k+1)):Nat):Int)]:=by
 unfold stL;rw [List.range_succ,bS];rfl
theorem wG (w:World) (x:Value) (e:TypeId) (base:Nat) (hb:base<=w.heap.size):(w.alloc (.cells #[x] e)).ownsRow base e 1 (.slice (some ⟨w.heap.size,0,none⟩) 1 1) 1 [x]:=
 ⟨rfl,.inr ⟨w.heap.size,1,#[x],rfl,hb,heap_alloc_new w _,aY _,by decide,rfl,rfl⟩⟩
theorem kZ (b:Bdy) (bh:BH) (w:World) (H:BdAt w b bh) (hz:cntP b.blocks<=4611686018427387904) (hl:b.blocks.length<=1000000):
 Calls Tryz.prog 85 #[.agg (bdC b bh).toArray] w fun e' w'=>(∃A c,e' = .returned (.slice A (b.blocks.length+1) c)/\Slc 1 RInt w' A c (stL b.blocks b.blocks.length))/\Below w.heap.size w w':=by
 obtain ⟨A1,c1,A2,c2,A3,c3,A4,c4,A5,c5⟩:=bh;have hbl:=H.blk.le;have hbg:=H.blk.big;have HBK:=aF H.blk;have HZ:=aF hz;simp only at hbl hbg HBK;obtain ⟨i0,hi,hz0,hz1,hz2⟩:=info_parts dU;have HCW:=aF (cQ w [Value.string b.name,.slice A1 b.regions.length c1,.slice A2 b.outl.length c2,.slice A3 b.types.length c3,.slice A4 b.locals.length c4,.int .i64 b.args,.slice A5 b.blocks.length c5] 28);have HBW:=aF ((aX w.heap.size w).alloc (aY _) (.cells ([Value.string b.name,.slice A1 b.regions.length c1,.slice A2 b.outl.length c2,.slice A3 b.types.length c3,.slice A4 b.locals.length c4,.int .i64 b.args,.slice A5 b.blocks.length c5]).toArray 28));have y6:(w.alloc (.cells ([Value.string b.name,.slice A1 b.regions.length c1,.slice A2 b.outl.length c2,.slice A3 b.types.length c3,.slice A4 b.locals.length c4,.int .i64 b.args,.slice A5 b.blocks.length c5]).toArray 28)).cell? ⟨w.heap.size,6,none⟩=some (.slice A5 b.blocks.length c5):=HCW.out 6 _ rfl;clear H HCW hz;unfold bdC;simp only;go_enter Tryz.func85,Tryz.ntmps85
 go_wp2_with fail
 have hz0':w.heap.size+1<=((w.alloc (.cells ([Value.string b.name,.slice A1 b.regions.length c1,.slice A2 b.outl.length c2,.slice A3 b.types.length c3,.slice A4 b.locals.length c4,.int .i64 b.args,.slice A5 b.blocks.length c5]).toArray 28)).alloc (.cells #[.int .i64 0] 3)).heap.size:=by simp
 have HO0:Hid (((w.alloc (.cells ([Value.string b.name,.slice A1 b.regions.length c1,.slice A2 b.outl.length c2,.slice A3 b.types.length c3,.slice A4 b.locals.length c4,.int .i64 b.args,.slice A5 b.blocks.length c5]).toArray 28)).alloc (.cells #[.int .i64 0] 3)).ownsRow (w.heap.size+1) 3 1 (.slice (some ⟨w.heap.size+1,0,none⟩) 1 1) 1 ((stL b.blocks 0).map (Value.int .i64))):=aF (by
  rw [zA];have h:=wG (w.alloc (.cells ([Value.string b.name,.slice A1 b.regions.length c1,.slice A2 b.outl.length c2,.slice A3 b.types.length c3,.slice A4 b.locals.length c4,.int .i64 b.args,.slice A5 b.blocks.length c5]).toArray 28)) (.int .i64 0) 3 (w.heap.size+1) (by simp)
  rwa [bI] at h)
 have HB1:Hid (Below w.heap.size w ((w.alloc (.cells ([Value.string b.name,.slice A1 b.regions.length c1,.slice A2 b.outl.length c2,.slice A3 b.types.length c3,.slice A4 b.locals.length c4,.int .i64 b.args,.slice A5 b.blocks.length c5]).toArray 28)).alloc (.cells #[.int .i64 0] 3))):=aF (HBW.out.alloc (by simp) _);go_loopw [3,10] (fun v i wr=>∃k:Nat,k<=b.blocks.length/\i = .int .i64 k/\Hid (wr.ownsRow (w.heap.size+1) 3 1 v (k+1) ((stL b.blocks k).map (Value.int .i64)))/\Hid (Below w.heap.size w wr)) (fun _ i _=>b.blocks.length - (intOf i).toNat)
 case atStart=>exact ⟨0,by omega,rfl,HO0,HB1⟩
 case round=>
  clear HO0 HB1 hz0';obtain ⟨k,hk,rfl,HO,HB⟩:=hrel;obtain ⟨g,cap,rfl⟩:=ownsRow_succ HO.out;have hsz:=HB.out.size;have hgl:=(HO.out.lt g rfl);by_cases hlt:k<b.blocks.length
  case neg=>
   obtain rfl:k=b.blocks.length:=by omega
   have HSL:=fD (R:=RInt) (enc:=Value.int .i64) (fun w B b o x h=>h) HO.out (gG _ _);have HS:=aF HSL;clear HSL hgl;go_wp2_with fail
   go_ret;obtain ⟨A,c,e,hs,-⟩:=HS.out;exact ⟨⟨A,c,by rw [e];rfl,hs⟩,HB.out⟩
  case pos=>
  obtain ⟨bb,oo,rfl,hbb,y⟩:=HBK.out.sl.at_ hlt;obtain ⟨S1,d1,S2,d2,S3,d3,S4,d4,h0,h1,h2,h3,h4,h5,h6,q1,q2,q3,q4⟩:=eV y;have g0:=(HB.out.cell (p:=⟨bb,oo+k * 7,none⟩) hbb).trans h0;have g1:=(HB.out.cell (p:=⟨bb,oo+k * 7+1,none⟩) hbb).trans h1;have g2:=(HB.out.cell (p:=⟨bb,oo+k * 7+2,none⟩) hbb).trans h2;have g3:=(HB.out.cell (p:=⟨bb,oo+k * 7+3,none⟩) hbb).trans h3;have g4:=(HB.out.cell (p:=⟨bb,oo+k * 7+4,none⟩) hbb).trans h4;have g5:=(HB.out.cell (p:=⟨bb,oo+k * 7+5,none⟩) hbb).trans h5;have g6:=(HB.out.cell (p:=⟨bb,oo+k * 7+6,none⟩) hbb).trans h6;have HT:=aF (kO hlt);have hle2:=oF (l:=b.blocks) (k+1);have hZ2:cntP (b.blocks.take (k+1))<=4611686018427387904:=bX hle2 HZ.out;have HSU:=aF (zB b.blocks k);have hcell:=HO.out.cells (g:=g) rfl k (.int .i64 (cntP (b.blocks.take k))) (by rw [cN,vI _ (aY k)];rfl);rw [add0] at hcell;generalize b.blocks[k]=x at *;obtain ⟨xs,tk,tg,ar,⟨tl,tp⟩,tn⟩:=x;simp only at g0 g1 g2 g3 g4 g5 g6 HT;clear h0 h1 h2 h3 h4 h5 h6 q1 q2 q3 q4 y hle2;rw [HT.out] at hZ2 HSU;obtain ⟨m,hm⟩:∃m,xs.length=m:=⟨_,rfl⟩;obtain ⟨c,hc⟩:∃c,cntP (b.blocks.take k)=c:=⟨_,rfl⟩;rw [hm] at HSU hZ2 g0;rw [hc] at HSU hZ2 hcell;have hw1:IntKind.i64.wrap ((c:Int)+(m:Int))=((c+m:Nat):Int):=by rw [IntKind.wrap_i64];omega
  have hw2:IntKind.i64.wrap (((c+m:Nat):Int)+1)=((c+(m+1):Nat):Int):=by rw [IntKind.wrap_i64];omega
  clear hm hc HT;go_wp2_with fail
  obtain ⟨W1,hW1⟩:∃W,wr.alloc (.cells #[.slice S1 m d1,.int .i64 tk,.slice S2 tg.length d2,.slice S3 ar.length d3,.int .i64 tl,.slice S4 tp.length d4,.string tn] 55)=W:=⟨_,rfl⟩;have hbW:Below wr.heap.size wr W1:=by rw [<- hW1];exact (aX _ _).alloc (aY _) _
  have hnew:=cQ wr [.slice S1 m d1,.int .i64 tk,.slice S2 tg.length d2,.slice S3 ar.length d3,.int .i64 tl,.slice S4 tp.length d4,.string tn] 55 0 _ rfl;simp only [hW1] at hnew;have HO1:Hid (W1.ownsRow (w.heap.size+1) 3 1 (.slice (some ⟨g,0,none⟩) (k+1) cap) (k+1) ((stL b.blocks k).map (Value.int .i64))):=aF (dG HO.out hbW);have HBB:=aF (HB.out.trans (hbW.mono hsz));try rw [hW1]
  have hkk:(k:Int)<(k:Int)+1:=by omega
  have hS:W1.drew.cell? ⟨g,k,none⟩=some (.int .i64 c)/\W1.drew.cell? ⟨wr.heap.size,0,none⟩=some (.slice S1 m d1):=⟨cO hbW.drew hcell,hnew⟩;refine eI (S:=fun X=>X.cell? ⟨g,k,none⟩=some (.int .i64 c)/\X.cell? ⟨wr.heap.size,0,none⟩=some (.slice S1 m d1)) 11 [0,1,2,3,4,5,6,7,8,9,10,11,12] (by kernel_rfl) ?_;(iterate 8 (refine jI (v:=?_) (by kernel_rfl) (fun _ _ _ h=>h) (Or.inl ⟨by rfl,?_⟩) hS ?_;rotate_left;(next=>(rintro X ⟨s1,s2⟩;(try simp only [aI]);go_simp;rfl));simp only [aM]));refine jI (v:= .int .i64 ((c+m:Nat):Int)) (by kernel_rfl) (fun _ _ _ h=>h) (Or.inl ⟨by rfl,?_⟩) hS ?_
  ·rintro X -
   (try simp only [aI]);go_simp
  (simp only [aM]);refine jI (v:= .int .i64 ((c+(m+1):Nat):Int)) (by kernel_rfl) (fun _ _ _ h=>h) (Or.inl ⟨by rfl,?_⟩) hS ?_
  ·rintro X -
   (try simp only [aI]);go_simp;first | rfl | (rw [IntKind.wrap_i64];omega)
  (simp only [aM]);(refine cY (fun K1 hK1=>?_);simp only [aM];rw [bA (by rfl)];go_simp);have hbn:Below W1.heap.size W1 (W1.alloc (.cells #[.int .i64 (((c+(m+1):Nat):Int))] 3)):=(aX _ _).alloc (aY _) _;have hnx:=gI W1 [.int .i64 (((c+(m+1):Nat):Int))] 3;have hO2:=dG HO1.out hbn.drew;obtain ⟨W2,hW2⟩:∃W,(W1.alloc (.cells #[.int .i64 (((c+(m+1):Nat):Int))] 3)).drew=W:=⟨_,rfl⟩;push_cast at hW2
  try rw [hW2]
  have hbn2:Below W1.heap.size W1 W2:=by rw [<- hW2];exact hbn.drew
  have hO3:W2.ownsRow (w.heap.size+1) 3 1 (.slice (some ⟨g,0,none⟩) (k+1) cap) (k+1) ((stL b.blocks k).map (Value.int .i64)):=dG HO1.out hbn2
  have hnx2:∀j u,[Value.int .i64 ((c+(m+1):Nat):Int)][j]?=some u->W2.cell? ((⟨W1.heap.size,0,none⟩:Addr).add j)=some u:=fun j u hj=>by
   rw [add0,<- hW2];exact hnx j u hj
  have hS2:W2.cell? ⟨g,k,none⟩=some (.int .i64 c)/\W2.cell? ⟨wr.heap.size,0,none⟩=some (.slice S1 m d1):=⟨cO hbn2 hS.1,cO hbn2 hS.2⟩;have hB2:Below w.heap.size w W2:=HBB.out.trans (hbn2.mono HBB.out.size);have hsz2:=hB2.size;have hw1s:W1.heap.size<W2.heap.size:=by rw [<- hW2];simp
  refine hK1.out _ _ (fun _=>hS2) ?_;clear hK1;(refine cY (fun K1 hK1=>?_);simp only [aM];rw [bA (by rfl)]);refine fM (.tmp 15) (.tmp 25) 34 rfl (w.heap.size+1) 3 i0 (.int .i64 0) 1 8 Tryz.underlying34 hi hz0 hz1 hz2 rfl (by decide) (.slice (some ⟨g,0,none⟩) (k+1) cap) (k+1) _ rfl hO3 ⟨W1.heap.size,0,none⟩ 1 1 [.int .i64 ((c+(m+1):Nat):Int)] rfl rfl hnx2 (fun u hu=>by simp at hu;subst hu;rfl) (by unfold maxLen;omega) (by omega) (by have:=HBB.out.size;have:=hbW.size;omega) ?_;intro v' w5 hown' hgrow _;obtain ⟨B5,d5,hv⟩:=dE hown';subst hv;have HO5:Hid (w5.ownsRow (w.heap.size+1) 3 1 (.slice B5 (k+1+1) d5) (k+1+1) ((stL b.blocks (k+1)).map (Value.int .i64))):=aF (by rw [HSU.out,bS];exact hown');have HB5:=aF (hB2.grown hgrow (by omega) (fun q hq=>by have:=(hO3.lt q hq).1;omega));refine hK1.out _ _ (fun h=>absurd h (by decide)) ?_;clear hK1 hown' hgrow hO3 hnx2 hS2 hS hW2 hbn hbn2 hB2 hnx hO2;(refine cY (fun K1 hK1=>?_);simp only [aM];rw [bA (by rfl)];go_simp);refine hK1.out _ _ (fun h=>absurd h (by decide)) ?_;refine cZ ?_;go_wp2_with fail
  go_roundw
  case rel=>exact ⟨k+1,by omega,by go_num,HO5,HB5⟩
  case measure=>simp [intOf];omega
theorem tZ (b:Bdy) (bh:BH) (w:World) (H:BdAt w b bh) (hz:cntP b.blocks<=4611686018427387904) (hl:b.blocks.length<=1000000):
 Calls Tryz.prog 52 #[.agg (bdC b bh).toArray] w fun e' w'=>e' = .returned (.int .i64 (cntP b.blocks))/\Below w.heap.size w w':=by
 obtain ⟨A1,c1,A2,c2,A3,c3,A4,c4,A5,c5⟩:=bh;have hbl:=H.blk.le;have hbg:=H.blk.big;simp only at hbl hbg;have HBW:=aF ((aX w.heap.size w).alloc (aY _) (.cells ([Value.string b.name,.slice A1 b.regions.length c1,.slice A2 b.outl.length c2,.slice A3 b.types.length c3,.slice A4 b.locals.length c4,.int .i64 b.args,.slice A5 b.blocks.length c5]).toArray 28))
 have HF:Hid (Calls Tryz.prog 85 #[.agg ([Value.string b.name,.slice A1 b.regions.length c1,.slice A2 b.outl.length c2,.slice A3 b.types.length c3,.slice A4 b.locals.length c4,.int .i64 b.args,.slice A5 b.blocks.length c5]).toArray] (w.alloc (.cells ([Value.string b.name,.slice A1 b.regions.length c1,.slice A2 b.outl.length c2,.slice A3 b.types.length c3,.slice A4 b.locals.length c4,.int .i64 b.args,.slice A5 b.blocks.length c5]).toArray 28)) fun e' w'=>∃g o c,e' = .returned (.slice (some ⟨g,o,none⟩) (b.blocks.length+1) c)/\w'.cell? ⟨g,o+b.blocks.length,none⟩=some (.int .i64 (cntP b.blocks))/\Below (w.alloc (.cells ([Value.string b.name,.slice A1 b.regions.length c1,.slice A2 b.outl.length c2,.slice A3 b.types.length c3,.slice A4 b.locals.length c4,.int .i64 b.args,.slice A5 b.blocks.length c5]).toArray 28)).heap.size (w.alloc (.cells ([Value.string b.name,.slice A1 b.regions.length c1,.slice A2 b.outl.length c2,.slice A3 b.types.length c3,.slice A4 b.locals.length c4,.int .i64 b.args,.slice A5 b.blocks.length c5]).toArray 28)) w'):=
  aF ((kZ b ⟨A1,c1,A2,c2,A3,c3,A4,c4,A5,c5⟩ _ (H.keep HBW.out) hz hl).mono (by
   rintro e' w1 ⟨⟨A,c,rfl,hs⟩,hb⟩;obtain ⟨gb,go,rfl,hgb,hx⟩:=hs.sl.at_ (i:=b.blocks.length) (by rw [gG];omega);refine ⟨gb,go,c,rfl,?_,hb⟩;have h:=hx;unfold RInt at h;rw [Nat.mul_one] at h;obtain ⟨_,e⟩:=List.getElem_of_getElem? (vI b.blocks (aY b.blocks.length))
   rw [h,e,bZ]))
 have hwl:IntKind.i64.wrap ((b.blocks.length:Int)+1 - 1)=(b.blocks.length:Int):=by rw [IntKind.wrap_i64];omega
 have hll:(b.blocks.length:Int)<(b.blocks.length:Int)+1:=by omega
 clear H;unfold bdC;simp only;go_enter Tryz.func52,Tryz.ntmps52
 go_wp2_with (go_at_call 85;refine HF.out.mono ?_;rintro e' w1 ⟨g,o,c,rfl,x0,hb⟩)
 go_ret;exact ⟨rfl,HBW.out.trans (hb.mono HBW.out.size)⟩
end
section
open Go Go.RowKit Go.Maps
theorem iR (bs:List Blk):∀k,cntP (bs.take k)=stB bs k
 | 0=>by simp [cntP,stB]
 | k+1=>by
   cases h:bs[k]? with
   | none=>
     have h1:=List.getElem?_eq_none_iff.1 h;have h2:=iR bs k;unfold stB at h2 ⊢;rw [List.take_of_length_le (by omega)] at h2 ⊢;exact h2
   | some x=>
     have hk:=(List.getElem?_eq_some_iff.1 h).1;rw [kO hk,iR bs k,eX h];have:bs[k]=x:=by rw [bD hk] at h;injection h
     rw [this]
theorem fR (bs:List Blk):cntP bs=cntB bs:=by
 have:=iR bs bs.length;rwa [bZ] at this
theorem zQ (b:Bdy) (bh:BH) (k:Nat) (w:World) (H:BdAt w b bh) (hk:k<=b.blocks.length) (hc:cntB b.blocks<=1000000000000):
 Calls Tryz.prog 22 #[.agg (bdC b bh).toArray,.int .i64 k] w fun e' w'=>e' = .returned (.int .i64 (stB b.blocks k))/\Below w.heap.size w w':=
 (lB b bh k w H hk).mono (by
   rintro e' w' ⟨⟨q,rfl,hq⟩,hb⟩;rw [iR] at hq;have:=iH b.blocks hk;unfold cntB at hc
   exact ⟨by rw [hq.out (by omega)],hb⟩)
theorem zZ (b:Bdy) (bh:BH) (w:World) (H:BdAt w b bh) (hc:cntB b.blocks<=1000000000000) (hl:b.blocks.length<=1000000):
 Calls Tryz.prog 52 #[.agg (bdC b bh).toArray] w fun e' w'=>e' = .returned (.int .i64 (cntB b.blocks))/\Below w.heap.size w w':=by
 have:=tZ b bh w H (by rw [fR];omega) hl;rwa [fR] at this
def lcV:Option (Nat × Nat)->Value
 | none=> .tuple #[.int .i64 0,.int .i64 0,.bool false]
 | some q=> .tuple #[.int .i64 q.1,.int .i64 q.2,.bool true]
theorem rE (b:Bdy) (bh:BH) (p:Int) (w:World) (H:BdAt w b bh) (hc:cntB b.blocks<=1000000000000) (hp : -9223372036854775808<=p/\p<=9223372036854775807):
 Calls Tryz.prog 35 #[.agg (bdC b bh).toArray,.int .i64 p] w fun e' w'=>e' = .returned (lcV (locB b.blocks p))/\Below w.heap.size w w':=by
 obtain ⟨R,hR⟩:∃R,lcV (locB b.blocks p)=R:=⟨_,rfl⟩;rw [hR];have HR:=aF hR;have HF:=aF (fun (W:World) (hb:Below w.heap.size w W) (k:Nat) hk=>zQ b bh k W (H.keep hb) hk hc);have HBLK:=aF H.blk;have hbl:=H.blk.le;have hbg:=H.blk.big;have HC:=aF hc;have HY:=aF (cQ w [Value.string b.name,.slice bh.A1 b.regions.length bh.c1,.slice bh.A2 b.outl.length bh.c2,.slice bh.A3 b.types.length bh.c3,.slice bh.A4 b.locals.length bh.c4,.int .i64 b.args,.slice bh.A5 b.blocks.length bh.c5] 28);clear H hc hR;unfold bdC at *;go_enter Tryz.func35,Tryz.ntmps35
 go_wp2_with fail
 go_loopw [7,8] (fun i _ wr=>∃k:Nat,i = .int .i64 k/\k<=b.blocks.length/\(p<0\/(stB b.blocks k:Int)<=p)/\Hid (aA (bdH b bh []) wr w.heap.size)/\Hid (Below w.heap.size w wr)/\w.heap.size<wr.heap.size) (fun i _ _=>b.blocks.length - (intOf i).toNat)
 case atStart=>exact ⟨0,rfl,by omega,by rw [stB_zero];omega,HY,aF ((aX _ _).alloc (aY _) _),by simp⟩
 case round=>
  obtain ⟨k,rfl,hk,hkp,HX,HB,hlw⟩:=hrel;obtain ⟨y0,y1,y2,y3,y4,y5,y6⟩:=aS HX.out;by_cases h2:k<b.blocks.length
  case neg=>
   have HN:Hid (locB b.blocks p=none):=aF (kI (by
    have hk':k=b.blocks.length:=(by omega);subst hk'
    exact hkp))
   clear y0 y1 y2 y3 y4 y5;go_wp2_with fail
   go_ret3
   exact ⟨by rw [<- HR.out,HN.out];rfl,HB.out⟩
  case pos=>
  obtain ⟨bb,oo,hA,hbb,hx⟩:=(HBLK.out.keep RBk.keeps HB.out).sl.at_ h2;obtain ⟨A1,c1,A2,c2,A3,c3,A4,c4,p0,-⟩:=eV hx;have hs:=eX (bD h2);have hle:=iH b.blocks (show k+1<=b.blocks.length by omega);have hcc:cntB b.blocks<=1000000000000:=HC.out;unfold cntB at hcc;have HL:Hid (0<=p->(stB b.blocks k:Int)<=p->p - stB b.blocks k<=b.blocks[k].stmts.length->locB b.blocks p=some (k,(p - stB b.blocks k).toNat)):=aF (fun h0 h1 h3=>eD.2 ⟨_,bD h2,by omega,by omega⟩);have HFK:=aF (fun W hb=>HF.out W hb k hk);rw [hA] at y6 HFK;have HS:Hid (stB b.blocks (k+1)=stB b.blocks k+(b.blocks[k].stmts.length+1)):=aF hs;generalize b.blocks[k].stmts.length=sl at *;generalize stB b.blocks k=s0 at *;have HA:=aF hA;clear hx hA HF hs;have HX2:Hid (∀W,Below wr.heap.size wr W->∀i v,[Value.string b.name,.slice bh.A1 b.regions.length bh.c1,.slice bh.A2 b.outl.length bh.c2,.slice bh.A3 b.types.length bh.c3,.slice bh.A4 b.locals.length bh.c4,.int .i64 b.args,.slice bh.A5 b.blocks.length bh.c5][i]?=some v->W.cell? ⟨w.heap.size,i,none⟩=some v):=aF (fun W hW i v hi=>cO hW (HX.out i v hi));have hbb2:bb<wr.heap.size:=hbb;have hs12:s0+sl<=1000000000000:=by have:=HS.out;omega
  by_cases hp0:0<=p
  case neg=>
   clear HL hcc hle;go_wp2_with (go_at_call 22;refine (HFK.out _ HB.out).mono ?_;rintro e' w1 ⟨rfl,hb1⟩;have z6:=HX2.out w1 hb1 6 _ rfl;clear y0 y1 y2 y3 y4 y5 y6)
   go_roundw
   case rel=>exact ⟨k+1,by go_num,by omega,.inl (by omega),aF (HX2.out w1 hb1),aF (HB.out.trans (hb1.mono HB.out.size)),bN hlw hb1.size⟩
   case measure=>simp [intOf];omega
  case pos=>
  have hkp2:(s0:Int)<=p:=by omega
  obtain ⟨q,hq⟩:=bG (show 0<=p - s0 by omega);have hpq:p=((s0+q:Nat):Int):=by omega
  have HL2:Hid (q<=sl->locB b.blocks p=some (k,q)):=aF (fun h=>by rw [HL.out hp0 hkp2 (by omega)];congr 2;omega);have hsub:wrap64 (p - (s0:Int))=(q:Int):=by rw [wrap64];omega
  have HQ:=aF hq;clear HL hcc hle hkp hq hpq;by_cases hin:p - (s0:Int)<=(sl:Int)
  ·have HE:=aF (HL2.out (by have:=HQ.out;omega));go_wp2_with (go_at_call 22;refine (HFK.out _ HB.out).mono ?_;rintro e' w1 ⟨rfl,hb1⟩;have z6:=HX2.out w1 hb1 6 _ rfl;rw [HA.out] at z6;have p1:=cO hb1 p0;clear y0 y1 y2 y3 y4 y5 y6 p0)
   go_ret3
   exact ⟨by rw [<- HR.out,HE.out,HQ.out];rfl,HB.out.trans (hb1.mono HB.out.size)⟩
  ·go_wp2_with (go_at_call 22;refine (HFK.out _ HB.out).mono ?_;rintro e' w1 ⟨rfl,hb1⟩;have z6:=HX2.out w1 hb1 6 _ rfl;rw [HA.out] at z6;have p1:=cO hb1 p0;clear y0 y1 y2 y3 y4 y5 y6 p0)
   go_roundw
   case rel=>exact ⟨k+1,by go_num,by omega,.inr (by have:=HS.out;omega),aF (HX2.out w1 hb1),aF (HB.out.trans (hb1.mono HB.out.size)),bN hlw hb1.size⟩
   case measure=>simp [intOf];omega
theorem xBT {w:World} {_b _o:Nat} {x:Blk} {A1 A2 A3 A4:Option Addr} {c1 c2 c3 c4:Nat} (T:TypeId) {W:World} (hW:w.alloc (.cells (bkL x A1 c1 A2 c2 A3 c3 A4 c4).toArray T)=W):
 Below w.heap.size w W/\W.heap.size=w.heap.size+1/\∀i v,(bkL x A1 c1 A2 c2 A3 c3 A4 c4)[i]?=some v->W.cell? ⟨w.heap.size,i,none⟩=some v:=by
 subst hW;exact ⟨(aX _ _).alloc (aY _) _,by simp,cQ w _ T⟩
theorem xDJ (b:Bdy) (bh:BH) (p:Int) (w:World) (H:BdAt w b bh) (hc:cntB b.blocks<=1000000000000) (hp : -9223372036854775808<=p/\p<=9223372036854775807):
 Calls Tryz.prog 63 #[.agg (bdC b bh).toArray,.int .i64 p] w fun e' w'=>e' = .returned (lcV (locB b.blocks p))/\Below w.heap.size w w':=by
 obtain ⟨R,hR⟩:∃R,lcV (locB b.blocks p)=R:=⟨_,rfl⟩;rw [hR];have HR:=aF hR;have HBLK:=aF H.blk;have hbl:=H.blk.le;have hbg:=H.blk.big;have HC:=aF hc;have HY:=aF (cQ w [Value.string b.name,.slice bh.A1 b.regions.length bh.c1,.slice bh.A2 b.outl.length bh.c2,.slice bh.A3 b.types.length bh.c3,.slice bh.A4 b.locals.length bh.c4,.int .i64 b.args,.slice bh.A5 b.blocks.length bh.c5] 28);clear H hc hR;unfold bdC at *;by_cases hp0:0<=p
 case neg=>
  have HN:Hid (locB b.blocks p=none):=aF (kI (by omega));have y6:=HY.out 6 _ rfl;go_enter Tryz.func63,Tryz.ntmps63
  go_wp2_with fail
  go_ret3
  exact ⟨by rw [<- HR.out,HN.out];rfl,(aX _ _).alloc (aY _) _⟩
 case pos=>
 have HP0:=aF hp0;go_enter Tryz.func63,Tryz.ntmps63
 go_wp2_with fail
 go_loopw [1,7,14] (fun t _ i wr=>∃k q:Nat,t = .int .i64 q/\i = .int .i64 k/\k<=b.blocks.length/\Hid (p=(stB b.blocks k+q:Nat))/\(q:Int)<=9223372036854775807/\Hid (Below w.heap.size w wr)/\w.heap.size<wr.heap.size) (fun _ _ i _=>b.blocks.length - (intOf i).toNat)
 case atStart=>
  obtain ⟨q,hq⟩:=bG hp0;exact ⟨0,q,by rw [hq],rfl,by omega,aF (by rw [stB_zero];omega),by omega,aF ((aX _ _).alloc (aY _) _),by simp⟩
 case round=>
  obtain ⟨k,q,rfl,rfl,hk,HPQ,hq63,HB,hlw⟩:=hrel;by_cases h2:k<b.blocks.length
  case neg=>
   have HN:Hid (locB b.blocks p=none):=aF (kI (by
    have hk':k=b.blocks.length:=(by omega);subst hk';have:=HPQ.out;unfold cntB
    omega))
   go_wp2_with fail
   go_ret3
   exact ⟨by rw [<- HR.out,HN.out];rfl,HB.out⟩
  case pos=>
  obtain ⟨bb,oo,hA,hbb,hx⟩:=(HBLK.out.keep RBk.keeps HB.out).sl.at_ h2;obtain ⟨A1,c1,A2,c2,A3,c3,A4,c4,p0,p1,p2,p3,p4,p5,p6,-⟩:=eV hx;have hs:=eX (bD h2);have hle:=iH b.blocks (show k+1<=b.blocks.length by omega);have hcc:cntB b.blocks<=1000000000000:=HC.out;unfold cntB at hcc;have HL:Hid (q<=b.blocks[k].stmts.length->locB b.blocks p=some (k,q)):=aF (fun h1=>eD.2 ⟨_,bD h2,h1,HPQ.out⟩);have HQ2:Hid (¬q<=b.blocks[k].stmts.length->p=(stB b.blocks (k+1)+(q - (b.blocks[k].stmts.length+1)):Nat)):=aF (fun h1=>by rw [hs];have:=HPQ.out;omega);obtain ⟨x,hxx⟩:∃x,b.blocks[k]=x:=⟨_,rfl⟩;rw [hxx] at p0 p1 p2 p3 p4 p5 p6 hs HL HQ2;have hsl:x.stmts.length<=1000000000000:=by omega
  rw [hA];obtain ⟨W1,hW1⟩:∃W,wr.alloc (.cells (bkL x A1 c1 A2 c2 A3 c3 A4 c4).toArray 55)=W:=⟨_,rfl⟩;obtain ⟨hb1,hsw,hn⟩:=xBT (_b:=0) (_o:=0) _ hW1;have n0:=hn 0 _ rfl;have HB1:=aF (HB.out.trans (hb1.mono HB.out.size));unfold bkL at hW1;have hq0:(0:Int)<=q:=by omega
  clear hx hA hxx hcc hle hs hn;by_cases hin:q<=x.stmts.length
  ·have HE:=aF (HL.out hin);have g1:(q:Int)<=(x.stmts.length:Int):=by omega
   clear HL HQ2 hin;go_wp2_with fail
   go_ret3
   exact ⟨by rw [<- HR.out,HE.out];rfl,HB1.out⟩
  ·have HE:=aF (HQ2.out hin);have g1:¬(q:Int)<=(x.stmts.length:Int):=by omega
   clear HL HQ2;go_wp2_with fail
   go_roundw
   case rel=>exact ⟨k+1,q - (x.stmts.length+1),by go_num,by go_num,by omega,HE,by omega,HB1,by omega⟩
   case measure=>simp [intOf];omega
theorem vH {bs:List Blk} {k i:Nat} (h:i<=k):(stL bs k)[i]?=some (stB bs i:Int):=by rw [vI bs h,iR]
def tgL (bs:List Blk) (l:List Int):List Int:=(l.filter (fun t=>decide (0<=t/\t<(bs.length:Int)))).map (fun t=>(stB bs t.toNat:Int))
theorem yQ (bs:List Blk) (l:List Int) (t:Int):tgL bs (l ++ [t])=if 0<=t/\t<(bs.length:Int) then tgL bs l ++ [(stB bs t.toNat:Int)] else tgL bs l:=by
 unfold tgL;rw [List.filter_append];by_cases h:0<=t/\t<(bs.length:Int)
 ·rw [bA h,show [t].filter (fun t=>decide (0<=t/\t<(bs.length:Int)))=[t] by simp [h]];simp
 ·rw [aZ h,show [t].filter (fun t=>decide (0<=t/\t<(bs.length:Int)))=[] by simp only [List.filter_cons,h,decide_false];simp];simp
theorem vA {bs:List Blk} {l:List Int} {q:Int}:q∈tgL bs l↔∃t∈l,0<=t/\t<(bs.length:Int)/\q=stB bs t.toNat:=by
 unfold tgL;simp only [List.mem_map,List.mem_filter,decide_eq_true_eq];exact ⟨fun ⟨t,⟨a,b,c⟩,d⟩=>⟨t,a,b,c,d.symm⟩,fun ⟨t,a,b,c,d⟩=>⟨t,⟨a,b,c⟩,d.symm⟩⟩
theorem vB (bs:List Blk) (l:List Int):(tgL bs l).length<=l.length:=by
 unfold tgL;rw [cF];exact List.length_filter_le _ _
theorem xBP {bs:List Blk} {i k:Nat} {x:Blk} (hx:bs[i]?=some x) (hk:k<=x.stmts.length) (q:Int):
 folP bs (stB bs i+k:Nat) q↔if k<x.stmts.length then q=(stB bs i+k:Nat)+1 else q∈tgL bs x.term.targets:=by
 have hl:=eD.2 (show locP bs (stB bs i+k:Nat) i k from ⟨x,hx,hk,rfl⟩);constructor
 ·rintro ⟨i',k',x',h1,h2,h3⟩;rw [hl] at h1;injection h1 with h1
  injection h1 with h1 h4
  subst h1 h4;rw [hx] at h2;injection h2 with h2
  subst h2;split
  ·rwa [bA ‹_›] at h3
  ·rw [aZ ‹_›] at h3;exact vA.2 h3
 ·intro h;refine ⟨i,k,x,hl,hx,?_⟩;split
  ·rwa [bA ‹_›] at h
  ·rw [aZ ‹_›] at h;exact vA.1 h
theorem xAD (b:Bdy) (bh:BH) (i k:Nat) (x:Blk) (hx:b.blocks[i]?=some x) (hk:k<x.stmts.length) (FA:Option Addr) (fc:Nat) (w:World) (H:BdAt w b bh) (hf:Slc 1 RInt w FA fc (stL b.blocks b.blocks.length)) (hc:cntB b.blocks<=1000000000000):
 Calls Tryz.prog 87 #[.agg (bdC b bh).toArray,.slice FA (b.blocks.length+1) fc,.agg #[.int .i64 i,.int .i64 k]] w fun e' w'=>∃A c s,e' = .returned (.slice A s.length c)/\Srt s (folP b.blocks (stB b.blocks i+k:Nat))/\Slc 1 RInt w' A c s/\(∀a,A=some a->w.heap.size<=a.block)/\Below w.heap.size w w':=by
 have hbl:=H.blk.le;have hbg:=H.blk.big;have hi:=(List.getElem?_eq_some_iff.1 hx).1;have hlt:=jN hx;have HFIN:Hid (Srt [((stB b.blocks i+k:Nat):Int)+1] (folP b.blocks (stB b.blocks i+k:Nat))):=aF ⟨List.pairwise_singleton _ _,fun z=>by rw [xBP hx (by omega),bA hk,bR]⟩;obtain ⟨bb,oo,hA,hbb,hxx⟩:=H.blk.sl.at_ hi;obtain ⟨A1,c1,A2,c2,A3,c3,A4,c4,p0,p1,p2,p3,p4,p5,p6,-⟩:=eV hxx;rw [show b.blocks[i]=x from by rw [bD hi] at hx;injection hx] at p0 p1 p2 p3 p4 p5 p6;obtain ⟨g,o,rfl,hg,hy⟩:=hf.sl.at_ (i:=i) (by rw [gG];omega)
 have f0:w.cell? ⟨g,o+i,none⟩=some (.int .i64 (stB b.blocks i:Int)):=by
  have:=vH (bs:=b.blocks) (k:=b.blocks.length) (i:=i) (by omega);rw [bD (by rw [gG];omega)] at this;injection this with this
  rw [this] at hy;simpa [RInt] using hy
 have hfl:=hf.le;have hfb:=hf.big;rw [gG] at hfl;generalize stB b.blocks i=s0 at *;unfold bdC;rw [hA];obtain ⟨m,hm⟩:∃m,b.blocks.length+1=m:=⟨_,rfl⟩;rw [hm] at hfl ⊢;have him:i<m:=by omega
 have hs12:s0+k+1<=1000000000001:=by omega
 have HM:Hid (m=b.blocks.length+1):=aF hm.symm;have HY:=aF (cQ w [Value.string b.name,.slice bh.A1 b.regions.length bh.c1,.slice bh.A2 b.outl.length bh.c2,.slice bh.A3 b.types.length bh.c3,.slice bh.A4 b.locals.length bh.c4,.int .i64 b.args,.slice (some ⟨bb,oo,none⟩) b.blocks.length bh.c5] 28);clear hA hxx hx hy hf H hc hlt hm;obtain ⟨W3,hW3⟩:∃W,((w.alloc (.cells #[Value.string b.name,.slice bh.A1 b.regions.length bh.c1,.slice bh.A2 b.outl.length bh.c2,.slice bh.A3 b.types.length bh.c3,.slice bh.A4 b.locals.length bh.c4,.int .i64 b.args,.slice (some ⟨bb,oo,none⟩) b.blocks.length bh.c5] 28)).alloc (.cells #[.int .i64 i,.int .i64 k] 136)).alloc (.cells #[.slice A1 x.stmts.length c1,.int .i64 x.term.kind,.slice A2 x.term.targets.length c2,.slice A3 x.term.args.length c3,.int .i64 x.term.place.loc,.slice A4 x.term.place.proj.length c4,.string x.term.name] 55)=W:=⟨_,rfl⟩;have hb3:Below w.heap.size w W3:=by rw [<- hW3];exact aH
 have hz3:W3.heap.size=w.heap.size+1+1+1:=by rw [<- hW3];simp
 have z1:W3.cell? ⟨w.heap.size+1,0,none⟩=some (.int .i64 i):=by rw [<- hW3];clear hW3;go_simp
 have z2:W3.cell? ⟨w.heap.size+1,1,none⟩=some (.int .i64 k):=by rw [<- hW3];clear hW3;go_simp
 have z3:W3.cell? ⟨w.heap.size+1+1,0,none⟩=some (.slice A1 x.stmts.length c1):=by rw [<- hW3];clear hW3;go_simp
 have f3:=cO hb3 f0;go_enter Tryz.func87,Tryz.ntmps87
 go_wp2_with fail
 go_still_tail 9,(by kernel_rfl)
 change wpList _ _ _ _ _ W3.drew;go_wp2_with fail
 go_ret;have hrow:=wG W3.drew (.int .i64 ((s0:Int)+(k:Int)+1)) 3 0 (Nat.zero_le _);obtain ⟨LA,lc,hv,hl,-⟩:=fD (R:=RInt) (enc:=Value.int .i64) (xs:=[(s0:Int)+(k:Int)+1]) (fun _ _ _ _ _ h=>h) hrow rfl;injection hv with h1 _ h2
 subst h1 h2;refine ⟨some ⟨w.heap.size+1+1+1,0,none⟩,1,[(s0:Int)+(k:Int)+1],rfl,?_,?_,fun a h=>(by injection h with h;subst h;simp only;omega),(hb3.drew).alloc (by simp;omega) _⟩
 ·have:=HFIN.out;push_cast at this;exact this
 ·rw [show w.heap.size+1+1+1=W3.drew.heap.size from hz3.symm];exact hl
def nxQ (w0:World) (base:Nat) (bs:List Blk) (l:List Int) (v:Value) (wr:World):Prop:=wr.ownsRow base 3 1 v (tgL bs l).length ((tgL bs l).map (Value.int .i64))/\Below base w0 wr
theorem xAE (b:Bdy) (bh:BH) (i:Nat) (x:Blk) (hx:b.blocks[i]?=some x) (FA:Option Addr) (fc:Nat) (w:World) (H:BdAt w b bh) (hf:Slc 1 RInt w FA fc (stL b.blocks b.blocks.length)) (_hc:cntB b.blocks<=1000000000000) (ht:x.term.targets.length<=1000000000000):
 Calls Tryz.prog 87 #[.agg (bdC b bh).toArray,.slice FA (b.blocks.length+1) fc,.agg #[.int .i64 i,.int .i64 x.stmts.length]] w fun e' w'=>∃A c s,e' = .returned (.slice A s.length c)/\Srt s (folP b.blocks (stB b.blocks i+x.stmts.length:Nat))/\Slc 1 RInt w' A c s/\(∀a,A=some a->w.heap.size<=a.block)/\Below w.heap.size w w':=by
 have hbl:=H.blk.le;have hbg:=H.blk.big;have hi:=(List.getElem?_eq_some_iff.1 hx).1;have HFIN:Hid (∀s zs:List Int,Srt s (fun z=>z∈zs)->(∀z,z∈zs↔z∈tgL b.blocks x.term.targets)->Srt s (folP b.blocks (stB b.blocks i+x.stmts.length:Nat))):=aF (fun s zs h1 h2=>h1.iff fun z=>by rw [xBP hx (aY _),aZ (by omega)];exact h2 z);obtain ⟨bb,oo,hA,hbb,hxx⟩:=H.blk.sl.at_ hi;obtain ⟨A1,c1,A2,c2,A3,c3,A4,c4,p0,p1,p2,p3,p4,p5,p6,hs1,hs2,-⟩:=eV hxx;rw [show b.blocks[i]=x from by rw [bD hi] at hx;injection hx] at p0 p1 p2 p3 p4 p5 p6 hs1 hs2;have HT:=aF hs2;have htl:=hs2.le;have htb:=hs2.big;have HFF:=aF hf;have hfl:=hf.le;have hfb:=hf.big;rw [gG] at hfl;have HA:=aF hA;unfold bdC;rw [hA];obtain ⟨m,hm⟩:∃m,b.blocks.length+1=m:=⟨_,rfl⟩;rw [hm] at hfl ⊢;have HM:Hid (m=b.blocks.length+1):=aF hm.symm;clear hA hxx hx hf H _hc hm hs1 hs2;obtain ⟨W3,hW3⟩:∃W,((w.alloc (.cells #[Value.string b.name,.slice bh.A1 b.regions.length bh.c1,.slice bh.A2 b.outl.length bh.c2,.slice bh.A3 b.types.length bh.c3,.slice bh.A4 b.locals.length bh.c4,.int .i64 b.args,.slice (some ⟨bb,oo,none⟩) b.blocks.length bh.c5] 28)).alloc (.cells #[.int .i64 i,.int .i64 x.stmts.length] 136)).alloc (.cells #[.slice A1 x.stmts.length c1,.int .i64 x.term.kind,.slice A2 x.term.targets.length c2,.slice A3 x.term.args.length c3,.int .i64 x.term.place.loc,.slice A4 x.term.place.proj.length c4,.string x.term.name] 55)=W:=⟨_,rfl⟩;have hb3:Below w.heap.size w W3:=by rw [<- hW3];exact aH
 have hz3:W3.heap.size=w.heap.size+1+1+1:=by rw [<- hW3];simp
 have z2:W3.cell? ⟨w.heap.size+1,1,none⟩=some (.int .i64 x.stmts.length):=by rw [<- hW3];clear hW3;go_simp
 have z3:W3.cell? ⟨w.heap.size+1+1,0,none⟩=some (.slice A1 x.stmts.length c1):=by rw [<- hW3];clear hW3;go_simp
 have z4:W3.cell? ⟨w.heap.size+1+1,2,none⟩=some (.slice A2 x.term.targets.length c2):=by rw [<- hW3];clear hW3;go_simp
 have z5:W3.cell? ⟨w.heap.size,6,none⟩=some (.slice (some ⟨bb,oo,none⟩) b.blocks.length bh.c5):=by rw [<- hW3];clear hW3;go_simp
 have HZ5:=aF z5;have HB3:=aF hb3;obtain ⟨i0,hi0,hz0,hz1,hz2⟩:=info_parts dU;go_enter Tryz.func87,Tryz.ntmps87
 go_wp2_with fail
 go_loopw [8,10,37] (fun v _ t wr=>∃k:Nat,t = .int .i64 k/\k<=x.term.targets.length/\Hid (nxQ W3 W3.heap.size b.blocks (x.term.targets.take k) v wr)) (fun _ _ t _=>x.term.targets.length - (intOf t).toNat)
 case atStart=>exact ⟨0,rfl,by omega,aF ⟨World.ownsRow_nil _ _ _ _,aX _ _⟩⟩
 case round=>
  clear p0 p1 p2 p3 p4 p5 p6;obtain ⟨k,rfl,hk,HQ⟩:=hrel;by_cases hlt:k<x.term.targets.length
  case pos=>
   obtain ⟨n,hn⟩:∃n,(tgL b.blocks (x.term.targets.take k)).length=n:=⟨_,rfl⟩;have hq:=HQ.out.1;rw [hn] at hq;obtain ⟨VA,vc,rfl⟩:=dE hq;have hnl:n<=x.term.targets.length:=by have:=vB b.blocks (x.term.targets.take k);rw [cM] at this;omega
   have HBW:=aF (HB3.out.trans (HQ.out.2.mono HB3.out.size));obtain ⟨tb,to_,hTA,htb2,ht0⟩:=(HT.out.keep RInt.keeps HBW.out).sl.at_ hlt;have hsn:Hid (tgL b.blocks (x.term.targets.take (k+1))=if 0<=x.term.targets[k]/\x.term.targets[k]<(b.blocks.length:Int) then tgL b.blocks (x.term.targets.take k) ++ [(stB b.blocks x.term.targets[k].toNat:Int)] else tgL b.blocks (x.term.targets.take k)):=aF (by rw [bF hlt,yQ]);have t0:wr.cell? ⟨tb,to_+k,none⟩=some (.int .i64 x.term.targets[k]):=by simpa [RInt] using ht0
   generalize x.term.targets[k]=t at *;have y5:=cO HQ.out.2 z5;have hsz:=HQ.out.2.size;rw [hTA];have HTA:=aF hTA;clear ht0 hTA;by_cases h1:0<=t
   case neg=>
    have HE:Hid (tgL b.blocks (x.term.targets.take (k+1))=tgL b.blocks (x.term.targets.take k)):=aF (by rw [hsn.out,aZ (fun h=>h1 h.1)]);clear hsn;go_wp2_with fail
    go_roundw
    case rel=>exact ⟨k+1,by go_num,by omega,aF (by have:=HQ.out;unfold nxQ at this ⊢;rw [HE.out];exact this)⟩
    case measure=>simp [intOf];omega
   case pos=>
   by_cases h2:t<(b.blocks.length:Int)
   case neg=>
    have HE:Hid (tgL b.blocks (x.term.targets.take (k+1))=tgL b.blocks (x.term.targets.take k)):=aF (by rw [hsn.out,aZ (fun h=>h2 h.2)]);clear hsn;go_wp2_with fail
    go_roundw
    case rel=>exact ⟨k+1,by go_num,by omega,aF (by have:=HQ.out;unfold nxQ at this ⊢;rw [HE.out];exact this)⟩
    case measure=>simp [intOf];omega
   case pos=>
   obtain ⟨j,rfl⟩:=bG h1;have hj:j<b.blocks.length:=by omega
   have HE:Hid (tgL b.blocks (x.term.targets.take (k+1))=tgL b.blocks (x.term.targets.take k) ++ [(stB b.blocks j:Int)]):=aF (by rw [hsn.out,bA ⟨h1,h2⟩,bV]);obtain ⟨g,o,hFA,hg,hy⟩:=(HFF.out.keep RInt.keeps HBW.out).sl.at_ (i:=j) (by rw [gG];omega)
   have f0:wr.cell? ⟨g,o+j,none⟩=some (.int .i64 (stB b.blocks j:Int)):=by
    have:=vH (bs:=b.blocks) (k:=b.blocks.length) (i:=j) (by omega);rw [bD (by rw [gG];omega)] at this;injection this with this
    rw [this] at hy;simpa [RInt] using hy
   have hjm:j<m:=by have:=HM.out;omega
   generalize stB b.blocks j=s0 at *;rw [hFA];have hown2:=hq.alloc (.cells #[.int .i64 (s0:Int)] 3);clear hsn hy hFA;go_wp2_with (at_builtin;refine wpList_append_own _ rfl _ _ 34 rfl W3.heap.size 3 i0 (.int .i64 0) 1 8 Tryz.underlying34 hi0 hz0 hz1 hz2 rfl (by decide) _ _ _ rfl hown2 ⟨wr.heap.size,0,none⟩ 1 1 [.int .i64 (s0:Int)] rfl rfl (cell_one_new _ _ _) (fun u hu=>by simp at hu;subst hu;rfl) (by unfold maxLen;omega) (by omega) (by simp;omega) ?_;intro v' w2 hown' hgrow _)
   have HB2:Hid (Below W3.heap.size W3 w2):=aF ((HQ.out.2.alloc hsz _).grown hgrow (by simp;omega) (fun g hg=>(hown2.lt g hg).1));go_roundw
   case rel=>exact ⟨k+1,by go_num,by omega,aF ⟨by rw [HE.out,bS,bB,hn];exact hown',HB2.out⟩⟩
   case measure=>simp [intOf];omega
  case neg=>
   have hke:x.term.targets.take k=x.term.targets:=List.take_of_length_le (by omega);rw [hke] at HQ;have hlen:=vB b.blocks x.term.targets;have HS:=aF (zF wr W3.heap.size _ _ _ HQ.out.1 rfl (by omega))
   go_wp2_with (first
    | (go_at_call 66;refine HS.out.mono ?_;rintro e' w5 ⟨rfl,ho5,hg5⟩;have HK:=aF (qM w5 _ _ _ _ ho5 (by simp) (xAL _));have HG5:=aF hg5;clear ho5 hg5)
    | (go_at_call 79;refine HK.out.mono ?_;rintro e' w6 ⟨LA,lc,s,rfl,hs,hl,hlo,hg6⟩;have HLO:=aF hlo;have HSS:=aF hs;have HL:=aF hl;have HG6:=aF hg6;clear hs hl hg6 hlo))
   go_ret;have hlt3:=fun g hg=>(HQ.out.1.lt g hg).1
   have hb5:=HQ.out.2.grown HG5.out HQ.out.2.size hlt3;have hb6:=hb5.grown HG6.out hb5.size hlt3;exact ⟨LA,lc,s,rfl,HFIN.out s _ HSS.out (fun z=>by simp),HL.out,fun a h=>(by have:=HLO.out a h;omega),HB3.out.trans (hb6.mono HB3.out.size)⟩
theorem xAF (b:Bdy) (bh:BH) (i k:Nat) (x:Blk) (hx:b.blocks[i]?=some x) (hk:k<=x.stmts.length) (FA:Option Addr) (fc:Nat) (w:World) (H:BdAt w b bh) (hf:Slc 1 RInt w FA fc (stL b.blocks b.blocks.length)) (hc:cntB b.blocks<=1000000000000) (ht:x.term.targets.length<=1000000000000):
 Calls Tryz.prog 87 #[.agg (bdC b bh).toArray,.slice FA (b.blocks.length+1) fc,.agg #[.int .i64 i,.int .i64 k]] w fun e' w'=>∃A c s,e' = .returned (.slice A s.length c)/\Srt s (folP b.blocks (stB b.blocks i+k:Nat))/\Slc 1 RInt w' A c s/\(∀a,A=some a->w.heap.size<=a.block)/\Below w.heap.size w w':=by
 by_cases h:k<x.stmts.length
 ·exact xAD b bh i k x hx h FA fc w H hf hc
 ·obtain rfl:k=x.stmts.length:=by omega
  exact xAE b bh i x hx FA fc w H hf hc ht
end
section
open Go Go.RowKit
theorem lP (l:List Opd) (B:Option Addr) (d:Nat) (w:World) (hs:Slc 4 ROp w B d l):
 Calls Tryz.prog 68 #[.slice B l.length d] w fun e' w'=>(∃q:Int,e' = .returned (.int .i64 q)/\0<=q/\q<=20000)/\Below w.heap.size w w':=by
 have hle:=hs.le;have hbg:=hs.big;obtain ⟨n0,hn0⟩:∃n:Nat,min l.length 9000=n:=⟨_,rfl⟩;have hn1:n0<=l.length:=by omega
 have hn2:n0<=9000:=by omega
 have HS:=aF (hs.takeN n0);have hlen:(l.take n0).length=n0:=by simp;omega
 have hmin:min (l.length:Int) 9000=(n0:Int):=by omega
 have hcut:∀W,(Instr.slice 48 (.slice B l.length d) none (some (.int .i64 (n0:Int))) none).run Tryz.prog W = .ok (.slice B n0 d) W:=fun W=>by
  have:=mC (P:=Tryz.prog) 48 69 B l.length d n0 4 Tryz.underlying48 Tryz.sizeOf69 hn1 hle W;rwa [show cutA B d 0 4=B by cases B <;> simp [cutA,Addr.add]] at this
 generalize l.take n0=l' at HS hlen;generalize l.length=L at hcut hmin ⊢;clear hs;go_enter Tryz.func68,Tryz.ntmps68
 go_wp2_with fail
 clear hmin hcut;go_loopw [3,13] (fun v i wr=>∃(k:Nat) (m:Int),k<=n0/\i = .int .i64 k/\v = .int .i64 m/\0<=m/\m<=9000/\Hid (Below w.heap.size w wr)) (fun _ i _=>n0 - (intOf i).toNat)
 case atStart=>exact ⟨0,_,by omega,rfl,rfl,by omega,by omega,aF (aX _ _)⟩
 case round=>
  obtain ⟨k,m,hk,rfl,rfl,hm0,hm1,HB⟩:=hrel;by_cases hlt:k<n0
  ·have hlt2:k<l'.length:=by omega
   obtain ⟨b5,o5,rfl,hb5,hx⟩:=HS.out.sl.at_ hlt2;generalize l'[k]=o at hx;obtain ⟨p0,⟨p1,A2,c2,p2,hc1,hc2,hsl⟩,p3⟩:=ROp.keeps _ _ _ w.heap.size _ _ _ (aY _) hb5 HB.out hx;have p2':wr.cell? ⟨b5,o5+k * 4+2,none⟩=some (.slice A2 o.place.proj.length c2):=p2;have hsz:=HB.out.size;clear hx hsl p2;go_wp2_with fail
   all_goals first
    | (go_ret;exact ⟨⟨_,rfl,by omega,by omega⟩,HB.out.alloc hsz _⟩)
    | (go_roundw
       case rel=>exact ⟨k+1,_,by omega,by go_num,rfl,by omega,by omega,aF (HB.out.alloc hsz _)⟩
       case measure=>simp [intOf];omega)
  ·go_wp2_with fail
   go_ret;exact ⟨⟨_,rfl,by omega,by omega⟩,HB.out⟩
end
section
open Go Go.RowKit
attribute [local go_sem] Oper.semAt_some
def locN (bs:List Blk) (p:Nat):Nat × Nat:=(locB bs p).getD (0,0)
theorem xDK {bs:List Blk} {i k:Nat} {x:Blk} (hx:bs[i]?=some x) (hk:k<=x.stmts.length):locN bs (stB bs i+k)=(i,k):=by
 unfold locN;rw [eD.2 (show locP bs ((stB bs i+k:Nat):Int) i k from ⟨x,hx,hk,rfl⟩)];rfl
def encL (bs:List Blk) (p:Nat):Array Value:= #[.int .i64 p,.agg #[.int .i64 (locN bs p).1,.int .i64 (locN bs p).2]]
theorem rI {n p:Nat} (h:p<n):List.range n=List.range p ++ p :: List.range' (p+1) (n - p - 1):=by
 rw [List.range_eq_range',List.range_eq_range',show n=p+(1+(n - p - 1)) by omega];rw [<- List.range'_append_1,<- List.range'_append_1];simp [List.range'_one]
theorem vW {n p:Nat} {pre post:List Nat} (h:List.range n=pre ++ p :: post):pre=List.range p/\p<n:=by
 have hl:=congrArg List.length h;simp at hl;have h1:(List.range n)[pre.length]?=some p:=by rw [h];simp
 have hp:p=pre.length:=by
  rw [List.getElem?_range (by omega)] at h1;injection h1 with h1;exact h1.symm
 refine ⟨?_,by omega⟩;have h2:=congrArg (List.take pre.length) h;rw [List.take_left,List.take_range] at h2;rw [<- h2,hp,Nat.min_eq_left (by omega)]
theorem xEA (b:Bdy) (bh:BH) (w:World):
 Calls Tryz.prog 86 #[.agg (bdC b bh).toArray] w fun e' w'=>e' = .returned (.func (.func 125) #[] #[.pointer (some ⟨w.heap.size,0,none⟩)])/\w'=w.alloc (.cells (bdC b bh).toArray 28):=by
 unfold bdC;go_enter Tryz.func86,Tryz.ntmps86
 go_wp2
 go_ret;exact ⟨rfl,rfl⟩
theorem xDZ (n:Nat) (hn:1<=n) (b:Bdy) (bh:BH) (bx:Nat) (w0 w:World) (hw:Below w0.heap.size w0 w) (H:BdAt w0 b bh) (h6:w.cell? ⟨bx,6,none⟩=some (.slice bh.A5 b.blocks.length bh.c5)) (hc:cntB b.blocks<=1000000000000):
 SeqL Fence.wide n Tryz.prog 125 #[.pointer (some ⟨bx,0,none⟩)] (encL b.blocks) (fun _=>false) (fun k=>k<w0.heap.size\/k=bx) (List.range (cntB b.blocks)) w:=by
 intro lp J Jx W hW hJ hJx hY h0;have g6:=cO hW h6;have HBLK:=aF H.blk;have hbl:=H.blk.le;have hbg:=H.blk.big;have HC:=aF hc;have hbx:=cD w _ h6;have hB0:=aF (hw.trans (hW.mono hw.size));have HJ:=aF hJ;have HYY:=aF hY;have H00:=aF h0;have HWS:=aF hW.size;clear H h6 hc hY h0 hW;(refine callsIn_of_wp Tryz.func125 rfl trivial ?_ rfl;simp only [Tryz.ntmps125,List.size_toArray,bK,bO,Nat.reduceAdd,Nat.reduceSub,Array.replicate_succ,Array.replicate_zero,List.push_toArray,List.append_toArray,List.nil_append,List.cons_append]);gi_wp2
 gi_loopw [3,4,10] (fun p _ i wr=>∃k:Nat,p = .int .i64 (stB b.blocks k)/\i = .int .i64 k/\k<=b.blocks.length/\Hid (J (List.range (stB b.blocks k)) wr)/\Hid (Below w0.heap.size w0 wr)/\W.heap.size<=wr.heap.size) (fun _ _ i _=>b.blocks.length - (intOf i).toNat)
 case atStart=>exact ⟨0,by rw [stB_zero];rfl,rfl,by omega,aF (by rw [stB_zero];exact H00.out),hB0,aY _⟩
 case round=>
  clear H00 g6;obtain ⟨k,rfl,rfl,hk,HJ0,HB,hsz⟩:=hrel;by_cases h2:k<b.blocks.length
  case neg=>
   have hke:k=b.blocks.length:=by omega
   subst hke;gi_wp2
   go_end0
   exact ⟨⟨_,rfl⟩,.inl HJ0.out⟩
  case pos=>
  obtain ⟨bb,oo,hA,hbb,hx⟩:=(HBLK.out.keep RBk.keeps HB.out).sl.at_ h2;obtain ⟨A1,c1,A2,c2,A3,c3,A4,c4,p0,p1,p2,p3,p4,p5,p6,-⟩:=eV hx;have HX:=aF (bD h2);have hle:=iH b.blocks (show k+1<=b.blocks.length by omega);have hcc:cntB b.blocks<=1000000000000:=HC.out;unfold cntB at hcc;have hs:=eX HX.out;obtain ⟨x,hxx⟩:∃x,b.blocks[k]=x:=⟨_,rfl⟩;rw [hxx] at p0 p1 p2 p3 p4 p5 p6 hs HX;have HS:=aF hs;have hs12:stB b.blocks k+x.stmts.length+1<=1000000000000:=by omega
  rw [hA];obtain ⟨W1,hW1⟩:∃W,wr.alloc (.cells (bkL x A1 c1 A2 c2 A3 c3 A4 c4).toArray 55)=W:=⟨_,rfl⟩;obtain ⟨hb1,hsw,hnn⟩:=xBT (_b:=0) (_o:=0) _ hW1;have n0:=hnn 0 _ rfl;have HB1:=aF (HB.out.trans (hb1.mono HB.out.size));have HJ1:=aF (HJ.out _ _ _ HJ0.out (Turn.of_below hb1));unfold bkL at hW1;generalize hs0:stB b.blocks k=s0 at *;have HS0:=aF hs0;clear hx hA hxx hcc hle hs hnn hs0;gi_wp2
  gi_loopw [3,6,19] (fun p _ j wr2=>∃m:Nat,p = .int .i64 (s0+m:Nat)/\j = .int .i64 m/\m<=x.stmts.length+1/\Hid (J (List.range (s0+m)) wr2)/\Hid (Below w0.heap.size w0 wr2)/\W.heap.size<=wr2.heap.size) (fun _ _ j _=>x.stmts.length+1 - (intOf j).toNat)
  case atStart=>exact ⟨0,rfl,rfl,by omega,HJ1,HB1,by omega⟩
  case round=>
   clear HJ1 HJ0 p0 p1 p2 p3 p4 p5 p6 n0 hW1;obtain ⟨m,rfl,rfl,hm,HJ2,HB2,hsz2⟩:=hrel;by_cases h3:m<x.stmts.length+1
   case neg=>
    have hme:m=x.stmts.length+1:=(by omega);subst hme;gi_wp2
    go_roundw
    case rel=>exact ⟨k+1,by rw [HS.out],by go_num,by omega,aF (by rw [HS.out];exact HJ2.out),HB2,hsz2⟩
    case measure=>first | (simp [intOf];done) | (simp [intOf];omega)
   case pos=>
   have hlt:s0+m<cntB b.blocks:=by have:=jN HX.out;have:=HS0.out;omega
   obtain ⟨fn,tmps,assign,body,hy,hR⟩:=HYY.out (List.range (s0+m)) (s0+m) _ wr (rI hlt) HJ2.out
   have he:encL b.blocks (s0+m) = #[.int .i64 ((s0:Int)+(m:Int)),.agg #[.int .i64 k,.int .i64 m]]:=by
    unfold encL;rw [<- HS0.out,xDK HX.out (by omega)];push_cast
    rfl
   rw [he] at hy;clear he;gi_wp2
   refine hR.mono ?_;clear hy hR;rintro e W3 (⟨rfl,hJ3,hk3⟩ | ⟨rfl,hJx3⟩)
   ·have HJ3:=aF hJ3;have HB3:=aF (HB2.out.trans (hk3.below (n₀ := w0.heap.size) (fun k hk=> .inl hk) HB2.out.size));have hsz3:=hk3.size;clear hJ3 hk3;gi_wp2
    go_roundw
    case rel=>exact ⟨m+1,by go_num,by go_num,by omega,aF (by rw [<- Nat.add_assoc,List.range_succ];exact HJ3.out),HB3,by omega⟩
    case measure=>first | (simp [intOf];done) | (simp [intOf];omega)
   ·have HJX:=aF hJx3;have HR2:=aF (rI hlt);clear hJx3;gi_wp2
    refine bodyPost_ret (results_none rfl _ _ _) rfl ?_;exact ⟨⟨_,rfl⟩,.inr ⟨_,_,_,HR2.out,HJX.out⟩⟩
end
section
open Go Go.RowKit Go.Maps
attribute [local irreducible] Calls
theorem pS (b:Bdy) (bh:BH) (w:World) (hT:TabsOk w) (H:BdAt w b bh) (hc:¬chkB b=0):
 Calls Tryz.prog 18 #[.agg (bdC b bh).toArray] w fun e' w'=>e' = .returned (.tuple #[.slice none 0 0,.int .i64 16])/\Below w.heap.size w w':=by
 have HK:=aF (fun (W:World) (hb:Below w.heap.size w W)=>sQ b bh W (H.keep hb) (hT.keep hb));obtain ⟨A1,c1,A2,c2,A3,c3,A4,c4,A5,c5⟩:=bh;unfold bdC at *;simp only at *;have e0:(chkB b != 0)=true:=by simp [hc]
 obtain ⟨W0,hW0⟩:∃W,w.alloc (.cells ([Value.string b.name,.slice A1 b.regions.length c1,.slice A2 b.outl.length c2,.slice A3 b.types.length c3,.slice A4 b.locals.length c4,.int .i64 b.args,.slice A5 b.blocks.length c5]).toArray 28)=W:=⟨_,rfl⟩;have hb0:Below w.heap.size w W0:=by rw [<- hW0];exact (aX _ _).alloc (aY _) _
 have HB0:=aF hb0;have hcx:=cQ w [Value.string b.name,.slice A1 b.regions.length c1,.slice A2 b.outl.length c2,.slice A3 b.types.length c3,.slice A4 b.locals.length c4,.int .i64 b.args,.slice A5 b.blocks.length c5] 28;rw [hW0] at hcx;have y0:=hcx 0 _ rfl;have y1:=hcx 1 _ rfl;have y2:=hcx 2 _ rfl;have y3:=hcx 3 _ rfl;have y4:=hcx 4 _ rfl;have y5:=hcx 5 _ rfl;have y6:=hcx 6 _ rfl;clear hcx hb0 H hT hc;go_enter Tryz.func18,Tryz.ntmps18
 go_wp2_with (go_at_call 44;refine (HK.out _ HB0.out).mono ?_;rintro e' w1 ⟨rfl,hw1⟩)
 go_ret2
 exact ⟨rfl,HB0.out.trans (hw1.mono HB0.out.size)⟩
end
end Go.Proofs.YtcfchohkmkilpaaGreatDoor
