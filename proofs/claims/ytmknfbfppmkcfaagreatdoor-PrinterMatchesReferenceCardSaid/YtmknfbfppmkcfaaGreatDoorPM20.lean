/-
  Parts of the proof: V53 V52.
-/
import Derived.Test.YtmknfbfppmkcfaaGreatDoorPM0
import Derived.Test.YtmknfbfppmkcfaaGreatDoorPM12
import Derived.Test.YtmknfbfppmkcfaaGreatDoorPM15
import Derived.Test.YtmknfbfppmkcfaaGreatDoorPM8
import Derived.Test.YtmknfbfppmkcfaaGreatDoorPM10
namespace Go.Proofs.YtmknfbfppmkcfaaGreatDoor
set_option maxRecDepth 100000
set_option maxHeartbeats 16000000
section
open Go Go.RowKit Go.Maps
theorem qM (b:Bdy) (bh:BH) (w:World) (H:BdAt w b bh) (hz:∀x∈b.blocks,x.term.name.size<=9223372036854775807)
 (hdecl:∀W,Below w.heap.size w W->Calls Tryz.prog 54 #[.agg (bdC b bh).toArray] W fun e' w'=>e' = .returned (.int .i64 (declC b))/\Below W.heap.size W w')
 (hstm:declC b=0->∀W,Below w.heap.size w W->∀(s:Stm) (A0 A B:Option Addr) (c0 c d:Nat),Slc 2 RPj w A0 c0 s.place.proj->Slc 2 RPj w A c s.rv.place.proj->Slc 4 ROp w B d s.rv.args->
   Calls Tryz.prog 55 #[.agg (bdC b bh).toArray,.agg (stC s A0 c0 A c B d).toArray] W fun e' w'=>e' = .returned (.int .i64 (stE b s))/\Below W.heap.size W w')
 (htm:declC b=0->∀W,Below w.heap.size w W->∀(t:Trm) (A B C:Option Addr) (c d f:Nat),Slc 1 RInt w A c t.targets->Slc 4 ROp w B d t.args->Slc 2 RPj w C f t.place.proj->t.name.size<=9223372036854775807->
   Calls Tryz.prog 56 #[.agg (bdC b bh).toArray,.agg (tmC t A c B d C f).toArray] W fun e' w'=>e' = .returned (.int .i64 (tmE b t))/\Below W.heap.size W w'):
 Calls Tryz.prog 17 #[.agg (bdC b bh).toArray] w fun e' w'=>e' = .returned (.int .i64 (chkB b))/\Below w.heap.size w w':=by
 have HZ:=aF hz;have HD:=aF hdecl;have HST:=aF hstm;have HTM:=aF htm;have HBLK:=aF H.blk;have hbl:=H.blk.le;have hbg:=H.blk.big;obtain ⟨R,hR⟩:∃R,chkB b=R:=⟨_,rfl⟩;rw [hR];have HR:Hid (R=if declC b=0 then bksE b b.blocks else declC b):=aF hR.symm;have HNB:=aF (fun h=>(dS (b:=b) h).nblk.1);clear hR H hdecl hstm htm hz;unfold bdC at *;by_cases hd:declC b=0
 case neg=>
  have HF:Hid (R=declC b):=aF (by rw [HR.out,aZ hd]);generalize declC b=de at HD HF hd;have e1:(de != 0)=true:=by simp [hd]
  clear HR HST HTM HNB hd;go_enter Tryz.func17,Tryz.ntmps17
  go_wp2_with (go_at_call 54;refine (HD.out _ ((aX _ _).alloc (aY _) _)).mono ?_;rintro e' w1 ⟨rfl,hb1⟩;have HB:=aF (((aX _ _).alloc (aY _) _).trans (hb1.mono ((aX _ _).alloc (aY _) _).size));clear hb1)
  go_ret;exact ⟨by rw [HF.out];rfl,HB.out⟩
 case pos=>
 have HF:Hid (R=bksE b b.blocks):=aF (by rw [HR.out,bA hd]);have HSM:=aF (HST.out hd);have HTT0:=aF (HTM.out hd);obtain ⟨bb,oo,hA5,hbb,hel⟩:=HBLK.out.sl (HNB.out hd);have HEL:=aF hel;rw [hd] at HD;clear HR HST HTM HNB hd hel;rw [hA5] at HD HSM HTT0 ⊢;have HCW:=aF (cX w [Value.string b.name,.slice bh.A1 b.regions.length bh.c1,.slice bh.A2 b.outl.length bh.c2,.slice bh.A3 b.types.length bh.c3,.slice bh.A4 b.locals.length bh.c4,.int .i64 b.args,.slice (some ⟨bb,oo,none⟩) b.blocks.length bh.c5] 28);go_enter Tryz.func17,Tryz.ntmps17
 go_wp2_with (go_at_call 54;refine (HD.out _ ((aX _ _).alloc (aY _) _)).mono ?_;rintro e' w1 ⟨rfl,hb1⟩;have HB:=aF (((aX _ _).alloc (aY _) _).trans (hb1.mono ((aX _ _).alloc (aY _) _).size));have HC1:=aF (cO HCW.out hb1);have hsz1:w.heap.size<w1.heap.size:=bO (by simp) hb1.size;clear hb1)
 go_loopg [4] b.blocks.length (fun gk i wr=>∃k:Nat,gk=b.blocks.length - k/\k<=b.blocks.length/\i = .int .i64 k/\Hid (aA (bdM b bh.A1 bh.c1 bh.A2 bh.c2 bh.A3 bh.c3 bh.A4 bh.c4 (some ⟨bb,oo,none⟩) bh.c5 []) wr w.heap.size)/\Hid (Below w.heap.size w wr)/\w.heap.size<wr.heap.size/\Hid (R=bksE b (b.blocks.drop k)))
 case atStart=>exact ⟨0,by omega,by omega,rfl,HC1,HB,hsz1,HF⟩
 case round=>
  clear HC1 HB HF HCW;obtain ⟨k,hgk,hk,rfl,HCC,HB3,hlw3,hr⟩:=hrel;obtain ⟨y0,y1,y2,y3,y4,y5,y6⟩:=aS HCC.out;by_cases hlt:k<b.blocks.length
  ·have hd:=cY hlt;have hx:=HEL.out k _ (bD hlt);have hxz:=HZ.out _ (bN hlt);obtain ⟨x,hxx⟩:∃x,b.blocks[k]=x:=⟨_,rfl⟩;rw [hxx] at hd hx hxz;obtain ⟨A1,c1,A2,c2,A3,c3,A4,c4,p0,p1,p2,p3,p4,p5,p6,hs1,hs2,hs3,hs4⟩:=lX hx;have HQ:Hid (R=if bkE b x=0 then bksE b (b.blocks.drop (k+1)) else bkE b x):=aF (by rw [hr.out,hd,bksE]);have HS1:=aF hs1;have hl1:=hs1.le;have hg1:=hs1.big;have HTT:=aF (fun W hb=>HTT0.out W hb x.term A2 A3 A4 c2 c3 c4 hs2 hs3 hs4 hxz);unfold tmC at HTT;replace p0:=cN HB3.out p0;replace p1:=cN HB3.out p1;replace p2:=cN HB3.out p2;replace p3:=cN HB3.out p3;replace p4:=cN HB3.out p4;replace p5:=cN HB3.out p5;replace p6:=cN HB3.out p6;clear hd hx hxx hr hs1 hs2 hs3 hs4 hxz;by_cases hln:65535<x.stmts.length
   ·have HF:Hid (R=15):=aF (by rw [HQ.out];unfold bkE;rw [bA hln];rfl);clear HQ;go_wp2_with fail
    go_ret;exact ⟨by rw [HF.out];rfl,HB3.out.alloc (Nat.le_of_lt hlw3) _⟩
   have HQ2:Hid (R=if stsE b (x.stmts.drop 0)=0 then (if tmE b x.term=0 then bksE b (b.blocks.drop (k+1)) else tmE b x.term) else stsE b (x.stmts.drop 0)):=aF (by
    rw [HQ.out,bX];unfold bkE;rw [aZ hln]
    by_cases h:stsE b x.stmts=0 <;> simp [h])
   have HBK:=aF (cX wr (bkL x A1 c1 A2 c2 A3 c3 A4 c4) 64);have HCC2:Hid (∀i v,[Value.string b.name,.slice bh.A1 b.regions.length bh.c1,.slice bh.A2 b.outl.length bh.c2,.slice bh.A3 b.types.length bh.c3,.slice bh.A4 b.locals.length bh.c4,.int .i64 b.args,.slice (some ⟨bb,oo,none⟩) b.blocks.length bh.c5][i]?=some v->(wr.alloc (.cells (bkL x A1 c1 A2 c2 A3 c3 A4 c4).toArray 64)).cell? ⟨w.heap.size,i,none⟩=some v):=aF (fun i v hi=>cN ((aX _ _).alloc (aY _) _) (HCC.out i v hi));have HB4:=aF (HB3.out.alloc (Nat.le_of_lt hlw3) (.cells (bkL x A1 c1 A2 c2 A3 c3 A4 c4).toArray 64));obtain ⟨gx,hgx⟩:∃g,wr.heap.size=g:=⟨_,rfl⟩;clear HQ;go_wp2_with fail
   go_loopg [6] x.stmts.length (fun gj i wr2=>∃j:Nat,gj=x.stmts.length - j/\j<=x.stmts.length/\i = .int .i64 j/\Hid (aA (bdM b bh.A1 bh.c1 bh.A2 bh.c2 bh.A3 bh.c3 bh.A4 bh.c4 (some ⟨bb,oo,none⟩) bh.c5 []) wr2 w.heap.size)/\Hid (aA (bkL x A1 c1 A2 c2 A3 c3 A4 c4) wr2 wr.heap.size)/\Hid (Below w.heap.size w wr2)/\wr.heap.size+1<=wr2.heap.size/\Hid (R=if stsE b (x.stmts.drop j)=0 then (if tmE b x.term=0 then bksE b (b.blocks.drop (k+1)) else tmE b x.term) else stsE b (x.stmts.drop j)))
   case atStart=>exact ⟨0,by omega,by omega,rfl,HCC2,HBK,HB4,by simp,HQ2⟩
   case round=>
    clear HCC2 HBK HB4 HQ2 p0 p1 p2 p3 p4 p5 p6 HCC HB3 y0 y1 y2 y3 y4 y5 y6;obtain ⟨j,hgj,hj,rfl,HCC,HBK,HB5,hsz5,hr⟩:=hrel;have hlw5:=Nat.lt_of_succ_le hsz5;have hlw6:=Nat.lt_trans hlw3 hlw5;rw [hgx] at HBK hlw5 hsz5;by_cases hjl:j<x.stmts.length
    ·have hd:=cY hjl;obtain ⟨b3,o3,hA1,hb3,hy⟩:=HS1.out.sl.at_ hjl;have HA1:=aF hA1;clear hA1;obtain ⟨s,hss⟩:∃s,x.stmts[j]=s:=⟨_,rfl⟩;rw [hss] at hd hy;obtain ⟨B0,d0,B1,d1,B2,d2,m0,m1,m2,m3,m4,m5,m6,m7,m8,m9,m10,hp0,hp,hl⟩:=kR hy;have HSS:=aF (fun W hb=>HSM.out W hb s B0 B1 B2 d0 d1 d2 hp0 hp hl);unfold stC at HSS
     have hmm:∀X,Below w.heap.size w X->∀i v,(stC s B0 d0 B1 d1 B2 d2)[i]?=some v->X.cell? ⟨b3,o3+j * 11+i,none⟩=some v:=fun X hX i v hi=>by
      refine cN hX ?_;match i,hi with
      | 0,hi=>simp [stC] at hi;subst hi;exact m0
      | 1,hi=>simp [stC] at hi;subst hi;exact m1
      | 2,hi=>simp [stC] at hi;subst hi;exact m2
      | 3,hi=>simp [stC] at hi;subst hi;exact m3
      | 4,hi=>simp [stC] at hi;subst hi;exact m4
      | 5,hi=>simp [stC] at hi;subst hi;exact m5
      | 6,hi=>simp [stC] at hi;subst hi;exact m6
      | 7,hi=>simp [stC] at hi;subst hi;exact m7
      | 8,hi=>simp [stC] at hi;subst hi;exact m8
      | 9,hi=>simp [stC] at hi;subst hi;exact m9
      | 10,hi=>simp [stC] at hi;subst hi;exact m10
      | i+11,hi=>simp [stC] at hi
     have HMM:=aF hmm
     have HQ3:Hid ((stE b s=0->R=if stsE b (x.stmts.drop (j+1))=0 then (if tmE b x.term=0 then bksE b (b.blocks.drop (k+1)) else tmE b x.term) else stsE b (x.stmts.drop (j+1)))/\(stE b s≠0->R=stE b s)):=aF (by
      rw [hr.out,hd];constructor
      ·intro h;rw [show stsE b (s :: x.stmts.drop (j+1))=stsE b (x.stmts.drop (j+1)) from by rw [stsE,bA h]]
      ·intro h;rw [show stsE b (s :: x.stmts.drop (j+1))=stE b s from by rw [stsE,aZ h],aZ h])
     generalize stE b s=es at HSS HQ3;clear hd hy hss hp0 hp hl hr hmm m0 m1 m2 m3 m4 m5 m6 m7 m8 m9 m10;have k0:=HBK.out 0 _ rfl;go_wp2_with fail
     have hS:(aA (bdM b bh.A1 bh.c1 bh.A2 bh.c2 bh.A3 bh.c3 bh.A4 bh.c4 (some ⟨bb,oo,none⟩) bh.c5 []) wr.drew w.heap.size)/\(aA (bkL x A1 c1 A2 c2 A3 c3 A4 c4) wr.drew gx)/\Below w.heap.size w wr.drew:=⟨HCC.out,HBK.out,HB5.out.drew⟩;clear k0;refine cR (S:=fun X=>(aA (bdM b bh.A1 bh.c1 bh.A2 bh.c2 bh.A3 bh.c3 bh.A4 bh.c4 (some ⟨bb,oo,none⟩) bh.c5 []) X w.heap.size)/\(aA (bkL x A1 c1 A2 c2 A3 c3 A4 c4) X gx)/\Below w.heap.size w X) [0,1,2,3,4,5,6,7] (by kernel_rfl) ?_;(iterate 6 (refine cS (v:=?_) ?_ hS ?_;rotate_left;(next=>(rintro X ⟨hX,hY,hZ⟩;obtain ⟨s0,s1,s2,s3,s4,s5,s6⟩:=aS hX;have t0:=hY 0 _ rfl;rw [HA1.out] at t0;have m0:=HMM.out X hZ 0 _ rfl;have m1:=HMM.out X hZ 1 _ rfl;have m2:=HMM.out X hZ 2 _ rfl;have m3:=HMM.out X hZ 3 _ rfl;have m4:=HMM.out X hZ 4 _ rfl;have m5:=HMM.out X hZ 5 _ rfl;have m6:=HMM.out X hZ 6 _ rfl;have m7:=HMM.out X hZ 7 _ rfl;have m8:=HMM.out X hZ 8 _ rfl;have m9:=HMM.out X hZ 9 _ rfl;have m10:=HMM.out X hZ 10 _ rfl;rw [Nat.add_zero] at m0;(try simp only [aI]);go_simp;rfl));simp only [aM]));(refine cV (fun K1 hK1=>?_);simp only [aM];rw [bA (by rfl)];go_simp);refine (HSS.out _ hS.2.2).mono ?_;rintro e' w5 ⟨rfl,hb5⟩;replace hS:=bJ (cO hS.1 hb5) (bJ (cO hS.2.1 hb5) (hS.2.2.trans (hb5.mono hS.2.2.size)));have HS5:=aF hS;have hsz7:wr.heap.size<=w5.heap.size:=hb5.size;clear hb5;refine hK1.out _ _ (fun _=>hS) ?_;clear hK1;((refine cS (v:=?_) ?_ hS ?_;rotate_left;(next=>(rintro X -;(try simp only [aI]);go_simp;rfl));simp only [aM]))
     refine dA ?_;clear hS;by_cases he:es=0
     ·subst he;have HF:=aF (HQ3.out.1 rfl);clear HQ3;go_wp2_with fail
      go_roundg (x.stmts.length - (j+1))
      case measure=>omega
      case rel=>exact ⟨j+1,rfl,by omega,by go_num,aF HS5.out.1,aF (by rw [hgx];exact HS5.out.2.1),aF HS5.out.2.2,by omega,HF⟩
     ·have HF:=aF (HQ3.out.2 he);have e1:(es != 0)=true:=by simp [he]
      clear HQ3 he;go_wp2_with fail
      go_ret;exact ⟨by rw [HF.out];rfl,HS5.out.2.2⟩
    ·have HQ3:Hid (R=if tmE b x.term=0 then bksE b (b.blocks.drop (k+1)) else tmE b x.term):=aF (by rw [hr.out,bE (by omega:x.stmts.length<=j)];rfl);obtain ⟨y0,y1,y2,y3,y4,y5,y6⟩:=aS HCC.out;obtain ⟨k0,k1,k2,k3,k4,k5,k6⟩:=aS HBK.out;generalize tmE b x.term=et at HTT HQ3;clear hr;by_cases he:et=0
     ·subst he;have HF:Hid (R=bksE b (b.blocks.drop (k+1))):=aF (by rw [HQ3.out];rfl);clear HQ3;go_wp2_with (go_at_call 56;refine (HTT.out _ HB5.out).mono ?_;rintro e' w5 ⟨rfl,hb5⟩;have HB7:=aF (HB5.out.trans (hb5.mono HB5.out.size));have HC7:=aF (cO HCC.out hb5);have hsz7:=hb5.size;clear hb5)
      go_roundg (b.blocks.length - (k+1))
      case measure=>omega
      case rel=>exact ⟨k+1,rfl,by omega,by go_num,HC7,HB7,by omega,HF⟩
     ·have HF:Hid (R=et):=aF (by rw [HQ3.out,aZ he]);have e1:(et != 0)=true:=by simp [he]
      clear HQ3 he;go_wp2_with (go_at_call 56;refine (HTT.out _ HB5.out).mono ?_;rintro e' w5 ⟨rfl,hb5⟩;have HB7:=aF (HB5.out.trans (hb5.mono HB5.out.size));clear hb5)
      go_ret;exact ⟨by rw [HF.out];rfl,HB7.out⟩
  ·have HF:Hid (R=0):=aF (by rw [hr.out,bE (by omega:b.blocks.length<=k)];rfl);clear hr;go_wp2_with fail
   go_ret;exact ⟨by rw [HF.out];rfl,HB3.out⟩
theorem wE {b:Bdy} {bh:BH} {w:World} (H:Rk w b bh) (s:Stm) (A0 A B:Option Addr) (c0 c d:Nat) (hp0:Slc 2 RPj w A0 c0 s.place.proj) (hl:Slc 4 ROp w B d s.rv.args)
 (hasg:∀W,Below w.heap.size w W->∀t:Nat,t<b.types.length->Calls Tryz.prog 97 #[.agg (bdC b bh).toArray,.agg (rvC s.rv A c B d).toArray,.int .i64 t] W fun e' w'=>e' = .returned (.int .i64 (rvE b s.rv t))/\Below W.heap.size W w'):
 Calls Tryz.prog 55 #[.agg (bdC b bh).toArray,.agg (stC s A0 c0 A c B d).toArray] w fun e' w'=>e' = .returned (.int .i64 (stE b s))/\Below w.heap.size w w':=by
 have HT:=aF (fun W (hb:Below w.heap.size w W)=>eD b bh s.place A0 c0 W (H.keep hb).at_ (hp0.keep RPj.keeps hb) H.ok.okay);have HM:=aF (fun W (hb:Below w.heap.size w W)=>kY b bh s.place A0 c0 W (H.keep hb).at_ (hp0.keep RPj.keeps hb) H.ok.okay);have HN:=aF (fun W=>dQ s.place A0 c0 W);have HBK:=aF (fun W=>uJ s.rv A B c d W);have hlocl:=H.at_.loc.le;have hlocb:=H.at_.loc.big;have hin:=fM H.ok.okay (l:=s.place.loc) (ps:=s.place.proj);change (tyB b s.place).2=0->0<=(tyB b s.place).1/\(tyB b s.place).1<b.types.length at hin;have HAS0:=aF hasg;obtain ⟨R,hR⟩:∃R,stE b s=R:=⟨_,rfl⟩;rw [hR];have HR:Hid (R=if s.kind=0 then (if s.loc≠0 then 2 else if writE b s.place≠0 then writE b s.place else rvE b s.rv (tyB b s.place).1) else if s.kind=1 then (if zeroP s.place=false\/blankR s.rv=false then 2 else if s.loc<0\/(b.locals.length:Int)<=s.loc then 3 else 0) else if s.kind=2 then (if zeroP s.place=false\/blankR s.rv=false\/s.loc≠0 then 2 else 0) else 14):=aF hR.symm;have HW:Hid (writE b s.place=if (tyB b s.place).2≠0 then (tyB b s.place).2 else fail22 (!mutB b s.place)):=aF rfl;clear H hp0 hl hR hasg;generalize writE b s.place=we at HR HW;generalize tyB b s.place=q at HT HR HW hin;generalize mutB b s.place=mu at HM HW;generalize zeroP s.place=z at HN HR;generalize blankR s.rv=bl at HBK HR;obtain ⟨t,te⟩:=q;simp only at HR HW hin HT;unfold bdC at *;unfold rvC at HBK HAS0;unfold stC;obtain ⟨k,hk⟩:∃k,s.kind=k:=⟨_,rfl⟩;rw [hk] at HR ⊢;clear hk;by_cases h0:k=0
 ·subst h0;clear HN HBK;by_cases hl0:s.loc=0
  case neg=>
   have HF:Hid (R=2):=aF (by rw [HR.out];simp [hl0]);have e1:(s.loc != 0)=true:=by simp [hl0]
   clear HR HW HM HT HAS0 hl0 hin;go_enter Tryz.func55,Tryz.ntmps55
   go_wp2_with fail
   go_ret;exact ⟨by rw [HF.out];rfl,aH⟩
  have e1:(s.loc != 0)=false:=by simp [hl0]
  by_cases ht:te=0
  case neg=>
   have HF:Hid (R=te):=aF (by rw [HR.out,bA rfl,aZ (by simp [hl0]),HW.out];simp [ht]);have e2:(te != 0)=true:=by simp [ht]
   clear HR HW HM HAS0 hl0 hin ht;go_enter Tryz.func55,Tryz.ntmps55
   go_wp2_with (go_at_call 95;refine (HT.out _ (bel2 _ _ _)).mono ?_;rintro e' w1 ⟨rfl,hb⟩;have HB:=aF ((bel2 _ _ _).trans (hb.mono (bel2 _ _ _).size));obtain ⟨y,z⟩:=cW hb;have HY:=aF y;have HZ:=aF z;obtain ⟨y0,y1,y2,y3,y4,y5,y6⟩:=aS HY.out;obtain ⟨z0,z1,z2,z3,z4,z5,z6,z7,z8,z9,z10⟩:=aW HZ.out;clear y z hb)
   go_ret;exact ⟨by rw [HF.out];rfl,HB.out⟩
  subst ht;obtain ⟨g1,g2⟩:=hin rfl;obtain ⟨i,rfl⟩:=bG g1;have HAS:=aF (fun W hb=>HAS0.out W hb i (by omega));cases mu
  ·have HF:Hid (R=22):=aF (by rw [HR.out,bA rfl,aZ (by simp [hl0]),HW.out];simp [fail22]);clear HR HW HAS HAS0 hl0 hin g1 g2;go_enter Tryz.func55,Tryz.ntmps55
   go_wp2_with (first | (go_at_call 96;refine (HM.out _ HB.out).mono ?_;rintro e' w2 ⟨rfl,hb⟩;have HB2:=aF (HB.out.trans (hb.mono HB.out.size));have HY2:=aF (cO HY.out hb);have HZ2:=aF (cO HZ.out hb);clear y0 y1 y2 y3 y4 y5 y6 z0 z1 z2 z3 z4 z5 z6 z7 z8 z9 z10;clear hb HY HZ;have HY:=HY2;have HZ:=HZ2;obtain ⟨y0,y1,y2,y3,y4,y5,y6⟩:=aS HY.out;obtain ⟨z0,z1,z2,z3,z4,z5,z6,z7,z8,z9,z10⟩:=aW HZ.out) | (go_at_call 95;refine (HT.out _ (bel2 _ _ _)).mono ?_;rintro e' w1 ⟨rfl,hb⟩;have HB:=aF ((bel2 _ _ _).trans (hb.mono (bel2 _ _ _).size));obtain ⟨y,z⟩:=cW hb;have HY:=aF y;have HZ:=aF z;obtain ⟨y0,y1,y2,y3,y4,y5,y6⟩:=aS HY.out;obtain ⟨z0,z1,z2,z3,z4,z5,z6,z7,z8,z9,z10⟩:=aW HZ.out;clear y z hb))
   go_ret;exact ⟨by rw [HF.out];rfl,HB2.out⟩
  ·have HF:Hid (R=rvE b s.rv i):=aF (by rw [HR.out,bA rfl,aZ (by simp [hl0]),HW.out];simp [fail22]);clear HR HW HAS0 hl0 hin g1 g2;go_enter Tryz.func55,Tryz.ntmps55
   go_wp2_with (first | (go_at_call 97;refine (HAS.out _ HB2.out).mono ?_;rintro e' w3 ⟨rfl,hb⟩;have HB3:=aF (HB2.out.trans (hb.mono HB2.out.size));clear hb) | (go_at_call 96;refine (HM.out _ HB.out).mono ?_;rintro e' w2 ⟨rfl,hb⟩;have HB2:=aF (HB.out.trans (hb.mono HB.out.size));have HY2:=aF (cO HY.out hb);have HZ2:=aF (cO HZ.out hb);clear y0 y1 y2 y3 y4 y5 y6 z0 z1 z2 z3 z4 z5 z6 z7 z8 z9 z10;clear hb HY HZ;have HY:=HY2;have HZ:=HZ2;obtain ⟨y0,y1,y2,y3,y4,y5,y6⟩:=aS HY.out;obtain ⟨z0,z1,z2,z3,z4,z5,z6,z7,z8,z9,z10⟩:=aW HZ.out) | (go_at_call 95;refine (HT.out _ (bel2 _ _ _)).mono ?_;rintro e' w1 ⟨rfl,hb⟩;have HB:=aF ((bel2 _ _ _).trans (hb.mono (bel2 _ _ _).size));obtain ⟨y,z⟩:=cW hb;have HY:=aF y;have HZ:=aF z;obtain ⟨y0,y1,y2,y3,y4,y5,y6⟩:=aS HY.out;obtain ⟨z0,z1,z2,z3,z4,z5,z6,z7,z8,z9,z10⟩:=aW HZ.out;clear y z hb))
   go_ret;exact ⟨by rw [HF.out];rfl,HB3.out⟩
 clear HM HT HAS0 HW hin;by_cases h1:k=1
 ·subst h1;cases z
  ·have HF:Hid (R=2):=aF (by rw [HR.out];simp);clear HR HBK h0;go_enter Tryz.func55,Tryz.ntmps55
   go_wp2_with (go_at_call 98;refine (HN.out _).mono ?_;rintro e' w1 ⟨rfl,hb⟩;have HB:=aF ((bel2 _ _ _).trans (hb.mono (bel2 _ _ _).size));obtain ⟨y,z⟩:=cW hb;have HY:=aF y;have HZ:=aF z;obtain ⟨y0,y1,y2,y3,y4,y5,y6⟩:=aS HY.out;obtain ⟨z0,z1,z2,z3,z4,z5,z6,z7,z8,z9,z10⟩:=aW HZ.out;clear y z hb)
   go_ret;exact ⟨by rw [HF.out];rfl,HB.out⟩
  cases bl
  ·have HF:Hid (R=2):=aF (by rw [HR.out];simp);clear HR h0;go_enter Tryz.func55,Tryz.ntmps55
   go_wp2_with (first | (go_at_call 99;refine (HBK.out _).mono ?_;rintro e' w2 ⟨rfl,hb⟩;have HB2:=aF (HB.out.trans (hb.mono HB.out.size));have HY2:=aF (cO HY.out hb);have HZ2:=aF (cO HZ.out hb);clear y0 y1 y2 y3 y4 y5 y6 z0 z1 z2 z3 z4 z5 z6 z7 z8 z9 z10;clear hb HY HZ;have HY:=HY2;have HZ:=HZ2;obtain ⟨y0,y1,y2,y3,y4,y5,y6⟩:=aS HY.out;obtain ⟨z0,z1,z2,z3,z4,z5,z6,z7,z8,z9,z10⟩:=aW HZ.out) | (go_at_call 98;refine (HN.out _).mono ?_;rintro e' w1 ⟨rfl,hb⟩;have HB:=aF ((bel2 _ _ _).trans (hb.mono (bel2 _ _ _).size));obtain ⟨y,z⟩:=cW hb;have HY:=aF y;have HZ:=aF z;obtain ⟨y0,y1,y2,y3,y4,y5,y6⟩:=aS HY.out;obtain ⟨z0,z1,z2,z3,z4,z5,z6,z7,z8,z9,z10⟩:=aW HZ.out;clear y z hb))
   go_ret;exact ⟨by rw [HF.out];rfl,HB2.out⟩
  by_cases hlo:s.loc<0\/(b.locals.length:Int)<=s.loc
  ·have HF:Hid (R=3):=aF (by rw [HR.out,aZ h0,bA rfl,aZ (by simp),bA hlo]);clear HR h0;go_enter Tryz.func55,Tryz.ntmps55
   go_wp2_with (first | (go_at_call 99;refine (HBK.out _).mono ?_;rintro e' w2 ⟨rfl,hb⟩;have HB2:=aF (HB.out.trans (hb.mono HB.out.size));have HY2:=aF (cO HY.out hb);have HZ2:=aF (cO HZ.out hb);clear y0 y1 y2 y3 y4 y5 y6 z0 z1 z2 z3 z4 z5 z6 z7 z8 z9 z10;clear hb HY HZ;have HY:=HY2;have HZ:=HZ2;obtain ⟨y0,y1,y2,y3,y4,y5,y6⟩:=aS HY.out;obtain ⟨z0,z1,z2,z3,z4,z5,z6,z7,z8,z9,z10⟩:=aW HZ.out) | (go_at_call 98;refine (HN.out _).mono ?_;rintro e' w1 ⟨rfl,hb⟩;have HB:=aF ((bel2 _ _ _).trans (hb.mono (bel2 _ _ _).size));obtain ⟨y,z⟩:=cW hb;have HY:=aF y;have HZ:=aF z;obtain ⟨y0,y1,y2,y3,y4,y5,y6⟩:=aS HY.out;obtain ⟨z0,z1,z2,z3,z4,z5,z6,z7,z8,z9,z10⟩:=aW HZ.out;clear y z hb))
   all_goals first
    | (exfalso;omega)
    | (go_ret;exact ⟨by rw [HF.out];rfl,HB2.out⟩)
  ·have HF:Hid (R=0):=aF (by rw [HR.out,aZ h0,bA rfl,aZ (by simp),aZ hlo]);have e5:¬s.loc<0:=by omega
   have e6:¬(b.locals.length:Int)<=s.loc:=by omega
   clear HR h0 hlo;go_enter Tryz.func55,Tryz.ntmps55
   go_wp2_with (first | (go_at_call 99;refine (HBK.out _).mono ?_;rintro e' w2 ⟨rfl,hb⟩;have HB2:=aF (HB.out.trans (hb.mono HB.out.size));have HY2:=aF (cO HY.out hb);have HZ2:=aF (cO HZ.out hb);clear y0 y1 y2 y3 y4 y5 y6 z0 z1 z2 z3 z4 z5 z6 z7 z8 z9 z10;clear hb HY HZ;have HY:=HY2;have HZ:=HZ2;obtain ⟨y0,y1,y2,y3,y4,y5,y6⟩:=aS HY.out;obtain ⟨z0,z1,z2,z3,z4,z5,z6,z7,z8,z9,z10⟩:=aW HZ.out) | (go_at_call 98;refine (HN.out _).mono ?_;rintro e' w1 ⟨rfl,hb⟩;have HB:=aF ((bel2 _ _ _).trans (hb.mono (bel2 _ _ _).size));obtain ⟨y,z⟩:=cW hb;have HY:=aF y;have HZ:=aF z;obtain ⟨y0,y1,y2,y3,y4,y5,y6⟩:=aS HY.out;obtain ⟨z0,z1,z2,z3,z4,z5,z6,z7,z8,z9,z10⟩:=aW HZ.out;clear y z hb))
   all_goals first
    | (exfalso;omega)
    | (go_ret;exact ⟨by rw [HF.out];rfl,HB2.out⟩)
 by_cases h2:k=2
 ·subst h2;cases z
  ·have HF:Hid (R=2):=aF (by rw [HR.out];simp);clear HR HBK h0 h1;go_enter Tryz.func55,Tryz.ntmps55
   go_wp2_with (go_at_call 98;refine (HN.out _).mono ?_;rintro e' w1 ⟨rfl,hb⟩;have HB:=aF ((bel2 _ _ _).trans (hb.mono (bel2 _ _ _).size));obtain ⟨y,z⟩:=cW hb;have HY:=aF y;have HZ:=aF z;obtain ⟨y0,y1,y2,y3,y4,y5,y6⟩:=aS HY.out;obtain ⟨z0,z1,z2,z3,z4,z5,z6,z7,z8,z9,z10⟩:=aW HZ.out;clear y z hb)
   go_ret;exact ⟨by rw [HF.out];rfl,HB.out⟩
  cases bl
  ·have HF:Hid (R=2):=aF (by rw [HR.out];simp);clear HR h0 h1;go_enter Tryz.func55,Tryz.ntmps55
   go_wp2_with (first | (go_at_call 99;refine (HBK.out _).mono ?_;rintro e' w2 ⟨rfl,hb⟩;have HB2:=aF (HB.out.trans (hb.mono HB.out.size));have HY2:=aF (cO HY.out hb);have HZ2:=aF (cO HZ.out hb);clear y0 y1 y2 y3 y4 y5 y6 z0 z1 z2 z3 z4 z5 z6 z7 z8 z9 z10;clear hb HY HZ;have HY:=HY2;have HZ:=HZ2;obtain ⟨y0,y1,y2,y3,y4,y5,y6⟩:=aS HY.out;obtain ⟨z0,z1,z2,z3,z4,z5,z6,z7,z8,z9,z10⟩:=aW HZ.out) | (go_at_call 98;refine (HN.out _).mono ?_;rintro e' w1 ⟨rfl,hb⟩;have HB:=aF ((bel2 _ _ _).trans (hb.mono (bel2 _ _ _).size));obtain ⟨y,z⟩:=cW hb;have HY:=aF y;have HZ:=aF z;obtain ⟨y0,y1,y2,y3,y4,y5,y6⟩:=aS HY.out;obtain ⟨z0,z1,z2,z3,z4,z5,z6,z7,z8,z9,z10⟩:=aW HZ.out;clear y z hb))
   go_ret;exact ⟨by rw [HF.out];rfl,HB2.out⟩
  by_cases hlo:s.loc=0
  ·have HF:Hid (R=0):=aF (by rw [HR.out];simp [hlo]);have e5:(s.loc != 0)=false:=by simp [hlo]
   clear HR h0 h1 hlo;go_enter Tryz.func55,Tryz.ntmps55
   go_wp2_with (first | (go_at_call 99;refine (HBK.out _).mono ?_;rintro e' w2 ⟨rfl,hb⟩;have HB2:=aF (HB.out.trans (hb.mono HB.out.size));have HY2:=aF (cO HY.out hb);have HZ2:=aF (cO HZ.out hb);clear y0 y1 y2 y3 y4 y5 y6 z0 z1 z2 z3 z4 z5 z6 z7 z8 z9 z10;clear hb HY HZ;have HY:=HY2;have HZ:=HZ2;obtain ⟨y0,y1,y2,y3,y4,y5,y6⟩:=aS HY.out;obtain ⟨z0,z1,z2,z3,z4,z5,z6,z7,z8,z9,z10⟩:=aW HZ.out) | (go_at_call 98;refine (HN.out _).mono ?_;rintro e' w1 ⟨rfl,hb⟩;have HB:=aF ((bel2 _ _ _).trans (hb.mono (bel2 _ _ _).size));obtain ⟨y,z⟩:=cW hb;have HY:=aF y;have HZ:=aF z;obtain ⟨y0,y1,y2,y3,y4,y5,y6⟩:=aS HY.out;obtain ⟨z0,z1,z2,z3,z4,z5,z6,z7,z8,z9,z10⟩:=aW HZ.out;clear y z hb))
   go_ret;exact ⟨by rw [HF.out];rfl,HB2.out⟩
  ·have HF:Hid (R=2):=aF (by rw [HR.out];simp [hlo]);have e5:(s.loc != 0)=true:=by simp [hlo]
   clear HR h0 h1 hlo;go_enter Tryz.func55,Tryz.ntmps55
   go_wp2_with (first | (go_at_call 99;refine (HBK.out _).mono ?_;rintro e' w2 ⟨rfl,hb⟩;have HB2:=aF (HB.out.trans (hb.mono HB.out.size));have HY2:=aF (cO HY.out hb);have HZ2:=aF (cO HZ.out hb);clear y0 y1 y2 y3 y4 y5 y6 z0 z1 z2 z3 z4 z5 z6 z7 z8 z9 z10;clear hb HY HZ;have HY:=HY2;have HZ:=HZ2;obtain ⟨y0,y1,y2,y3,y4,y5,y6⟩:=aS HY.out;obtain ⟨z0,z1,z2,z3,z4,z5,z6,z7,z8,z9,z10⟩:=aW HZ.out) | (go_at_call 98;refine (HN.out _).mono ?_;rintro e' w1 ⟨rfl,hb⟩;have HB:=aF ((bel2 _ _ _).trans (hb.mono (bel2 _ _ _).size));obtain ⟨y,z⟩:=cW hb;have HY:=aF y;have HZ:=aF z;obtain ⟨y0,y1,y2,y3,y4,y5,y6⟩:=aS HY.out;obtain ⟨z0,z1,z2,z3,z4,z5,z6,z7,z8,z9,z10⟩:=aW HZ.out;clear y z hb))
   go_ret;exact ⟨by rw [HF.out];rfl,HB2.out⟩
 have HF:Hid (R=14):=aF (by rw [HR.out,aZ h0,aZ h1,aZ h2]);have e0:(k == 0)=false:=by simp [h0]
 have e1:(k == 1)=false:=by simp [h1]
 have e2:(k == 2)=false:=by simp [h2]
 clear HR HBK HN h0 h1 h2;go_enter Tryz.func55,Tryz.ntmps55
 go_wp2_with fail
 go_ret;exact ⟨by rw [HF.out];rfl,aH⟩
end
end Go.Proofs.YtmknfbfppmkcfaaGreatDoor
