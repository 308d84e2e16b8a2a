/-
  PrinterFacts: the texts that this claim has beyond those of PrinterPlaces. (part 6)
-/
import Derived.Test.YtmknfbfppmkcfaaGreatDoorNF5
import Derived.Lib.Hide
import Derived.Below
import Derived.WalkSmall
import Derived.Laws.World
import Derived.Test.YtmknfbfppmkcfaaGreatDoorProg
import Derived.WalkKit
import Derived.WalkSpells
import Derived.WalkLawsBesides
import Derived.Deep.RegionHeld3
import Derived.Deep.DeepFit
import Derived.Deep.QuietTactic
import Derived.BigQuiet
import Derived.OwnWalk
import Derived.Maps.AppendAt
import Derived.Deep.DeepCutAuto
import Derived.StillTailTactics
import Derived.Lib.ItoaNum
import Derived.Lib.Join
import Derived.RangeFuncNested
import Derived.RangeFuncBound
import Derived.RangeFuncCalls
import Derived.RangeFuncLeaves
import Derived.OwnWalkIn
import Derived.TacticsInMore
import Derived.LoopNIn
import Derived.LoopIn
import Derived.Shelf.Abstract
import Derived.OrdersHeld
import Derived.Deep.RegionHeld
import Derived.Test.YtmknfbfppmkcfaaGreatDoorSg
import Derived.Maps.OwnSet
import Derived.Maps.OwnOps
import Derived.StringKeys
import Derived.Lib.ItoaLen
import Derived.Deep.LoopGhost
import Derived.WideKeyPair
import Derived.WideKeyArr
import Derived.Deep.MidRow
import Derived.Test.YtmknfbfppmkcfaaGreatDoorSh
import Derived.Laws.IdiomStrings
import Derived.RangeFuncBox
import Derived.Test.YtmknfbfppmkcfaaGreatDoorSj
import Derived.Lib.AppendIntMem
import Derived.Lib.AppendStr
import Derived.Lib.Builder
import Derived.Deep.CutBlock
import Derived.Test.YtmknfbfppmkcfaaGreatDoorRows
import Derived.WalkMore
import Derived.ProofKit
import Derived.Deep.Slices
import Derived.Deep.Fields
import Derived.Lib.SmallJoins
import Derived.OpenShut
import Derived.LaidMore
import Derived.Stop.Joined
import Derived.Stop.LaidErr
import Derived.Lay
import Derived.SevenTiedAt
import Derived.Lib.LaidTab
import Derived.Test.YtmknfbfppmkcfaaGreatDoorTie
import Derived.Test.YtmknfbfppmkcfaaGreatDoorCards
import Derived.JoinedOf
import Derived.SizedLaws
namespace Go.Proofs.YtmknfbfppmkcfaaGreatDoor
set_option maxRecDepth 100000
set_option maxHeartbeats 16000000
section
open Go Go.RowKit Go.Maps
theorem xDN (b:Bdy) (bh:BH) (w:World) (H:BdAt w b bh) (hz:∀x∈b.blocks,x.term.name.size<=9223372036854775807)
 (hdecl:∀W,Below w.heap.size w W->Calls Tryz.prog 54 #[.agg (bdC b bh).toArray] W fun e' w'=>e' = .returned (.int .i64 (declC b))/\Below W.heap.size W w')
 (hstm:declC b=0->∀W,Below w.heap.size w W->∀(s:Stm) (A0 A B:Option Addr) (c0 c d:Nat),Slc 2 RPj w A0 c0 s.place.proj->Slc 2 RPj w A c s.rv.place.proj->Slc 4 ROp w B d s.rv.args->
   Calls Tryz.prog 55 #[.agg (bdC b bh).toArray,.agg (stC s A0 c0 A c B d).toArray] W fun e' w'=>e' = .returned (.int .i64 (stE b s))/\Below W.heap.size W w')
 (htm:declC b=0->∀W,Below w.heap.size w W->∀(t:Trm) (A B C:Option Addr) (c d f:Nat),Slc 1 RInt w A c t.targets->Slc 4 ROp w B d t.args->Slc 2 RPj w C f t.place.proj->t.name.size<=9223372036854775807->
   Calls Tryz.prog 56 #[.agg (bdC b bh).toArray,.agg (tmC t A c B d C f).toArray] W fun e' w'=>e' = .returned (.int .i64 (tmE b t))/\Below W.heap.size W w'):
 Calls Tryz.prog 17 #[.agg (bdC b bh).toArray] w fun e' w'=>e' = .returned (.int .i64 (chkB b))/\Below w.heap.size w w':=by
 have HZ:=aF hz;have HD:=aF hdecl;have HST:=aF hstm;have HTM:=aF htm;have HBLK:=aF H.blk;have hbl:=H.blk.le;have hbg:=H.blk.big;obtain ⟨R,hR⟩:∃R,chkB b=R:=⟨_,rfl⟩;rw [hR];have HR:Hid (R=if declC b=0 then bksE b b.blocks else declC b):=aF hR.symm;have HNB:=aF (fun h=>(eK (b:=b) h).nblk.1);clear hR H hdecl hstm htm hz;unfold bdC at *;by_cases hd:declC b=0
 case neg=>
  have HF:Hid (R=declC b):=aF (by rw [HR.out,aZ hd]);generalize declC b=de at HD HF hd;have e1:(de != 0)=true:=by simp [hd]
  clear HR HST HTM HNB hd;go_enter Tryz.func17,Tryz.ntmps17
  go_wp2_with (go_at_call 54;refine (HD.out _ ((aX _ _).alloc (aY _) _)).mono ?_;rintro e' w1 ⟨rfl,hb1⟩;have HB:=aF (((aX _ _).alloc (aY _) _).trans (hb1.mono ((aX _ _).alloc (aY _) _).size));clear hb1)
  go_ret;exact ⟨by rw [HF.out];rfl,HB.out⟩
 case pos=>
 have HF:Hid (R=bksE b b.blocks):=aF (by rw [HR.out,bA hd]);have HSM:=aF (HST.out hd);have HTT0:=aF (HTM.out hd);obtain ⟨bb,oo,hA5,hbb,hel⟩:=HBLK.out.sl (HNB.out hd);have HEL:=aF hel;rw [hd] at HD;clear HR HST HTM HNB hd hel;rw [hA5] at HD HSM HTT0 ⊢;have HCW:=aF (cP w [Value.string b.name,.slice bh.A1 b.regions.length bh.c1,.slice bh.A2 b.outl.length bh.c2,.slice bh.A3 b.types.length bh.c3,.slice bh.A4 b.locals.length bh.c4,.int .i64 b.args,.slice (some ⟨bb,oo,none⟩) b.blocks.length bh.c5] 28);go_enter Tryz.func17,Tryz.ntmps17
 go_wp2_with (go_at_call 54;refine (HD.out _ ((aX _ _).alloc (aY _) _)).mono ?_;rintro e' w1 ⟨rfl,hb1⟩;have HB:=aF (((aX _ _).alloc (aY _) _).trans (hb1.mono ((aX _ _).alloc (aY _) _).size));have HC1:=aF (cK HCW.out hb1);have hsz1:w.heap.size<w1.heap.size:=bO (by simp) hb1.size;clear hb1)
 go_loopg [4] b.blocks.length (fun gk i wr=>∃k:Nat,gk=b.blocks.length - k/\k<=b.blocks.length/\i = .int .i64 k/\Hid (aA (bdM b bh.A1 bh.c1 bh.A2 bh.c2 bh.A3 bh.c3 bh.A4 bh.c4 (some ⟨bb,oo,none⟩) bh.c5 []) wr w.heap.size)/\Hid (Below w.heap.size w wr)/\w.heap.size<wr.heap.size/\Hid (R=bksE b (b.blocks.drop k)))
 case atStart=>exact ⟨0,by omega,by omega,rfl,HC1,HB,hsz1,HF⟩
 case round=>
  clear HC1 HB HF HCW;obtain ⟨k,hgk,hk,rfl,HCC,HB3,hlw3,hr⟩:=hrel;obtain ⟨y0,y1,y2,y3,y4,y5,y6⟩:=aS HCC.out;by_cases hlt:k<b.blocks.length
  ·have hd:=cS hlt;have hx:=HEL.out k _ (bD hlt);have hxz:=HZ.out _ (bN hlt);obtain ⟨x,hxx⟩:∃x,b.blocks[k]=x:=⟨_,rfl⟩;rw [hxx] at hd hx hxz;obtain ⟨A1,c1,A2,c2,A3,c3,A4,c4,p0,p1,p2,p3,p4,p5,p6,hs1,hs2,hs3,hs4⟩:=nI hx;have HQ:Hid (R=if bkE b x=0 then bksE b (b.blocks.drop (k+1)) else bkE b x):=aF (by rw [hr.out,hd,bksE]);have HS1:=aF hs1;have hl1:=hs1.le;have hg1:=hs1.big;have HTT:=aF (fun W hb=>HTT0.out W hb x.term A2 A3 A4 c2 c3 c4 hs2 hs3 hs4 hxz);unfold tmC at HTT;replace p0:=cJ HB3.out p0;replace p1:=cJ HB3.out p1;replace p2:=cJ HB3.out p2;replace p3:=cJ HB3.out p3;replace p4:=cJ HB3.out p4;replace p5:=cJ HB3.out p5;replace p6:=cJ HB3.out p6;clear hd hx hxx hr hs1 hs2 hs3 hs4 hxz;by_cases hln:65535<x.stmts.length
   ·have HF:Hid (R=15):=aF (by rw [HQ.out];unfold bkE;rw [bA hln];rfl);clear HQ;go_wp2_with fail
    go_ret;exact ⟨by rw [HF.out];rfl,HB3.out.alloc (Nat.le_of_lt hlw3) _⟩
   have HQ2:Hid (R=if stsE b (x.stmts.drop 0)=0 then (if tmE b x.term=0 then bksE b (b.blocks.drop (k+1)) else tmE b x.term) else stsE b (x.stmts.drop 0)):=aF (by
    rw [HQ.out,bX];unfold bkE;rw [aZ hln]
    by_cases h:stsE b x.stmts=0 <;> simp [h])
   have HBK:=aF (cP wr (bkL x A1 c1 A2 c2 A3 c3 A4 c4) 64);have HCC2:Hid (∀i v,[Value.string b.name,.slice bh.A1 b.regions.length bh.c1,.slice bh.A2 b.outl.length bh.c2,.slice bh.A3 b.types.length bh.c3,.slice bh.A4 b.locals.length bh.c4,.int .i64 b.args,.slice (some ⟨bb,oo,none⟩) b.blocks.length bh.c5][i]?=some v->(wr.alloc (.cells (bkL x A1 c1 A2 c2 A3 c3 A4 c4).toArray 64)).cell? ⟨w.heap.size,i,none⟩=some v):=aF (fun i v hi=>cJ ((aX _ _).alloc (aY _) _) (HCC.out i v hi));have HB4:=aF (HB3.out.alloc (Nat.le_of_lt hlw3) (.cells (bkL x A1 c1 A2 c2 A3 c3 A4 c4).toArray 64));obtain ⟨gx,hgx⟩:∃g,wr.heap.size=g:=⟨_,rfl⟩;clear HQ;go_wp2_with fail
   go_loopg [6] x.stmts.length (fun gj i wr2=>∃j:Nat,gj=x.stmts.length - j/\j<=x.stmts.length/\i = .int .i64 j/\Hid (aA (bdM b bh.A1 bh.c1 bh.A2 bh.c2 bh.A3 bh.c3 bh.A4 bh.c4 (some ⟨bb,oo,none⟩) bh.c5 []) wr2 w.heap.size)/\Hid (aA (bkL x A1 c1 A2 c2 A3 c3 A4 c4) wr2 wr.heap.size)/\Hid (Below w.heap.size w wr2)/\wr.heap.size+1<=wr2.heap.size/\Hid (R=if stsE b (x.stmts.drop j)=0 then (if tmE b x.term=0 then bksE b (b.blocks.drop (k+1)) else tmE b x.term) else stsE b (x.stmts.drop j)))
   case atStart=>exact ⟨0,by omega,by omega,rfl,HCC2,HBK,HB4,by simp,HQ2⟩
   case round=>
    clear HCC2 HBK HB4 HQ2 p0 p1 p2 p3 p4 p5 p6 HCC HB3 y0 y1 y2 y3 y4 y5 y6;obtain ⟨j,hgj,hj,rfl,HCC,HBK,HB5,hsz5,hr⟩:=hrel;have hlw5:=Nat.lt_of_succ_le hsz5;have hlw6:=Nat.lt_trans hlw3 hlw5;rw [hgx] at HBK hlw5 hsz5;by_cases hjl:j<x.stmts.length
    ·have hd:=cS hjl;obtain ⟨b3,o3,hA1,hb3,hy⟩:=HS1.out.sl.at_ hjl;have HA1:=aF hA1;clear hA1;obtain ⟨s,hss⟩:∃s,x.stmts[j]=s:=⟨_,rfl⟩;rw [hss] at hd hy;obtain ⟨B0,d0,B1,d1,B2,d2,m0,m1,m2,m3,m4,m5,m6,m7,m8,m9,m10,hp0,hp,hl⟩:=qY hy;have HSS:=aF (fun W hb=>HSM.out W hb s B0 B1 B2 d0 d1 d2 hp0 hp hl);unfold stC at HSS
     have hmm:∀X,Below w.heap.size w X->∀i v,(stC s B0 d0 B1 d1 B2 d2)[i]?=some v->X.cell? ⟨b3,o3+j * 11+i,none⟩=some v:=fun X hX i v hi=>by
      refine cJ hX ?_;match i,hi with
      | 0,hi=>simp [stC] at hi;subst hi;exact m0
      | 1,hi=>simp [stC] at hi;subst hi;exact m1
      | 2,hi=>simp [stC] at hi;subst hi;exact m2
      | 3,hi=>simp [stC] at hi;subst hi;exact m3
      | 4,hi=>simp [stC] at hi;subst hi;exact m4
      | 5,hi=>simp [stC] at hi;subst hi;exact m5
      | 6,hi=>simp [stC] at hi;subst hi;exact m6
      | 7,hi=>simp [stC] at hi;subst hi;exact m7
      | 8,hi=>simp [stC] at hi;subst hi;exact m8
      | 9,hi=>simp [stC] at hi;subst hi;exact m9
      | 10,hi=>simp [stC] at hi;subst hi;exact m10
      | i+11,hi=>simp [stC] at hi
     have HMM:=aF hmm
     have HQ3:Hid ((stE b s=0->R=if stsE b (x.stmts.drop (j+1))=0 then (if tmE b x.term=0 then bksE b (b.blocks.drop (k+1)) else tmE b x.term) else stsE b (x.stmts.drop (j+1)))/\(stE b s≠0->R=stE b s)):=aF (by
      rw [hr.out,hd];constructor
      ·intro h;rw [show stsE b (s :: x.stmts.drop (j+1))=stsE b (x.stmts.drop (j+1)) from by rw [stsE,bA h]]
      ·intro h;rw [show stsE b (s :: x.stmts.drop (j+1))=stE b s from by rw [stsE,aZ h],aZ h])
     generalize stE b s=es at HSS HQ3;clear hd hy hss hp0 hp hl hr hmm m0 m1 m2 m3 m4 m5 m6 m7 m8 m9 m10;have k0:=HBK.out 0 _ rfl;go_wp2_with fail
     have hS:(aA (bdM b bh.A1 bh.c1 bh.A2 bh.c2 bh.A3 bh.c3 bh.A4 bh.c4 (some ⟨bb,oo,none⟩) bh.c5 []) wr.drew w.heap.size)/\(aA (bkL x A1 c1 A2 c2 A3 c3 A4 c4) wr.drew gx)/\Below w.heap.size w wr.drew:=⟨HCC.out,HBK.out,HB5.out.drew⟩;clear k0;refine cQ (S:=fun X=>(aA (bdM b bh.A1 bh.c1 bh.A2 bh.c2 bh.A3 bh.c3 bh.A4 bh.c4 (some ⟨bb,oo,none⟩) bh.c5 []) X w.heap.size)/\(aA (bkL x A1 c1 A2 c2 A3 c3 A4 c4) X gx)/\Below w.heap.size w X) [0,1,2,3,4,5,6,7] (by kernel_rfl) ?_;(iterate 6 (refine cR (v:=?_) ?_ hS ?_;rotate_left;(next=>(rintro X ⟨hX,hY,hZ⟩;obtain ⟨s0,s1,s2,s3,s4,s5,s6⟩:=aS hX;have t0:=hY 0 _ rfl;rw [HA1.out] at t0;have m0:=HMM.out X hZ 0 _ rfl;have m1:=HMM.out X hZ 1 _ rfl;have m2:=HMM.out X hZ 2 _ rfl;have m3:=HMM.out X hZ 3 _ rfl;have m4:=HMM.out X hZ 4 _ rfl;have m5:=HMM.out X hZ 5 _ rfl;have m6:=HMM.out X hZ 6 _ rfl;have m7:=HMM.out X hZ 7 _ rfl;have m8:=HMM.out X hZ 8 _ rfl;have m9:=HMM.out X hZ 9 _ rfl;have m10:=HMM.out X hZ 10 _ rfl;rw [Nat.add_zero] at m0;(try simp only [aI]);go_simp;rfl));simp only [aM]));(refine cM (fun K1 hK1=>?_);simp only [aM];rw [bA (by rfl)];go_simp);refine (HSS.out _ hS.2.2).mono ?_;rintro e' w5 ⟨rfl,hb5⟩;replace hS:=bJ (cK hS.1 hb5) (bJ (cK hS.2.1 hb5) (hS.2.2.trans (hb5.mono hS.2.2.size)));have HS5:=aF hS;have hsz7:wr.heap.size<=w5.heap.size:=hb5.size;clear hb5;refine hK1.out _ _ (fun _=>hS) ?_;clear hK1;((refine cR (v:=?_) ?_ hS ?_;rotate_left;(next=>(rintro X -;(try simp only [aI]);go_simp;rfl));simp only [aM]))
     refine cV ?_;clear hS;by_cases he:es=0
     ·subst he;have HF:=aF (HQ3.out.1 rfl);clear HQ3;go_wp2_with fail
      go_roundg (x.stmts.length - (j+1))
      case measure=>omega
      case rel=>exact ⟨j+1,rfl,by omega,by go_num,aF HS5.out.1,aF (by rw [hgx];exact HS5.out.2.1),aF HS5.out.2.2,by omega,HF⟩
     ·have HF:=aF (HQ3.out.2 he);have e1:(es != 0)=true:=by simp [he]
      clear HQ3 he;go_wp2_with fail
      go_ret;exact ⟨by rw [HF.out];rfl,HS5.out.2.2⟩
    ·have HQ3:Hid (R=if tmE b x.term=0 then bksE b (b.blocks.drop (k+1)) else tmE b x.term):=aF (by rw [hr.out,bE (by omega:x.stmts.length<=j)];rfl);obtain ⟨y0,y1,y2,y3,y4,y5,y6⟩:=aS HCC.out;obtain ⟨k0,k1,k2,k3,k4,k5,k6⟩:=aS HBK.out;generalize tmE b x.term=et at HTT HQ3;clear hr;by_cases he:et=0
     ·subst he;have HF:Hid (R=bksE b (b.blocks.drop (k+1))):=aF (by rw [HQ3.out];rfl);clear HQ3;go_wp2_with (go_at_call 56;refine (HTT.out _ HB5.out).mono ?_;rintro e' w5 ⟨rfl,hb5⟩;have HB7:=aF (HB5.out.trans (hb5.mono HB5.out.size));have HC7:=aF (cK HCC.out hb5);have hsz7:=hb5.size;clear hb5)
      go_roundg (b.blocks.length - (k+1))
      case measure=>omega
      case rel=>exact ⟨k+1,rfl,by omega,by go_num,HC7,HB7,by omega,HF⟩
     ·have HF:Hid (R=et):=aF (by rw [HQ3.out,aZ he]);have e1:(et != 0)=true:=by simp [he]
      clear HQ3 he;go_wp2_with (go_at_call 56;refine (HTT.out _ HB5.out).mono ?_;rintro e' w5 ⟨rfl,hb5⟩;have HB7:=aF (HB5.out.trans (hb5.mono HB5.out.size));clear hb5)
      go_ret;exact ⟨by rw [HF.out];rfl,HB7.out⟩
  ·have HF:Hid (R=0):=aF (by rw [hr.out,bE (by omega:b.blocks.length<=k)];rfl);clear hr;go_wp2_with fail
   go_ret;exact ⟨by rw [HF.out];rfl,HB3.out⟩
end
section
open Go Go.RowKit Go.Maps
theorem xFG {b:Bdy} {bh:BH} {w:World} (H:Rk w b bh) (s:Stm) (A0 A B:Option Addr) (c0 c d:Nat) (hp0:Slc 2 RPj w A0 c0 s.place.proj) (hl:Slc 4 ROp w B d s.rv.args)
 (hasg:∀W,Below w.heap.size w W->∀t:Nat,t<b.types.length->Calls Tryz.prog 97 #[.agg (bdC b bh).toArray,.agg (rvC s.rv A c B d).toArray,.int .i64 t] W fun e' w'=>e' = .returned (.int .i64 (rvE b s.rv t))/\Below W.heap.size W w'):
 Calls Tryz.prog 55 #[.agg (bdC b bh).toArray,.agg (stC s A0 c0 A c B d).toArray] w fun e' w'=>e' = .returned (.int .i64 (stE b s))/\Below w.heap.size w w':=by
 have HT:=aF (fun W (hb:Below w.heap.size w W)=>xAG b bh s.place A0 c0 W (H.keep hb).at_ (hp0.keep RPj.keeps hb) H.ok.okay);have HM:=aF (fun W (hb:Below w.heap.size w W)=>xBB b bh s.place A0 c0 W (H.keep hb).at_ (hp0.keep RPj.keeps hb) H.ok.okay);have HN:=aF (fun W=>xAF s.place A0 c0 W);have HBK:=aF (fun W=>xEX s.rv A B c d W);have hlocl:=H.at_.loc.le;have hlocb:=H.at_.loc.big;have hin:=fZ H.ok.okay (l:=s.place.loc) (ps:=s.place.proj);change (tyB b s.place).2=0->0<=(tyB b s.place).1/\(tyB b s.place).1<b.types.length at hin;have HAS0:=aF hasg;obtain ⟨R,hR⟩:∃R,stE b s=R:=⟨_,rfl⟩;rw [hR];have HR:Hid (R=if s.kind=0 then (if s.loc≠0 then 2 else if writE b s.place≠0 then writE b s.place else rvE b s.rv (tyB b s.place).1) else if s.kind=1 then (if zeroP s.place=false\/dM s.rv=false then 2 else if s.loc<0\/(b.locals.length:Int)<=s.loc then 3 else 0) else if s.kind=2 then (if zeroP s.place=false\/dM s.rv=false\/s.loc≠0 then 2 else 0) else 14):=aF hR.symm;have HW:Hid (writE b s.place=if (tyB b s.place).2≠0 then (tyB b s.place).2 else fail22 (!mutB b s.place)):=aF rfl;clear H hp0 hl hR hasg;generalize writE b s.place=we at HR HW;generalize tyB b s.place=q at HT HR HW hin;generalize mutB b s.place=mu at HM HW;generalize zeroP s.place=z at HN HR;generalize dM s.rv=bl at HBK HR;obtain ⟨t,te⟩:=q;simp only at HR HW hin HT;unfold bdC at *;unfold rvC at HBK HAS0;unfold stC;obtain ⟨k,hk⟩:∃k,s.kind=k:=⟨_,rfl⟩;rw [hk] at HR ⊢;clear hk;by_cases h0:k=0
 ·subst h0;clear HN HBK;by_cases hl0:s.loc=0
  case neg=>
   have HF:Hid (R=2):=aF (by rw [HR.out];simp [hl0]);have e1:(s.loc != 0)=true:=by simp [hl0]
   clear HR HW HM HT HAS0 hl0 hin;go_enter Tryz.func55,Tryz.ntmps55
   go_wp2_with fail
   go_ret;exact ⟨by rw [HF.out];rfl,aH⟩
  have e1:(s.loc != 0)=false:=by simp [hl0]
  by_cases ht:te=0
  case neg=>
   have HF:Hid (R=te):=aF (by rw [HR.out,bA rfl,aZ (by simp [hl0]),HW.out];simp [ht]);have e2:(te != 0)=true:=by simp [ht]
   clear HR HW HM HAS0 hl0 hin ht;go_enter Tryz.func55,Tryz.ntmps55
   go_wp2_with (go_at_call 95;refine (HT.out _ (bel2 _ _ _)).mono ?_;rintro e' w1 ⟨rfl,hb⟩;have HB:=aF ((bel2 _ _ _).trans (hb.mono (bel2 _ _ _).size));obtain ⟨y,z⟩:=cT hb;have HY:=aF y;have HZ:=aF z;obtain ⟨y0,y1,y2,y3,y4,y5,y6⟩:=aS HY.out;obtain ⟨z0,z1,z2,z3,z4,z5,z6,z7,z8,z9,z10⟩:=aW HZ.out;clear y z hb)
   go_ret;exact ⟨by rw [HF.out];rfl,HB.out⟩
  subst ht;obtain ⟨g1,g2⟩:=hin rfl;obtain ⟨i,rfl⟩:=bG g1;have HAS:=aF (fun W hb=>HAS0.out W hb i (by omega));cases mu
  ·have HF:Hid (R=22):=aF (by rw [HR.out,bA rfl,aZ (by simp [hl0]),HW.out];simp [fail22]);clear HR HW HAS HAS0 hl0 hin g1 g2;go_enter Tryz.func55,Tryz.ntmps55
   go_wp2_with (first | (go_at_call 96;refine (HM.out _ HB.out).mono ?_;rintro e' w2 ⟨rfl,hb⟩;have HB2:=aF (HB.out.trans (hb.mono HB.out.size));have HY2:=aF (cK HY.out hb);have HZ2:=aF (cK HZ.out hb);clear y0 y1 y2 y3 y4 y5 y6 z0 z1 z2 z3 z4 z5 z6 z7 z8 z9 z10;clear hb HY HZ;have HY:=HY2;have HZ:=HZ2;obtain ⟨y0,y1,y2,y3,y4,y5,y6⟩:=aS HY.out;obtain ⟨z0,z1,z2,z3,z4,z5,z6,z7,z8,z9,z10⟩:=aW HZ.out) | (go_at_call 95;refine (HT.out _ (bel2 _ _ _)).mono ?_;rintro e' w1 ⟨rfl,hb⟩;have HB:=aF ((bel2 _ _ _).trans (hb.mono (bel2 _ _ _).size));obtain ⟨y,z⟩:=cT hb;have HY:=aF y;have HZ:=aF z;obtain ⟨y0,y1,y2,y3,y4,y5,y6⟩:=aS HY.out;obtain ⟨z0,z1,z2,z3,z4,z5,z6,z7,z8,z9,z10⟩:=aW HZ.out;clear y z hb))
   go_ret;exact ⟨by rw [HF.out];rfl,HB2.out⟩
  ·have HF:Hid (R=rvE b s.rv i):=aF (by rw [HR.out,bA rfl,aZ (by simp [hl0]),HW.out];simp [fail22]);clear HR HW HAS0 hl0 hin g1 g2;go_enter Tryz.func55,Tryz.ntmps55
   go_wp2_with (first | (go_at_call 97;refine (HAS.out _ HB2.out).mono ?_;rintro e' w3 ⟨rfl,hb⟩;have HB3:=aF (HB2.out.trans (hb.mono HB2.out.size));clear hb) | (go_at_call 96;refine (HM.out _ HB.out).mono ?_;rintro e' w2 ⟨rfl,hb⟩;have HB2:=aF (HB.out.trans (hb.mono HB.out.size));have HY2:=aF (cK HY.out hb);have HZ2:=aF (cK HZ.out hb);clear y0 y1 y2 y3 y4 y5 y6 z0 z1 z2 z3 z4 z5 z6 z7 z8 z9 z10;clear hb HY HZ;have HY:=HY2;have HZ:=HZ2;obtain ⟨y0,y1,y2,y3,y4,y5,y6⟩:=aS HY.out;obtain ⟨z0,z1,z2,z3,z4,z5,z6,z7,z8,z9,z10⟩:=aW HZ.out) | (go_at_call 95;refine (HT.out _ (bel2 _ _ _)).mono ?_;rintro e' w1 ⟨rfl,hb⟩;have HB:=aF ((bel2 _ _ _).trans (hb.mono (bel2 _ _ _).size));obtain ⟨y,z⟩:=cT hb;have HY:=aF y;have HZ:=aF z;obtain ⟨y0,y1,y2,y3,y4,y5,y6⟩:=aS HY.out;obtain ⟨z0,z1,z2,z3,z4,z5,z6,z7,z8,z9,z10⟩:=aW HZ.out;clear y z hb))
   go_ret;exact ⟨by rw [HF.out];rfl,HB3.out⟩
 clear HM HT HAS0 HW hin;by_cases h1:k=1
 ·subst h1;cases z
  ·have HF:Hid (R=2):=aF (by rw [HR.out];simp);clear HR HBK h0;go_enter Tryz.func55,Tryz.ntmps55
   go_wp2_with (go_at_call 98;refine (HN.out _).mono ?_;rintro e' w1 ⟨rfl,hb⟩;have HB:=aF ((bel2 _ _ _).trans (hb.mono (bel2 _ _ _).size));obtain ⟨y,z⟩:=cT hb;have HY:=aF y;have HZ:=aF z;obtain ⟨y0,y1,y2,y3,y4,y5,y6⟩:=aS HY.out;obtain ⟨z0,z1,z2,z3,z4,z5,z6,z7,z8,z9,z10⟩:=aW HZ.out;clear y z hb)
   go_ret;exact ⟨by rw [HF.out];rfl,HB.out⟩
  cases bl
  ·have HF:Hid (R=2):=aF (by rw [HR.out];simp);clear HR h0;go_enter Tryz.func55,Tryz.ntmps55
   go_wp2_with (first | (go_at_call 99;refine (HBK.out _).mono ?_;rintro e' w2 ⟨rfl,hb⟩;have HB2:=aF (HB.out.trans (hb.mono HB.out.size));have HY2:=aF (cK HY.out hb);have HZ2:=aF (cK HZ.out hb);clear y0 y1 y2 y3 y4 y5 y6 z0 z1 z2 z3 z4 z5 z6 z7 z8 z9 z10;clear hb HY HZ;have HY:=HY2;have HZ:=HZ2;obtain ⟨y0,y1,y2,y3,y4,y5,y6⟩:=aS HY.out;obtain ⟨z0,z1,z2,z3,z4,z5,z6,z7,z8,z9,z10⟩:=aW HZ.out) | (go_at_call 98;refine (HN.out _).mono ?_;rintro e' w1 ⟨rfl,hb⟩;have HB:=aF ((bel2 _ _ _).trans (hb.mono (bel2 _ _ _).size));obtain ⟨y,z⟩:=cT hb;have HY:=aF y;have HZ:=aF z;obtain ⟨y0,y1,y2,y3,y4,y5,y6⟩:=aS HY.out;obtain ⟨z0,z1,z2,z3,z4,z5,z6,z7,z8,z9,z10⟩:=aW HZ.out;clear y z hb))
   go_ret;exact ⟨by rw [HF.out];rfl,HB2.out⟩
  by_cases hlo:s.loc<0\/(b.locals.length:Int)<=s.loc
  ·have HF:Hid (R=3):=aF (by rw [HR.out,aZ h0,bA rfl,aZ (by simp),bA hlo]);clear HR h0;go_enter Tryz.func55,Tryz.ntmps55
   go_wp2_with (first | (go_at_call 99;refine (HBK.out _).mono ?_;rintro e' w2 ⟨rfl,hb⟩;have HB2:=aF (HB.out.trans (hb.mono HB.out.size));have HY2:=aF (cK HY.out hb);have HZ2:=aF (cK HZ.out hb);clear y0 y1 y2 y3 y4 y5 y6 z0 z1 z2 z3 z4 z5 z6 z7 z8 z9 z10;clear hb HY HZ;have HY:=HY2;have HZ:=HZ2;obtain ⟨y0,y1,y2,y3,y4,y5,y6⟩:=aS HY.out;obtain ⟨z0,z1,z2,z3,z4,z5,z6,z7,z8,z9,z10⟩:=aW HZ.out) | (go_at_call 98;refine (HN.out _).mono ?_;rintro e' w1 ⟨rfl,hb⟩;have HB:=aF ((bel2 _ _ _).trans (hb.mono (bel2 _ _ _).size));obtain ⟨y,z⟩:=cT hb;have HY:=aF y;have HZ:=aF z;obtain ⟨y0,y1,y2,y3,y4,y5,y6⟩:=aS HY.out;obtain ⟨z0,z1,z2,z3,z4,z5,z6,z7,z8,z9,z10⟩:=aW HZ.out;clear y z hb))
   all_goals first
    | (exfalso;omega)
    | (go_ret;exact ⟨by rw [HF.out];rfl,HB2.out⟩)
  ·have HF:Hid (R=0):=aF (by rw [HR.out,aZ h0,bA rfl,aZ (by simp),aZ hlo]);have e5:¬s.loc<0:=by omega
   have e6:¬(b.locals.length:Int)<=s.loc:=by omega
   clear HR h0 hlo;go_enter Tryz.func55,Tryz.ntmps55
   go_wp2_with (first | (go_at_call 99;refine (HBK.out _).mono ?_;rintro e' w2 ⟨rfl,hb⟩;have HB2:=aF (HB.out.trans (hb.mono HB.out.size));have HY2:=aF (cK HY.out hb);have HZ2:=aF (cK HZ.out hb);clear y0 y1 y2 y3 y4 y5 y6 z0 z1 z2 z3 z4 z5 z6 z7 z8 z9 z10;clear hb HY HZ;have HY:=HY2;have HZ:=HZ2;obtain ⟨y0,y1,y2,y3,y4,y5,y6⟩:=aS HY.out;obtain ⟨z0,z1,z2,z3,z4,z5,z6,z7,z8,z9,z10⟩:=aW HZ.out) | (go_at_call 98;refine (HN.out _).mono ?_;rintro e' w1 ⟨rfl,hb⟩;have HB:=aF ((bel2 _ _ _).trans (hb.mono (bel2 _ _ _).size));obtain ⟨y,z⟩:=cT hb;have HY:=aF y;have HZ:=aF z;obtain ⟨y0,y1,y2,y3,y4,y5,y6⟩:=aS HY.out;obtain ⟨z0,z1,z2,z3,z4,z5,z6,z7,z8,z9,z10⟩:=aW HZ.out;clear y z hb))
   all_goals first
    | (exfalso;omega)
    | (go_ret;exact ⟨by rw [HF.out];rfl,HB2.out⟩)
 by_cases h2:k=2
 ·subst h2;cases z
  ·have HF:Hid (R=2):=aF (by rw [HR.out];simp);clear HR HBK h0 h1;go_enter Tryz.func55,Tryz.ntmps55
   go_wp2_with (go_at_call 98;refine (HN.out _).mono ?_;rintro e' w1 ⟨rfl,hb⟩;have HB:=aF ((bel2 _ _ _).trans (hb.mono (bel2 _ _ _).size));obtain ⟨y,z⟩:=cT hb;have HY:=aF y;have HZ:=aF z;obtain ⟨y0,y1,y2,y3,y4,y5,y6⟩:=aS HY.out;obtain ⟨z0,z1,z2,z3,z4,z5,z6,z7,z8,z9,z10⟩:=aW HZ.out;clear y z hb)
   go_ret;exact ⟨by rw [HF.out];rfl,HB.out⟩
  cases bl
  ·have HF:Hid (R=2):=aF (by rw [HR.out];simp);clear HR h0 h1;go_enter Tryz.func55,Tryz.ntmps55
   go_wp2_with (first | (go_at_call 99;refine (HBK.out _).mono ?_;rintro e' w2 ⟨rfl,hb⟩;have HB2:=aF (HB.out.trans (hb.mono HB.out.size));have HY2:=aF (cK HY.out hb);have HZ2:=aF (cK HZ.out hb);clear y0 y1 y2 y3 y4 y5 y6 z0 z1 z2 z3 z4 z5 z6 z7 z8 z9 z10;clear hb HY HZ;have HY:=HY2;have HZ:=HZ2;obtain ⟨y0,y1,y2,y3,y4,y5,y6⟩:=aS HY.out;obtain ⟨z0,z1,z2,z3,z4,z5,z6,z7,z8,z9,z10⟩:=aW HZ.out) | (go_at_call 98;refine (HN.out _).mono ?_;rintro e' w1 ⟨rfl,hb⟩;have HB:=aF ((bel2 _ _ _).trans (hb.mono (bel2 _ _ _).size));obtain ⟨y,z⟩:=cT hb;have HY:=aF y;have HZ:=aF z;obtain ⟨y0,y1,y2,y3,y4,y5,y6⟩:=aS HY.out;obtain ⟨z0,z1,z2,z3,z4,z5,z6,z7,z8,z9,z10⟩:=aW HZ.out;clear y z hb))
   go_ret;exact ⟨by rw [HF.out];rfl,HB2.out⟩
  by_cases hlo:s.loc=0
  ·have HF:Hid (R=0):=aF (by rw [HR.out];simp [hlo]);have e5:(s.loc != 0)=false:=by simp [hlo]
   clear HR h0 h1 hlo;go_enter Tryz.func55,Tryz.ntmps55
   go_wp2_with (first | (go_at_call 99;refine (HBK.out _).mono ?_;rintro e' w2 ⟨rfl,hb⟩;have HB2:=aF (HB.out.trans (hb.mono HB.out.size));have HY2:=aF (cK HY.out hb);have HZ2:=aF (cK HZ.out hb);clear y0 y1 y2 y3 y4 y5 y6 z0 z1 z2 z3 z4 z5 z6 z7 z8 z9 z10;clear hb HY HZ;have HY:=HY2;have HZ:=HZ2;obtain ⟨y0,y1,y2,y3,y4,y5,y6⟩:=aS HY.out;obtain ⟨z0,z1,z2,z3,z4,z5,z6,z7,z8,z9,z10⟩:=aW HZ.out) | (go_at_call 98;refine (HN.out _).mono ?_;rintro e' w1 ⟨rfl,hb⟩;have HB:=aF ((bel2 _ _ _).trans (hb.mono (bel2 _ _ _).size));obtain ⟨y,z⟩:=cT hb;have HY:=aF y;have HZ:=aF z;obtain ⟨y0,y1,y2,y3,y4,y5,y6⟩:=aS HY.out;obtain ⟨z0,z1,z2,z3,z4,z5,z6,z7,z8,z9,z10⟩:=aW HZ.out;clear y z hb))
   go_ret;exact ⟨by rw [HF.out];rfl,HB2.out⟩
  ·have HF:Hid (R=2):=aF (by rw [HR.out];simp [hlo]);have e5:(s.loc != 0)=true:=by simp [hlo]
   clear HR h0 h1 hlo;go_enter Tryz.func55,Tryz.ntmps55
   go_wp2_with (first | (go_at_call 99;refine (HBK.out _).mono ?_;rintro e' w2 ⟨rfl,hb⟩;have HB2:=aF (HB.out.trans (hb.mono HB.out.size));have HY2:=aF (cK HY.out hb);have HZ2:=aF (cK HZ.out hb);clear y0 y1 y2 y3 y4 y5 y6 z0 z1 z2 z3 z4 z5 z6 z7 z8 z9 z10;clear hb HY HZ;have HY:=HY2;have HZ:=HZ2;obtain ⟨y0,y1,y2,y3,y4,y5,y6⟩:=aS HY.out;obtain ⟨z0,z1,z2,z3,z4,z5,z6,z7,z8,z9,z10⟩:=aW HZ.out) | (go_at_call 98;refine (HN.out _).mono ?_;rintro e' w1 ⟨rfl,hb⟩;have HB:=aF ((bel2 _ _ _).trans (hb.mono (bel2 _ _ _).size));obtain ⟨y,z⟩:=cT hb;have HY:=aF y;have HZ:=aF z;obtain ⟨y0,y1,y2,y3,y4,y5,y6⟩:=aS HY.out;obtain ⟨z0,z1,z2,z3,z4,z5,z6,z7,z8,z9,z10⟩:=aW HZ.out;clear y z hb))
   go_ret;exact ⟨by rw [HF.out];rfl,HB2.out⟩
 have HF:Hid (R=14):=aF (by rw [HR.out,aZ h0,aZ h1,aZ h2]);have e0:(k == 0)=false:=by simp [h0]
 have e1:(k == 1)=false:=by simp [h1]
 have e2:(k == 2)=false:=by simp [h2]
 clear HR HBK HN h0 h1 h2;go_enter Tryz.func55,Tryz.ntmps55
 go_wp2_with fail
 go_ret;exact ⟨by rw [HF.out];rfl,aH⟩
end
section
open Go Go.RowKit
attribute [local irreducible] Calls
theorem xDL (f:Fct) (fh:FH) (p r:Int) (w:World) (H:FcAt w f fh):
 Calls Tryz.prog 21 #[.agg (fcC f fh).toArray,.int .i64 p,.int .i64 r] w fun e' w'=>e' = .returned (.int .i64 (fctE f p r))/\Below w.heap.size w w':=by
 obtain ⟨A0,c0,A1,c1,A2,c2,A3,c3,A4,c4⟩:=fh;have HH:=aF H;obtain ⟨R,hR⟩:∃R,fctE f p r=R:=⟨_,rfl⟩;rw [hR];have HR:=aF hR;have l0:=H.ln.le;have l1:=H.ed.le;have l2:=H.ki.le;have l3:=H.iv.le;have l4:=H.li.le;have m0:=H.ln.big;have m1:=H.ed.big;have m2:=H.ki.big;have m3:=H.iv.big;have m4:=H.li.big;simp only at l0 l1 l2 l3 l4 m0 m1 m2 m3 m4;obtain ⟨W0,hW0⟩:∃W,w.alloc (.cells ([Value.slice A0 f.loans.length c0,.slice A1 f.edges.length c1,.slice A2 f.killed.length c2,.slice A3 f.inval.length c3,.slice A4 f.live.length c4]).toArray 39)=W:=⟨_,rfl⟩;have hB0:Below w.heap.size w W0:=by rw [<- hW0];exact (aX _ _).alloc (aY _) _
 have HB0:=aF hB0;have hcx:=cP w [Value.slice A0 f.loans.length c0,.slice A1 f.edges.length c1,.slice A2 f.killed.length c2,.slice A3 f.inval.length c3,.slice A4 f.live.length c4] 39;rw [hW0] at hcx;have HX:=aF hcx;obtain ⟨x0,x1,x2,x3,x4⟩:=aQ HX.out;clear hR H hB0 hcx;unfold fcC;simp only;by_cases hb:fcBig f
 case pos=>
  have HF:Hid (R=15):=aF (by rw [<- HR.out];unfold fctE;rw [bA hb]);unfold fcBig at hb;clear HR;go_enter Tryz.func21,Tryz.ntmps21
  go_wp2_with fail
  all_goals first
   | (exfalso;omega)
   | (go_ret;exact ⟨by rw [HF.out];rfl,HB0.out⟩)
 case neg=>
 have HL:Hid (R=if losE p r none f.loans≠0 then losE p r none f.loans
  else if prsE p p none f.edges≠0 then prsE p p none f.edges
  else if prsE f.loans.length p none f.killed≠0 then prsE f.loans.length p none f.killed
  else if prsE f.loans.length p none f.inval≠0 then prsE f.loans.length p none f.inval
  else prsE r p none f.live):=aF (by rw [<- HR.out];unfold fctE;rw [aZ hb])
 unfold fcBig at hb;have b0:¬(16777216:Int)<f.loans.length:=by omega
 have b1:¬(16777216:Int)<f.edges.length:=by omega
 have b2:¬(16777216:Int)<f.killed.length:=by omega
 have b3:¬(16777216:Int)<f.inval.length:=by omega
 have b4:¬(16777216:Int)<f.live.length:=by omega
 clear HR hb;go_enter Tryz.func21,Tryz.ntmps21
 go_wp2_with fail
 go_loopw [8] (fun v wr=>∃k:Nat,k<=f.loans.length/\v = .int .i64 k/\Hid (Below W0.heap.size W0 wr)/\Hid (losE p r none f.loans=losE p r (prevL f.loans k) (f.loans.drop k))) (fun v _=>f.loans.length - (intOf v).toNat)
 case atStart=>exact ⟨0,by omega,rfl,aF (aX _ _),aF rfl⟩
 case round=>
  obtain ⟨k,hk,rfl,hB,hr⟩:=hrel;have HBW:=aF (HB0.out.trans (hB.out.mono HB0.out.size));have HXr:=aF (fun i v h=>cJ hB.out (HX.out i v h));clear x0 x1 x2 x3 x4;have y0:=HXr.out 0 _ rfl;have y1:=HXr.out 1 _ rfl;have y2:=HXr.out 2 _ rfl;have y3:=HXr.out 3 _ rfl;have y4:=HXr.out 4 _ rfl;by_cases hlt:k<f.loans.length
  case neg=>
   have HN:Hid (losE p r none f.loans=0):=aF (by rw [hr.out,bE (by omega)];rfl);have HE:=aF (fun (X:World) (hX:X=wr)=>HH.out.ed.keep RPr.keeps HBW.out);have HS1:=aF (HH.out.ed.keep RPr.keeps HBW.out);have HS2:=aF (HH.out.ki.keep RPr.keeps HBW.out);have HS3:=aF (HH.out.iv.keep RPr.keeps HBW.out);have HS4:=aF (HH.out.li.keep RPr.keeps HBW.out);have HP1:=aF (xAT f.edges p p A1 c1 wr HS1.out);have HP2:=aF (xAT f.killed f.loans.length p A2 c2 wr HS2.out);have HP3:=aF (xAT f.inval f.loans.length p A3 c3 wr HS3.out);have HP4:=aF (xAT f.live r p A4 c4 wr HS4.out);have HL2:=aF (HL.out.trans (by rw [aZ (by simp [HN.out])]));clear HL hr HN HE HS1 HS2 HS3 HS4;generalize prsE p p none f.edges=E1 at *;generalize prsE f.loans.length p none f.killed=E2 at *;generalize prsE f.loans.length p none f.inval=E3 at *;generalize prsE r p none f.live=E4 at *;by_cases h1:E1=0
   case neg=>
    have e1:(E1 == 0)=false:=by simp [h1]
    have HF:Hid (R=E1):=aF (by rw [HL2.out,bA h1]);clear HL2 h1;go_wp2_with (go_at_call 62;(first | refine HP1.out.mono ?_ | refine HP2.out.mono ?_ | refine HP3.out.mono ?_ | refine HP4.out.mono ?_);rintro e' w1 ⟨rfl,hw⟩;obtain rfl:=hw.symm)
    go_ret;exact ⟨by rw [HF.out];rfl,HBW.out⟩
   case pos=>
   subst h1;by_cases h2:E2=0
   case neg=>
    have e1:(E2 == 0)=false:=by simp [h2]
    have HF:Hid (R=E2):=aF (by rw [HL2.out,aZ (by simp),bA h2]);clear HL2 h2;go_wp2_with (go_at_call 62;(first | refine HP1.out.mono ?_ | refine HP2.out.mono ?_ | refine HP3.out.mono ?_ | refine HP4.out.mono ?_);rintro e' w1 ⟨rfl,hw⟩;obtain rfl:=hw.symm)
    go_ret;exact ⟨by rw [HF.out];rfl,HBW.out⟩
   case pos=>
   subst h2;by_cases h3:E3=0
   case neg=>
    have e1:(E3 == 0)=false:=by simp [h3]
    have HF:Hid (R=E3):=aF (by rw [HL2.out,aZ (by simp),aZ (by simp),bA h3]);clear HL2 h3;go_wp2_with (go_at_call 62;(first | refine HP1.out.mono ?_ | refine HP2.out.mono ?_ | refine HP3.out.mono ?_ | refine HP4.out.mono ?_);rintro e' w1 ⟨rfl,hw⟩;obtain rfl:=hw.symm)
    go_ret;exact ⟨by rw [HF.out];rfl,HBW.out⟩
   case pos=>
   subst h3;have HF:Hid (R=E4):=aF (by rw [HL2.out,aZ (by simp),aZ (by simp),aZ (by simp)]);clear HL2;go_wp2_with (go_at_call 62;(first | refine HP1.out.mono ?_ | refine HP2.out.mono ?_ | refine HP3.out.mono ?_ | refine HP4.out.mono ?_);rintro e' w1 ⟨rfl,hw⟩;obtain rfl:=hw.symm)
   go_ret;exact ⟨by rw [HF.out];rfl,HBW.out⟩
  case pos=>
  have hsl:=(HH.out.ln.keep RLn.keeps HBW.out).sl;obtain ⟨b,o,rfl,hb,hx⟩:=hsl.at_ hlt;have HPS:Hid (prevL f.loans (k+1)=some f.loans[k]):=aF (by unfold prevL;rw [aZ (by omega)];simp [hlt])
  have HQ:Hid (∀j,k=j+1->∃q,prevL f.loans k=some q/\RLn wr wr.heap.size b (o+j * 5) q):=aF (fun j hj=>by
   obtain ⟨b',o',hbo,_,hz⟩:=hsl.at_ (show j<f.loans.length by omega);obtain ⟨rfl,rfl⟩:b=b'/\o=o':=by simpa using hbo
   exact ⟨f.loans[j],by unfold prevL;rw [aZ (by omega),show k - 1=j by omega];exact bD (by omega),hz⟩)
  have HN:Hid (losE p r none f.loans=if loE p r (prevL f.loans k) f.loans[k]=0 then losE p r (some f.loans[k]) (f.loans.drop (k+1)) else loE p r (prevL f.loans k) f.loans[k]):=aF (by rw [hr.out,cS hlt,lR]);have HRX:Hid (losE p r none f.loans≠0->R=losE p r none f.loans):=aF (fun h=>by rw [HL.out,bA h]);obtain ⟨x,hxe⟩:∃x,f.loans[k]=x:=⟨_,rfl⟩;rw [hxe] at hx HPS HN;obtain ⟨g0,g1,g2,g3,PA,pc,g4,p1,p2,p3⟩:=hx;have HSP:Hid (Slc 2 RPj wr PA pc x.place.proj):=aF ⟨p3,p1,p2⟩;have hsz:=HBW.out.size;have hlw:w.heap.size<wr.heap.size:=cD wr _ y0;obtain ⟨xr,xp,xm,xl,xj⟩:=x;simp only at g0 g1 g2 g3 g4 p1 HSP;obtain ⟨W1,hW1⟩:∃W,wr.alloc (.cells #[.int .i64 xr,.int .i64 xp,.bool xm,.int .i64 xl,.slice PA xj.length pc] 95)=W:=⟨_,rfl⟩;have hbW:Below wr.heap.size wr W1:=by rw [<- hW1];exact (aX _ _).alloc (aY _) _
  have HW0:=aF (hB.out.trans (hbW.mono hB.out.size));have HW:=aF (HBW.out.trans (hbW.mono hsz));have n0:=cP wr [.int .i64 xr,.int .i64 xp,.bool xm,.int .i64 xl,.slice PA xj.length pc] 95;simp only [hW1] at n0;have n0r:=n0 0 _ rfl;have n0p:=n0 1 _ rfl;have n0m:=n0 2 _ rfl;have n0l:=n0 3 _ rfl;have n0j:=n0 4 _ rfl;have HC:=aF (pG xl PA pc xj W1 (HSP.out.keep RPj.keeps hbW));clear HL hr hsl hxe p1 p3 n0;by_cases hrg:xr<0\/r<=xr\/xp<0\/p<=xp
  case pos=>
   have HF:Hid (R=3):=aF (by
    have h3:losE p r none f.loans=3:=by rw [HN.out,lS hrg];rfl
    rw [HRX.out (by rw [h3];decide),h3])
   clear HN HPS HQ HRX;go_wp2_with fail
   all_goals first
    | (exfalso;omega)
    | (go_ret;exact ⟨by rw [HF.out];rfl,HW.out⟩)
  case neg=>
  have q1:¬xr<0:=by omega
  have q2:¬r<=xr:=by omega
  have q3:¬xp<0:=by omega
  have q4:¬p<=xp:=by omega
  by_cases hck:chk xl xj=0
  case neg=>
   have HF:Hid (R=chk xl xj):=aF (by
    have h3:losE p r none f.loans=chk xl xj:=by rw [HN.out,yC hrg hck,aZ hck]
    rw [HRX.out (by rw [h3];exact hck),h3])
   have e3:(chk xl xj != 0)=true:=by simp [hck]
   generalize chk xl xj=ck at *;clear HN HPS HQ HRX hrg hck;go_wp2_with (go_at_call 53;refine HC.out.mono ?_;rintro e' w1 ⟨rfl,hw⟩)
   all_goals first
    | (exfalso;omega)
    | (go_ret;exact ⟨by rw [HF.out];rfl,HW.out.trans (hw.mono HW.out.size)⟩)
  case pos=>
  have e3:(chk xl xj != 0)=false:=by simp [hck]
  rw [hck] at HC e3;rcases (show k=0\/∃j,k=j+1 from by cases k;exact .inl rfl;exact .inr ⟨_,rfl⟩) with rfl | ⟨j,rfl⟩
  ·have HF:Hid (losE p r none f.loans=losE p r (prevL f.loans 1) (f.loans.drop 1)):=aF (by rw [HN.out,show prevL f.loans 0=none from rfl,vI hrg hck,bA rfl,HPS.out]);clear HN HPS HQ HRX hrg hck;simp only [Nat.zero_mul,Nat.add_zero] at g0 g1 g2 g3 g4;go_wp2_with (go_at_call 53;refine HC.out.mono ?_;rintro e' w2 ⟨rfl,hw⟩)
   all_goals first
    | (exfalso;omega)
    | skip
   have hS:True:=trivial;refine eM (S:=fun _=>True) (by kernel_rfl) ?_;(iterate 3 (refine dG (v:=?_) (by kernel_rfl) (fun _ _ _ h=>h) (Or.inl ⟨by rfl,?_⟩) hS ?_;rotate_left;(next=>(rintro X _;(try simp only [aJ]);go_simp;rfl));simp only [aJ,Act.put,aK]));(iterate 10 (refine dG (v:=undef) (by kernel_rfl) (fun _ _ _ h=>h) (Or.inr ⟨by rfl,rfl⟩) hS ?_;simp only [aJ,Act.put,aK]));((refine dG (v:=?_) (by kernel_rfl) (fun _ _ _ h=>h) (Or.inl ⟨by rfl,?_⟩) hS ?_;rotate_left;(next=>(rintro X _;(try simp only [aJ]);go_simp;rfl));simp only [aJ,Act.put,aK]))
   refine eW rfl ?_;go_wp2_with fail
   go_roundw
   case rel=>exact ⟨1,by omega,by go_num,aF (HW0.out.trans (hw.mono HW0.out.size)).drew,HF⟩
   case measure=>simp [intOf];omega
  ·obtain ⟨q,hq,z0,z1,-⟩:=HQ.out j rfl
   have HF:Hid (losE p r none f.loans=if xp<=q.pt then 21 else losE p r (prevL f.loans (j+1+1)) (f.loans.drop (j+1+1))):=aF (by
    rw [HN.out,hq,vH hrg hck,HPS.out]
    split <;> simp)
   have HQ1:Hid (∀W,Below W1.heap.size W1 W->W.cell? ⟨b,o+j * 5+1,none⟩=some (.int .i64 q.pt)):=aF (fun W h=>cJ h ((hbW.cell (p:=⟨b,o+j * 5+1,none⟩) hb).trans z1));have HN1:Hid (∀W,Below W1.heap.size W1 W->W.cell? ⟨wr.heap.size,1,none⟩=some (.int .i64 xp)):=aF (fun W h=>cJ h n0p);have HY0:Hid (∀W,Below W1.heap.size W1 W->W.cell? ⟨w.heap.size,0,none⟩=some (.slice (some ⟨b,o,none⟩) f.loans.length c0)):=aF (fun W h=>cJ h (cJ hbW y0));generalize q.pt=qp at HF HQ1;clear HN HPS HQ hrg hck hq z0 z1;have hwk:IntKind.i64.wrap (j:Int)=(j:Int):=by rw [IntKind.wrap_i64];omega
   have hj1:(j:Int)<(f.loans.length:Int):=by omega
   go_wp2_with (go_at_call 53;refine HC.out.mono ?_;rintro e' w2 ⟨rfl,hw⟩)
   all_goals first
    | (exfalso;omega)
    | skip
   have hS:w2.drew.cell? ⟨b,o+j * 5+1,none⟩=some (.int .i64 qp)/\w2.drew.cell? ⟨wr.heap.size,1,none⟩=some (.int .i64 xp)/\w2.drew.cell? ⟨w.heap.size,0,none⟩=some (.slice (some ⟨b,o,none⟩) f.loans.length c0):=⟨HQ1.out _ hw.drew,HN1.out _ hw.drew,HY0.out _ hw.drew⟩;refine eM (S:=fun X=>X.cell? ⟨b,o+j * 5+1,none⟩=some (.int .i64 qp)/\X.cell? ⟨wr.heap.size,1,none⟩=some (.int .i64 xp)/\X.cell? ⟨w.heap.size,0,none⟩=some (.slice (some ⟨b,o,none⟩) f.loans.length c0)) (by kernel_rfl) ?_;(iterate 14 (refine dG (v:=?_) (by kernel_rfl) (fun _ _ _ h=>h) (Or.inl ⟨by rfl,?_⟩) hS ?_;rotate_left;(next=>(rintro X ⟨s1,s2,s3⟩;(try simp only [aJ]);go_simp;rfl));simp only [aJ,Act.put,aK]));refine eW rfl ?_;by_cases hcm:xp<=qp
   ·have HF':Hid (R=21):=aF (by
     have h3:losE p r none f.loans=21:=by rw [HF.out,bA hcm]
     rw [HRX.out (by rw [h3];decide),h3])
    have hd1:decide (xp<=qp)=true:=decide_eq_true hcm;clear HF HRX;go_wp2_with fail
    go_ret;exact ⟨by rw [HF'.out];rfl,(HW.out.trans (hw.mono HW.out.size)).drew⟩
   ·have HF':Hid (losE p r none f.loans=losE p r (prevL f.loans (j+1+1)) (f.loans.drop (j+1+1))):=aF (by rw [HF.out,aZ hcm]);have hd1:decide (xp<=qp)=false:=decide_eq_false hcm;clear HF;go_wp2_with fail
    go_roundw
    case rel=>exact ⟨j+1+1,by omega,by go_num,aF (HW0.out.trans (hw.mono HW0.out.size)).drew,HF'⟩
    case measure=>simp [intOf];omega
end
section
open Go Go.RowKit Go.Maps
theorem xGX {b:Bdy} {bh:BH} {w:World} (H:Rk w b bh) (rv:Rvl) (t:Nat) (ht:t<b.types.length) (A B:Option Addr) (c d:Nat) (hl:Slc 4 ROp w B d rv.args) (h:shapeE rv=0) (hk:rv.kind=2) (hop:0<=rv.op/\rv.op<=1) (hpos:0<rv.args.length):
 Calls Tryz.prog 97 #[.agg (bdC b bh).toArray,.agg (rvC rv A c B d).toArray,.int .i64 t] w fun e' w'=>e' = .returned (.int .i64 (rvE b rv t))/\Below w.heap.size w w':=by
 obtain ⟨op,hope⟩:∃op,rv.op=op:=⟨_,rfl⟩;rw [hope] at hop;obtain ⟨hop0,hop1⟩:=hop;obtain ⟨q1,hq1⟩:∃q:Int,(if op=1 then 1 else 2)=q:=⟨_,rfl⟩;obtain ⟨q2,hq2⟩:∃q:Int,(if op=1 then 1 else 2)=q:=⟨_,rfl⟩;have e10:decide (op<0)=false:=by simp;omega
 have e11:decide (1<op)=false:=by simp;omega
 have HSH:=aF (fun W=>xAH rv A B c d W);have HOP:=aF (fun W (hb:Below w.heap.size w W) (o:Opd) (A:Option Addr) (c:Nat) (hp:Slc 2 RPj w A c o.place.proj)=>xAE (H.keep hb) o A c (hp.keep RPj.keeps hb));have HKK:=aF (fun W (hb:Below w.heap.size w W) (o:Opd) (A:Option Addr) (c:Nat) (hp:Slc 2 RPj w A c o.place.proj) (ho:opE b o=0)=>xAN (H.keep hb).at_ H.ok o q1 A c (hp.keep RPj.keeps hb) ho)
 have HF0:Hid (rvE b rv t=if opsE b rv.args []≠0 then opsE b rv.args [] else if rv.args.all (fun o=>decide (kindO b o=q1))=true then fail22 (decide (b.types[t].kind≠q2)) else 22):=aF (by
  have hkt:kindT b (t:Int)=b.types[t].kind:=by unfold kindT;simp [ht]
  rw [xAX h ht,hk,<- hq1,<- hq2];rcases (show op=0\/op=1 by omega) with e | e
  all_goals
   rw [e] at hope;simp only [operE,hope,hkt,e]
   rfl)
 have HQ1:=aF hq1;have HQ2:=aF hq2;clear hq1 hq2;rw [h] at HSH;obtain ⟨bb,oo,hA3,hbb,hx⟩:=H.at_.typ.sl.at_ ht;have hle3:=H.at_.typ.le;have hbig3:=H.at_.typ.big;obtain ⟨r0,-⟩:=hx;have hle:=hl.le;have hbig:=hl.big;obtain ⟨b5,o5,rfl,hb5,-⟩:=hl.sl.at_ hpos;have HL:=aF hl;obtain ⟨n,hn⟩:∃n,rv.args.length=n:=⟨_,rfl⟩;have HN:=aF hn;generalize rvE b rv t=R at HF0 ⊢;generalize b.types[t].kind=tk at r0 HF0;clear H h hl;unfold bdC at *;unfold rvC at *;rw [hA3] at HOP HKK ⊢;rw [hn] at hle;rw [hk,hope,hn] at HSH ⊢;clear hn hpos hope hk;go_enter Tryz.func97,Tryz.ntmps97
 go_wp2_with (go_at_call 141;refine (HSH.out _).mono ?_;rintro e' w1 ⟨rfl,hb⟩;have HB:=aF ((bel2 _ _ _).trans (hb.mono (bel2 _ _ _).size));obtain ⟨y,z⟩:=cT hb;have HY:=aF y;have HZ:=aF z;obtain ⟨y0,y1,y2,y3,y4,y5,y6⟩:=aS HY.out;obtain ⟨z0,z1,z2,z3,z4,z5,z6⟩:=aS HZ.out;have q0:=cJ HB.out r0;clear y z hb)
 go_quiet (fail)
 all_goals go_wp2_with fail
 go_loopw [9] (fun v wr=>∃j:Nat,j<=n/\v = .int .i64 j/\Hid (aA (bdT b bh bb oo) wr w.heap.size)/\Hid (aA (rvL 2 op rv A c b5 o5 n d) wr (w.heap.size+1))/\Hid (Below w.heap.size w wr)/\Hid (opsE b rv.args []=opsE b (rv.args.drop j) [])) (fun v _=>n - (intOf v).toNat)
 case atStart=>exact ⟨0,by omega,rfl,aF HY.out,aF HZ.out,aF (aG HB.out _),aF rfl⟩
 case round=>
  clear HY HZ HB y0 y1 y2 y3 y4 y5 y6 z0 z1 z2 z3 z4 z5 z6 q0 r0;obtain ⟨j,hj,rfl,HY,HZ,HB,hr⟩:=hrel;have z6:=HZ.out 6 _ rfl;obtain ⟨z0,z1⟩:=aN HZ.out;by_cases hlt:j<n
  next=>
   have hl1:j<rv.args.length:=by rw [HN.out];exact hlt
   obtain ⟨b7,o7,hB7,hb7,hxo⟩:=HL.out.sl.at_ hl1;simp only [xAB,Addr.mk.injEq,and_true] at hB7;obtain ⟨rfl,rfl⟩:=hB7;have hmem:=bN hl1;have hd:=cS hl1;obtain ⟨o,hoo⟩:∃o,rv.args[j]=o:=⟨_,rfl⟩;rw [hoo] at hxo hd hmem;obtain ⟨p0,⟨p1,A2,c2,p2,hc1,hc2,hsl⟩,p3⟩:=hxo;have HPJ:Hid (Slc 2 RPj w A2 c2 o.place.proj):=aF ⟨hsl,hc1,hc2⟩;have P0:=aF p0;have P1:=aF p1;have P2:=aF (show w.cell? ⟨b5,o5+j * 4+2,none⟩=_ from p2);have P3:=aF p3;have HOO:=aF (fun W hb=>HOP.out W hb o A2 c2 HPJ.out);unfold opC at HOO
   have HV2:Hid ((opE b o≠0->R=opE b o)/\(opE b o=0->opsE b rv.args []=opsE b (rv.args.drop (j+1)) [])):=aF ⟨fun he=>by
    have h9:opsE b rv.args []=opE b o:=by rw [hr.out,hd,nW he]
    rw [HF0.out,h9,bA he],fun he=>by rw [hr.out,hd,lN he]⟩
   generalize opE b o=eo at HOO HV2;clear hr hd hmem hoo p0 p1 p2 p3 hsl hc1 hc2 hl1;go_wp2_with fail
   have hS:aB w (bdT b bh bb oo) (rvL 2 op rv A c b5 o5 n d) wr.drew:=⟨HY.out,HZ.out,HB.out.drew⟩;clear z0 z1 z6;refine cQ (S:=fun X=>aB w (bdT b bh bb oo) (rvL 2 op rv A c b5 o5 n d) X) [0,1,2,3,4,5,6,7] (by kernel_rfl) ?_;(iterate 6 (refine cR (v:=?_) ?_ hS ?_;rotate_left;(next=>(rintro X ⟨hX,hY,hZ⟩;obtain ⟨s0,s1,s2,s3,s4,s5,s6⟩:=aS hX;have u6:=hY 6 _ rfl;have u0:=hY 0 _ rfl;have p0:=cJ hZ P0.out;have p1:=cJ hZ P1.out;have p2:=cJ hZ P2.out;have p3:=cJ hZ P3.out;(try simp only [aI]);go_simp;rfl));simp only [aM]));(refine cM (fun K1 hK1=>?_);simp only [aM];rw [bA (by rfl)];go_simp);refine (HOO.out _ hS.2.2).mono ?_;rintro e' w2 ⟨rfl,hb⟩;replace hS:=bJ (cK hS.1 hb) (bJ (cK hS.2.1 hb) (hS.2.2.trans (hb.mono hS.2.2.size)));have HS2:=aF hS;clear hb;refine hK1.out _ _ (fun _=>hS) ?_;clear hK1;((refine cR (v:=?_) ?_ hS ?_;rotate_left;(next=>(rintro X -;(try simp only [aI]);go_simp;rfl));simp only [aM]))
   refine cV ?_;clear hS;by_cases he:eo=0
   ·subst he;have HV3:=aF (HV2.out.2 rfl);clear HV2;go_wp2_with fail
    have hS:aB w (bdT b bh bb oo) (rvL 2 op rv A c b5 o5 n d) w2.drew:=⟨HS2.out.1,HS2.out.2.1,HS2.out.2.2.drew⟩;refine cQ (S:=fun X=>aB w (bdT b bh bb oo) (rvL 2 op rv A c b5 o5 n d) X) [0,1,2,3,4,5,6,7,8,9,10,11,12,13,14,15,16,17,18,19,20,21] (by kernel_rfl) ?_;(iterate 4 (refine cR (v:=?_) ?_ hS ?_;rotate_left;(next=>(rintro X ⟨hX,hY,hZ⟩;obtain ⟨s0,s1,s2,s3,s4,s5,s6⟩:=aS hX;have u6:=hY 6 _ rfl;have u0:=hY 0 _ rfl;have p0:=cJ hZ P0.out;have p1:=cJ hZ P1.out;have p2:=cJ hZ P2.out;have p3:=cJ hZ P3.out;(try simp only [aI]);go_simp;rfl));simp only [aM]));(iterate 17 (refine cU (v:=undef) (by kernel_rfl) (fun _ _ _ h=>h) (Or.inr ⟨by rfl,rfl⟩) hS ?_;simp only [aM]));((refine cR (v:=?_) ?_ hS ?_;rotate_left;(next=>(rintro X -;(try simp only [aI]);go_simp;rfl));simp only [aM]))
    refine cV ?_;clear hS;go_wp2_with fail
    go_roundw
    case rel=>exact ⟨j+1,by omega,by go_num,aF HS2.out.1,aF HS2.out.2.1,aF HS2.out.2.2.drew,HV3⟩
    case measure=>simp [intOf];omega
   ·have HF:=aF (HV2.out.1 he);have e1:(eo != 0)=true:=by simp [he]
    clear he HV2;go_wp2_with fail
    go_ret;exact ⟨by rw [HF.out];rfl,HS2.out.2.2⟩
  next=>
   have hz:opsE b rv.args []=0:=by rw [hr.out,bE (by rw [HN.out];omega),rT]
   have HALL:=aF (nX hz);have HQ:Hid (R=if (rv.args.drop 0).all (fun o=>decide (kindO b o=q1))=true then fail22 (decide (tk≠q2)) else 22):=aF (by rw [HF0.out,aZ (by simp [hz]),bX]);clear hr hz HF0
   have hcs:(q1=1/\q2=1/\(op == 1)=true)\/(q1=2/\q2=2/\(op == 1)=false):=by
    rw [<- HQ1.out,<- HQ2.out];by_cases g:op=1
    ·left;simp [g]
    ·right;simp [g]
   rcases hcs with ⟨g0,g1,e12⟩ | ⟨g0,g1,e12⟩
   all_goals
    have HX1:=aF g0;have HX2:=aF g1;clear g0 g1;go_wp2_with fail
    clear hlt hj;go_loopw [13] (fun v wr=>∃j:Nat,j<=n/\v = .int .i64 j/\Hid (aA (bdT b bh bb oo) wr w.heap.size)/\Hid (aA (rvL 2 op rv A c b5 o5 n d) wr (w.heap.size+1))/\Hid (Below w.heap.size w wr)/\Hid (R=if (rv.args.drop j).all (fun o=>decide (kindO b o=q1))=true then fail22 (decide (tk≠q2)) else 22)) (fun v _=>n - (intOf v).toNat)
    case atStart=>exact ⟨0,by omega,rfl,HY,HZ,HB,HQ⟩
    case round=>
     clear HY HZ HB HQ z0 z1 z6;obtain ⟨j,hj,rfl,HY,HZ,HB,hr⟩:=hrel;have z6:=HZ.out 6 _ rfl;have z0:=HZ.out 0 _ rfl;by_cases hlt:j<n
     next=>
      have hl1:j<rv.args.length:=by rw [HN.out];exact hlt
      obtain ⟨b7,o7,hB7,hb7,hxo⟩:=HL.out.sl.at_ hl1;simp only [xAB,Addr.mk.injEq,and_true] at hB7;obtain ⟨rfl,rfl⟩:=hB7;have hmem:=bN hl1;have hd:=cS hl1;obtain ⟨o,hoo⟩:∃o,rv.args[j]=o:=⟨_,rfl⟩;rw [hoo] at hxo hd hmem;obtain ⟨p0,⟨p1,A2,c2,p2,hc1,hc2,hsl⟩,p3⟩:=hxo;have HPJ:Hid (Slc 2 RPj w A2 c2 o.place.proj):=aF ⟨hsl,hc1,hc2⟩;have P0:=aF p0;have P1:=aF p1;have P2:=aF (show w.cell? ⟨b5,o5+j * 4+2,none⟩=_ from p2);have P3:=aF p3;have HOO:=aF (fun W hb=>HKK.out W hb o A2 c2 HPJ.out (HALL.out o hmem));unfold opC at HOO
      have HV2:Hid ((kindO b o≠q1->R=22)/\(kindO b o=q1->R=if (rv.args.drop (j+1)).all (fun o=>decide (kindO b o=q1))=true then fail22 (decide (tk≠q2)) else 22)):=aF (by
       rw [hr.out,hd,cB];constructor
       ·intro h;simp [h]
       ·intro h;simp [h])
      obtain ⟨kq,hkq⟩:∃q,decide (kindO b o=q1)=q:=⟨_,rfl⟩;rw [hkq] at HOO;rw [HX1.out] at HOO;have HKQ:=aF hkq;clear hr hd hmem hoo p0 p1 p2 p3 hsl hc1 hc2 hl1 hkq;go_wp2_with fail
      have hS:aB w (bdT b bh bb oo) (rvL 2 op rv A c b5 o5 n d) wr.drew:=⟨HY.out,HZ.out,HB.out.drew⟩;clear z0 z6;refine cQ (S:=fun X=>aB w (bdT b bh bb oo) (rvL 2 op rv A c b5 o5 n d) X) [0,1,2,3,4,5,6,7,8] (by kernel_rfl) ?_;(iterate 7 (refine cR (v:=?_) ?_ hS ?_;rotate_left;(next=>(rintro X ⟨hX,hY,hZ⟩;obtain ⟨s0,s1,s2,s3,s4,s5,s6⟩:=aS hX;have u6:=hY 6 _ rfl;have u0:=hY 0 _ rfl;have p0:=cJ hZ P0.out;have p1:=cJ hZ P1.out;have p2:=cJ hZ P2.out;have p3:=cJ hZ P3.out;(try simp only [aI]);go_simp;rfl));simp only [aM]));(refine cM (fun K1 hK1=>?_);simp only [aM];rw [bA (by rfl)];go_simp);refine (HOO.out _ hS.2.2).mono ?_;rintro e' w2 ⟨rfl,hb⟩;replace hS:=bJ (cK hS.1 hb) (bJ (cK hS.2.1 hb) (hS.2.2.trans (hb.mono hS.2.2.size)));have HS2:=aF hS;clear hb;refine hK1.out _ _ (fun _=>hS) ?_;clear hK1;((refine cR (v:=?_) ?_ hS ?_;rotate_left;(next=>(rintro X -;(try simp only [aI]);go_simp;rfl));simp only [aM]))
      refine cV ?_;clear hS;cases kq
      ·have HF:Hid (R=22):=aF (HV2.out.1 (by have:=HKQ.out;simpa using this));clear HV2;go_wp2_with fail
       go_ret;exact ⟨by rw [HF.out];rfl,HS2.out.2.2⟩
      ·have HF:=aF (HV2.out.2 (by have:=HKQ.out;simpa using this));clear HV2;go_wp2_with fail
       go_roundw
       case rel=>exact ⟨j+1,by omega,by go_num,aF HS2.out.1,aF HS2.out.2.1,aF HS2.out.2.2,HF⟩
       case measure=>simp [intOf];omega
     next=>
      have HF:Hid (R=fail22 (decide (tk≠q2))):=aF (by rw [hr.out,bE (by rw [HN.out];omega)];rfl);have e9:(tk != q2)=decide (tk≠q2):=by rw [bR];simp
      clear hr;by_cases h9:tk=q2
      ·have e8:(tk != q2)=false:=by simp [h9]
       rw [HX2.out] at e8;have HF2:Hid (R=0):=aF (by rw [HF.out];simp [h9,fail22]);clear e9 h9;go_wp2_with fail
       go_ret;exact ⟨by rw [HF2.out];rfl,HB.out⟩
      ·have e8:(tk != q2)=true:=by simp [h9]
       rw [HX2.out] at e8;have HF2:Hid (R=22):=aF (by rw [HF.out];simp [h9,fail22]);clear e9 h9;go_wp2_with fail
       go_ret;exact ⟨by rw [HF2.out];rfl,HB.out⟩
theorem xGY {b:Bdy} {bh:BH} {w:World} (H:Rk w b bh) (rv:Rvl) (t:Nat) (ht:t<b.types.length) (A B:Option Addr) (c d:Nat) (hl:Slc 4 ROp w B d rv.args) (h:shapeE rv=0) (hk:rv.kind=3) (hop:0<=rv.op/\rv.op<=5) (hpos:0<rv.args.length):
 Calls Tryz.prog 97 #[.agg (bdC b bh).toArray,.agg (rvC rv A c B d).toArray,.int .i64 t] w fun e' w'=>e' = .returned (.int .i64 (rvE b rv t))/\Below w.heap.size w w':=by
 obtain ⟨op,hope⟩:∃op,rv.op=op:=⟨_,rfl⟩;rw [hope] at hop;obtain ⟨hop0,hop1⟩:=hop;obtain ⟨q1,hq1⟩:∃q:Int,(if op=5 then 1 else 2)=q:=⟨_,rfl⟩;obtain ⟨q2,hq2⟩:∃q:Int,(if 3<=op then 1 else 2)=q:=⟨_,rfl⟩;have e10:decide (op<0)=false:=by simp;omega
 have e11:decide (5<op)=false:=by simp;omega
 have HSH:=aF (fun W=>xAH rv A B c d W);have HOP:=aF (fun W (hb:Below w.heap.size w W) (o:Opd) (A:Option Addr) (c:Nat) (hp:Slc 2 RPj w A c o.place.proj)=>xAE (H.keep hb) o A c (hp.keep RPj.keeps hb));have HKK:=aF (fun W (hb:Below w.heap.size w W) (o:Opd) (A:Option Addr) (c:Nat) (hp:Slc 2 RPj w A c o.place.proj) (ho:opE b o=0)=>xAN (H.keep hb).at_ H.ok o q1 A c (hp.keep RPj.keeps hb) ho)
 have HF0:Hid (rvE b rv t=if opsE b rv.args []≠0 then opsE b rv.args [] else if rv.args.all (fun o=>decide (kindO b o=q1))=true then fail22 (decide (b.types[t].kind≠q2)) else 22):=aF (by
  have hkt:kindT b (t:Int)=b.types[t].kind:=by unfold kindT;simp [ht]
  rw [xAX h ht,hk,<- hq1,<- hq2];rcases (show op=0\/op=1\/op=2\/op=3\/op=4\/op=5 by omega) with e | e | e | e | e | e
  all_goals
   rw [e] at hope;simp only [operE,hope,hkt,e]
   rfl)
 have HQ1:=aF hq1;have HQ2:=aF hq2;clear hq1 hq2;rw [h] at HSH;obtain ⟨bb,oo,hA3,hbb,hx⟩:=H.at_.typ.sl.at_ ht;have hle3:=H.at_.typ.le;have hbig3:=H.at_.typ.big;obtain ⟨r0,-⟩:=hx;have hle:=hl.le;have hbig:=hl.big;obtain ⟨b5,o5,rfl,hb5,-⟩:=hl.sl.at_ hpos;have HL:=aF hl;obtain ⟨n,hn⟩:∃n,rv.args.length=n:=⟨_,rfl⟩;have HN:=aF hn;generalize rvE b rv t=R at HF0 ⊢;generalize b.types[t].kind=tk at r0 HF0;clear H h hl;unfold bdC at *;unfold rvC at *;rw [hA3] at HOP HKK ⊢;rw [hn] at hle;rw [hk,hope,hn] at HSH ⊢;clear hn hpos hope hk;go_enter Tryz.func97,Tryz.ntmps97
 go_wp2_with (go_at_call 141;refine (HSH.out _).mono ?_;rintro e' w1 ⟨rfl,hb⟩;have HB:=aF ((bel2 _ _ _).trans (hb.mono (bel2 _ _ _).size));obtain ⟨y,z⟩:=cT hb;have HY:=aF y;have HZ:=aF z;obtain ⟨y0,y1,y2,y3,y4,y5,y6⟩:=aS HY.out;obtain ⟨z0,z1,z2,z3,z4,z5,z6⟩:=aS HZ.out;have q0:=cJ HB.out r0;clear y z hb)
 go_quiet (fail)
 all_goals go_wp2_with fail
 go_loopw [9] (fun v wr=>∃j:Nat,j<=n/\v = .int .i64 j/\Hid (aA (bdT b bh bb oo) wr w.heap.size)/\Hid (aA (rvL 3 op rv A c b5 o5 n d) wr (w.heap.size+1))/\Hid (Below w.heap.size w wr)/\Hid (opsE b rv.args []=opsE b (rv.args.drop j) [])) (fun v _=>n - (intOf v).toNat)
 case atStart=>exact ⟨0,by omega,rfl,aF HY.out,aF HZ.out,aF (aG HB.out _),aF rfl⟩
 case round=>
  clear HY HZ HB y0 y1 y2 y3 y4 y5 y6 z0 z1 z2 z3 z4 z5 z6 q0 r0;obtain ⟨j,hj,rfl,HY,HZ,HB,hr⟩:=hrel;have z6:=HZ.out 6 _ rfl;obtain ⟨z0,z1⟩:=aN HZ.out;by_cases hlt:j<n
  next=>
   have hl1:j<rv.args.length:=by rw [HN.out];exact hlt
   obtain ⟨b7,o7,hB7,hb7,hxo⟩:=HL.out.sl.at_ hl1;simp only [xAB,Addr.mk.injEq,and_true] at hB7;obtain ⟨rfl,rfl⟩:=hB7;have hmem:=bN hl1;have hd:=cS hl1;obtain ⟨o,hoo⟩:∃o,rv.args[j]=o:=⟨_,rfl⟩;rw [hoo] at hxo hd hmem;obtain ⟨p0,⟨p1,A2,c2,p2,hc1,hc2,hsl⟩,p3⟩:=hxo;have HPJ:Hid (Slc 2 RPj w A2 c2 o.place.proj):=aF ⟨hsl,hc1,hc2⟩;have P0:=aF p0;have P1:=aF p1;have P2:=aF (show w.cell? ⟨b5,o5+j * 4+2,none⟩=_ from p2);have P3:=aF p3;have HOO:=aF (fun W hb=>HOP.out W hb o A2 c2 HPJ.out);unfold opC at HOO
   have HV2:Hid ((opE b o≠0->R=opE b o)/\(opE b o=0->opsE b rv.args []=opsE b (rv.args.drop (j+1)) [])):=aF ⟨fun he=>by
    have h9:opsE b rv.args []=opE b o:=by rw [hr.out,hd,nW he]
    rw [HF0.out,h9,bA he],fun he=>by rw [hr.out,hd,lN he]⟩
   generalize opE b o=eo at HOO HV2;clear hr hd hmem hoo p0 p1 p2 p3 hsl hc1 hc2 hl1;go_wp2_with fail
   have hS:aB w (bdT b bh bb oo) (rvL 3 op rv A c b5 o5 n d) wr.drew:=⟨HY.out,HZ.out,HB.out.drew⟩;clear z0 z1 z6;refine cQ (S:=fun X=>aB w (bdT b bh bb oo) (rvL 3 op rv A c b5 o5 n d) X) [0,1,2,3,4,5,6,7] (by kernel_rfl) ?_;(iterate 6 (refine cR (v:=?_) ?_ hS ?_;rotate_left;(next=>(rintro X ⟨hX,hY,hZ⟩;obtain ⟨s0,s1,s2,s3,s4,s5,s6⟩:=aS hX;have u6:=hY 6 _ rfl;have u0:=hY 0 _ rfl;have p0:=cJ hZ P0.out;have p1:=cJ hZ P1.out;have p2:=cJ hZ P2.out;have p3:=cJ hZ P3.out;(try simp only [aI]);go_simp;rfl));simp only [aM]));(refine cM (fun K1 hK1=>?_);simp only [aM];rw [bA (by rfl)];go_simp);refine (HOO.out _ hS.2.2).mono ?_;rintro e' w2 ⟨rfl,hb⟩;replace hS:=bJ (cK hS.1 hb) (bJ (cK hS.2.1 hb) (hS.2.2.trans (hb.mono hS.2.2.size)));have HS2:=aF hS;clear hb;refine hK1.out _ _ (fun _=>hS) ?_;clear hK1;((refine cR (v:=?_) ?_ hS ?_;rotate_left;(next=>(rintro X -;(try simp only [aI]);go_simp;rfl));simp only [aM]))
   refine cV ?_;clear hS;by_cases he:eo=0
   ·subst he;have HV3:=aF (HV2.out.2 rfl);clear HV2;go_wp2_with fail
    have hS:aB w (bdT b bh bb oo) (rvL 3 op rv A c b5 o5 n d) w2.drew:=⟨HS2.out.1,HS2.out.2.1,HS2.out.2.2.drew⟩;refine cQ (S:=fun X=>aB w (bdT b bh bb oo) (rvL 3 op rv A c b5 o5 n d) X) [0,1,2,3,4,5,6,7,8,9,10,11,12,13,14,15,16,17,18,19,20,21] (by kernel_rfl) ?_;(iterate 4 (refine cR (v:=?_) ?_ hS ?_;rotate_left;(next=>(rintro X ⟨hX,hY,hZ⟩;obtain ⟨s0,s1,s2,s3,s4,s5,s6⟩:=aS hX;have u6:=hY 6 _ rfl;have u0:=hY 0 _ rfl;have p0:=cJ hZ P0.out;have p1:=cJ hZ P1.out;have p2:=cJ hZ P2.out;have p3:=cJ hZ P3.out;(try simp only [aI]);go_simp;rfl));simp only [aM]));(iterate 17 (refine cU (v:=undef) (by kernel_rfl) (fun _ _ _ h=>h) (Or.inr ⟨by rfl,rfl⟩) hS ?_;simp only [aM]));((refine cR (v:=?_) ?_ hS ?_;rotate_left;(next=>(rintro X -;(try simp only [aI]);go_simp;rfl));simp only [aM]))
    refine cV ?_;clear hS;go_wp2_with fail
    go_roundw
    case rel=>exact ⟨j+1,by omega,by go_num,aF HS2.out.1,aF HS2.out.2.1,aF HS2.out.2.2.drew,HV3⟩
    case measure=>simp [intOf];omega
   ·have HF:=aF (HV2.out.1 he);have e1:(eo != 0)=true:=by simp [he]
    clear he HV2;go_wp2_with fail
    go_ret;exact ⟨by rw [HF.out];rfl,HS2.out.2.2⟩
  next=>
   have hz:opsE b rv.args []=0:=by rw [hr.out,bE (by rw [HN.out];omega),rT]
   have HALL:=aF (nX hz);have HQ:Hid (R=if (rv.args.drop 0).all (fun o=>decide (kindO b o=q1))=true then fail22 (decide (tk≠q2)) else 22):=aF (by rw [HF0.out,aZ (by simp [hz]),bX]);clear hr hz HF0
   have hcs:(q1=2/\q2=2/\(op == 5)=false/\decide (3<=op)=false)\/(q1=2/\q2=1/\(op == 5)=false/\decide (3<=op)=true)\/(q1=1/\q2=1/\(op == 5)=true/\decide (3<=op)=true):=by
    rw [<- HQ1.out,<- HQ2.out];by_cases g:op=5
    ·right;right;simp [g]
    ·by_cases g2:3<=op
     ·right;left;simp [g,g2]
     ·left;simp [g,g2]
   rcases hcs with ⟨g0,g1,e12,e13⟩ | ⟨g0,g1,e12,e13⟩ | ⟨g0,g1,e12,e13⟩
   all_goals
    have HX1:=aF g0;have HX2:=aF g1;clear g0 g1;go_wp2_with fail
    clear hlt hj;go_loopw [13] (fun v wr=>∃j:Nat,j<=n/\v = .int .i64 j/\Hid (aA (bdT b bh bb oo) wr w.heap.size)/\Hid (aA (rvL 3 op rv A c b5 o5 n d) wr (w.heap.size+1))/\Hid (Below w.heap.size w wr)/\Hid (R=if (rv.args.drop j).all (fun o=>decide (kindO b o=q1))=true then fail22 (decide (tk≠q2)) else 22)) (fun v _=>n - (intOf v).toNat)
    case atStart=>exact ⟨0,by omega,rfl,HY,HZ,HB,HQ⟩
    case round=>
     clear HY HZ HB HQ z0 z1 z6;obtain ⟨j,hj,rfl,HY,HZ,HB,hr⟩:=hrel;have z6:=HZ.out 6 _ rfl;have z0:=HZ.out 0 _ rfl;by_cases hlt:j<n
     next=>
      have hl1:j<rv.args.length:=by rw [HN.out];exact hlt
      obtain ⟨b7,o7,hB7,hb7,hxo⟩:=HL.out.sl.at_ hl1;simp only [xAB,Addr.mk.injEq,and_true] at hB7;obtain ⟨rfl,rfl⟩:=hB7;have hmem:=bN hl1;have hd:=cS hl1;obtain ⟨o,hoo⟩:∃o,rv.args[j]=o:=⟨_,rfl⟩;rw [hoo] at hxo hd hmem;obtain ⟨p0,⟨p1,A2,c2,p2,hc1,hc2,hsl⟩,p3⟩:=hxo;have HPJ:Hid (Slc 2 RPj w A2 c2 o.place.proj):=aF ⟨hsl,hc1,hc2⟩;have P0:=aF p0;have P1:=aF p1;have P2:=aF (show w.cell? ⟨b5,o5+j * 4+2,none⟩=_ from p2);have P3:=aF p3;have HOO:=aF (fun W hb=>HKK.out W hb o A2 c2 HPJ.out (HALL.out o hmem));unfold opC at HOO
      have HV2:Hid ((kindO b o≠q1->R=22)/\(kindO b o=q1->R=if (rv.args.drop (j+1)).all (fun o=>decide (kindO b o=q1))=true then fail22 (decide (tk≠q2)) else 22)):=aF (by
       rw [hr.out,hd,cB];constructor
       ·intro h;simp [h]
       ·intro h;simp [h])
      obtain ⟨kq,hkq⟩:∃q,decide (kindO b o=q1)=q:=⟨_,rfl⟩;rw [hkq] at HOO;rw [HX1.out] at HOO;have HKQ:=aF hkq;clear hr hd hmem hoo p0 p1 p2 p3 hsl hc1 hc2 hl1 hkq;go_wp2_with fail
      have hS:aB w (bdT b bh bb oo) (rvL 3 op rv A c b5 o5 n d) wr.drew:=⟨HY.out,HZ.out,HB.out.drew⟩;clear z0 z6;refine cQ (S:=fun X=>aB w (bdT b bh bb oo) (rvL 3 op rv A c b5 o5 n d) X) [0,1,2,3,4,5,6,7,8] (by kernel_rfl) ?_;(iterate 7 (refine cR (v:=?_) ?_ hS ?_;rotate_left;(next=>(rintro X ⟨hX,hY,hZ⟩;obtain ⟨s0,s1,s2,s3,s4,s5,s6⟩:=aS hX;have u6:=hY 6 _ rfl;have u0:=hY 0 _ rfl;have p0:=cJ hZ P0.out;have p1:=cJ hZ P1.out;have p2:=cJ hZ P2.out;have p3:=cJ hZ P3.out;(try simp only [aI]);go_simp;rfl));simp only [aM]));(refine cM (fun K1 hK1=>?_);simp only [aM];rw [bA (by rfl)];go_simp);refine (HOO.out _ hS.2.2).mono ?_;rintro e' w2 ⟨rfl,hb⟩;replace hS:=bJ (cK hS.1 hb) (bJ (cK hS.2.1 hb) (hS.2.2.trans (hb.mono hS.2.2.size)));have HS2:=aF hS;clear hb;refine hK1.out _ _ (fun _=>hS) ?_;clear hK1;((refine cR (v:=?_) ?_ hS ?_;rotate_left;(next=>(rintro X -;(try simp only [aI]);go_simp;rfl));simp only [aM]))
      refine cV ?_;clear hS;cases kq
      ·have HF:Hid (R=22):=aF (HV2.out.1 (by have:=HKQ.out;simpa using this));clear HV2;go_wp2_with fail
       go_ret;exact ⟨by rw [HF.out];rfl,HS2.out.2.2⟩
      ·have HF:=aF (HV2.out.2 (by have:=HKQ.out;simpa using this));clear HV2;go_wp2_with fail
       go_roundw
       case rel=>exact ⟨j+1,by omega,by go_num,aF HS2.out.1,aF HS2.out.2.1,aF HS2.out.2.2,HF⟩
       case measure=>simp [intOf];omega
     next=>
      have HF:Hid (R=fail22 (decide (tk≠q2))):=aF (by rw [hr.out,bE (by rw [HN.out];omega)];rfl);have e9:(tk != q2)=decide (tk≠q2):=by rw [bR];simp
      clear hr;by_cases h9:tk=q2
      ·have e8:(tk != q2)=false:=by simp [h9]
       rw [HX2.out] at e8;have HF2:Hid (R=0):=aF (by rw [HF.out];simp [h9,fail22]);clear e9 h9;go_wp2_with fail
       go_ret;exact ⟨by rw [HF2.out];rfl,HB.out⟩
      ·have e8:(tk != q2)=true:=by simp [h9]
       rw [HX2.out] at e8;have HF2:Hid (R=22):=aF (by rw [HF.out];simp [h9,fail22]);clear e9 h9;go_wp2_with fail
       go_ret;exact ⟨by rw [HF2.out];rfl,HB.out⟩
end
section
open Go Go.RowKit
theorem xGG {b:Bdy} {bh:BH} {w:World} (H:Rk w b bh) (rv:Rvl) (t:Nat) (ht:t<b.types.length) (A B:Option Addr) (c d:Nat) (hp:Slc 2 RPj w A c rv.place.proj) (hl:Slc 4 ROp w B d rv.args):
 Calls Tryz.prog 97 #[.agg (bdC b bh).toArray,.agg (rvC rv A c B d).toArray,.int .i64 t] w fun e' w'=>e' = .returned (.int .i64 (rvE b rv t))/\Below w.heap.size w w':=by
 by_cases h:shapeE rv=0
 case neg=>exact xEZ rv t A B c d h
 obtain ⟨⟨h0,h1⟩,hu⟩:=xAW h;rcases (show rv.kind=0\/rv.kind=1\/rv.kind=2\/rv.kind=3\/rv.kind=4 by omega) with hk | hk | hk | hk | hk
 ·exact xGD H rv t ht A B c d hl h hk
 ·exact xGF H rv t ht A B c d hp h hk
 ·by_cases hr:rv.op<0\/1<rv.op
  ·exact xBN H rv t ht A B c d h (Or.inl ⟨hk,hr⟩)
  ·have hpos:0<rv.args.length:=by
    unfold unusedR at hu;rw [aZ (by omega),aZ (by omega),bA hk] at hu;simp only [bQ,decide_eq_true_eq] at hu;omega
   exact xGX H rv t ht A B c d hl h hk (by omega) hpos
 ·by_cases hr:rv.op<0\/5<rv.op
  ·exact xBN H rv t ht A B c d h (Or.inr ⟨hk,hr⟩)
  ·have hpos:0<rv.args.length:=by
    unfold unusedR at hu;rw [aZ (by omega),aZ (by omega),aZ (by omega),bA hk] at hu;simp only [bQ,decide_eq_true_eq] at hu;omega
   exact xGY H rv t ht A B c d hl h hk (by omega) hpos
 ·exact xFL H rv t ht A B c d hl h hk
theorem xGW {b:Bdy} {bh:BH} {w:World} (H:Rk w b bh) (s:Stm) (A0 A B:Option Addr) (c0 c d:Nat) (hp0:Slc 2 RPj w A0 c0 s.place.proj) (hp:Slc 2 RPj w A c s.rv.place.proj) (hl:Slc 4 ROp w B d s.rv.args):
 Calls Tryz.prog 55 #[.agg (bdC b bh).toArray,.agg (stC s A0 c0 A c B d).toArray] w fun e' w'=>e' = .returned (.int .i64 (stE b s))/\Below w.heap.size w w':=
 xFG H s A0 A B c0 c d hp0 hl (fun W hb t ht=>xGG (H.keep hb) s.rv t ht A B c d (hp.keep RPj.keeps hb) (hl.keep ROp.keeps hb))
end
end Go.Proofs.YtmknfbfppmkcfaaGreatDoor
