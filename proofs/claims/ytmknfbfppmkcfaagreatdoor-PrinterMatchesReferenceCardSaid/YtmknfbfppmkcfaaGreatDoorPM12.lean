/-
  Parts of the proof: V39I V39C V39O V39E V40 V41 A5 Y50 Y5 V67A.
-/
import Derived.Test.YtmknfbfppmkcfaaGreatDoorPM0
import Derived.Test.YtmknfbfppmkcfaaGreatDoorPM10
import Derived.Test.YtmknfbfppmkcfaaGreatDoorPM9
import Derived.Test.YtmknfbfppmkcfaaGreatDoorPM11
import Derived.Test.YtmknfbfppmkcfaaGreatDoorPM3
import Derived.Test.YtmknfbfppmkcfaaGreatDoorPM5
import Derived.Test.YtmknfbfppmkcfaaGreatDoorPM1
import Derived.Test.YtmknfbfppmkcfaaGreatDoorSj
import Derived.Test.YtmknfbfppmkcfaaGreatDoorPM6
import Derived.Deep.LoopGhost
import Derived.RangeFuncBox
import Derived.Lib.AppendIntMem
namespace Go.Proofs.YtmknfbfppmkcfaaGreatDoor
set_option maxRecDepth 100000
set_option maxHeartbeats 16000000
section
open Go Go.RowKit Go.Maps
theorem xDF {b:Bdy} {bh:BH} {r:Nat} {w:World} (H:Ck w b bh r) (t:Trm) (A B C:Option Addr) (c d f:Nat) (ht:Slc 1 RInt w A c t.targets) (hl:Slc 4 ROp w B d t.args) (hp:Slc 2 RPj w C f t.place.proj) (hk:t.kind=1) (hfd:fieldsT t=true):
 Calls Tryz.prog 72 #[.agg (ckC b bh r).toArray,.agg (tmC t A c B d C f).toArray] w fun e' w'=>e' = .returned (.int .i64 (tmE b t))/\Below w.heap.size w w':=by
 have HFD:=aF (fun W=>fS t A B C c d f W);have HH:=aF H;have HTG:=aF ht;have HL:=aF hl;have HP:=aF hp;have hle:=hl.le;have hbig:=hl.big;have hle2:=ht.le;have hbig2:=ht.big;have hblkl:=H.at_.blk.le;have hblkb:=H.at_.blk.big;obtain ⟨R,hR⟩:∃R,tmE b t=R:=⟨_,rfl⟩;rw [hR];have HR:=aF hR;clear hR H ht hl hp
 have hag:∃o,t.args=[o]:=by
  have h:=hfd;unfold fieldsT at h;rw [aZ (by omega),bA hk] at h;simp only [bQ,decide_eq_true_eq] at h;exact List.length_eq_one_iff.1 h.1.1.2
 obtain ⟨o,ho⟩:=hag;obtain ⟨bb,oo,rfl,hbb,hx⟩:=HL.out.sl.at_ (show 0<t.args.length by rw [ho];simp);simp only [ho,List.getElem_cons_zero,Nat.zero_mul,Nat.add_zero] at hx;obtain ⟨p0,⟨p1,A2,c2,p2,hc1,hc2,hsl⟩,p3⟩:=hx;have HPJ:Hid (Slc 2 RPj w A2 c2 o.place.proj):=aF ⟨hsl,hc1,hc2⟩;have P0:=aF p0;have P1:=aF p1;have P2:=aF (show w.cell? ⟨bb,oo+2,none⟩=_ from p2);have P3:=aF p3;have hal:0<t.args.length:=by rw [ho];simp
 have HOO:=aF (fun (W:World) (hb:Below w.heap.size w W)=>pI (HH.out.keep hb) o A2 c2 (HPJ.out.keep RPj.keeps hb));have HKK:=aF (fun (W:World) (hb:Below w.heap.size w W) (h:opE b o=0)=>sS (HH.out.keep hb) o A2 c2 (HPJ.out.keep RPj.keeps hb) h);obtain ⟨Q,hQ⟩:∃Q,(if opE b o≠0 then opE b o else fail22 (decide (kindO b o≠1)))=Q:=⟨_,rfl⟩;have HQ:=aF hQ
 have HF:Hid (R=if t.targets.all (fun k=>decide (0<=k/\k<(b.blocks.length:Int)))=true then Q else 3):=aF (by
  rw [<- HR.out,tmE,aZ (by omega),aZ (by rw [hfd];simp)];rw [<- HQ.out];cases t.targets.all (fun k=>decide (0<=k/\k<(b.blocks.length:Int)))
  ·simp
  ·simp [hk,ho])
 rw [hfd] at HFD;generalize kindO b o=ko at HKK hQ HQ;generalize opE b o=eo at HOO HKK hQ HQ;clear ho p0 p1 p2 p3 hsl hc1 hc2;unfold opC at HOO HKK;clear HR hQ hfd;unfold ckC at *;unfold tmC at *;rw [hk] at HFD ⊢;go_enter Tryz.func72,Tryz.ntmps72
 go_wp2_with (go_at_call 118;refine (HFD.out _).mono ?_;rintro e' w1 ⟨rfl,hb1⟩;have HB:=aF ((bel2 _ _ _).trans (hb1.mono (bel2 _ _ _).size));obtain ⟨y,z⟩:=cW hb1;have HY:=aF y;have HZ:=aF z;obtain ⟨y0,y1,y2,y3,y4,y5,y6,y7⟩:=aT HY.out;obtain ⟨z0,z1,z2,z3,z4,z5⟩:=aR HZ.out;clear y z hb1)
 all_goals try (exfalso;omega)
 go_loop [27] (fun v=>∃k:Nat,k<=t.targets.length/\v = .int .i64 k/\Hid (R=if (t.targets.drop k).all (fun k=>decide (0<=k/\k<(b.blocks.length:Int)))=true then Q else 3)) (fun v=>t.targets.length - (intOf v).toNat)
 case atStart=>exact ⟨0,by omega,rfl,HF⟩
 case round=>
  clear HF;obtain ⟨k,hk2,rfl,hr⟩:=hrel;by_cases hlt:k<t.targets.length
  ·have hd:=cY hlt;obtain ⟨b5,o5,rfl,hb5,hx⟩:=HTG.out.sl.at_ hlt;obtain ⟨x,hxx⟩:∃x,t.targets[k]=x:=⟨_,rfl⟩;rw [hxx] at hd hx;have x0:w1.cell? ⟨b5,o5+k,none⟩=some (.int .i64 x):=cN HB.out (by simpa [RInt] using hx);by_cases hin:0<=x/\x<(b.blocks.length:Int)
   ·have HF2:Hid (R=if (t.targets.drop (k+1)).all (fun k=>decide (0<=k/\k<(b.blocks.length:Int)))=true then Q else 3):=aF (by rw [hr.out,hd,cC];simp [hin]);have e1:¬x<0:=(by omega);have e2:¬(b.blocks.length:Int)<=x:=(by omega);clear hd hx hxx hr hin;go_wp2_with fail
    all_goals try (exfalso;omega)
    go_round
    case rel=>exact ⟨k+1,by omega,by go_num,HF2⟩
    case measure=>simp [intOf];omega
   ·have HF2:Hid (R=3):=aF (by rw [hr.out,hd,cC];simp;intro h1 h2;exact absurd ⟨h1,h2⟩ hin);clear hd hx hxx hr;go_wp2_with fail
    all_goals first
     | (exfalso;omega)
     | (go_ret;exact ⟨by rw [HF2.out];rfl,HB.out⟩)
  ·have HF2:Hid (R=Q):=aF (by rw [hr.out,bE (by omega:t.targets.length<=k)];rfl);clear hr;go_wp2_with fail
   have hS:aB w [Value.string b.name,.slice bh.A1 b.regions.length bh.c1,.slice bh.A2 b.outl.length bh.c2,.slice bh.A3 b.types.length bh.c3,.slice bh.A4 b.locals.length bh.c4,.int .i64 b.args,.slice bh.A5 b.blocks.length bh.c5,.pointer (some ⟨r,0,none⟩)] [Value.int .i64 1,.slice A t.targets.length c,.slice (some ⟨bb,oo,none⟩) t.args.length d,.int .i64 t.place.loc,.slice C t.place.proj.length f,.string t.name] w1.drew:=⟨HY.out,HZ.out,HB.out.drew⟩;clear y0 y1 y2 y3 y4 y5 y6 y7 z0 z1 z2 z3 z4 z5;refine cR (S:=fun X=>aB w [Value.string b.name,.slice bh.A1 b.regions.length bh.c1,.slice bh.A2 b.outl.length bh.c2,.slice bh.A3 b.types.length bh.c3,.slice bh.A4 b.locals.length bh.c4,.int .i64 b.args,.slice bh.A5 b.blocks.length bh.c5,.pointer (some ⟨r,0,none⟩)] [Value.int .i64 1,.slice A t.targets.length c,.slice (some ⟨bb,oo,none⟩) t.args.length d,.int .i64 t.place.loc,.slice C t.place.proj.length f,.string t.name] X) [0,1,2,3,4,5,6] (by kernel_rfl) ?_;(iterate 5 (refine cS (v:=?_) ?_ hS ?_;rotate_left;(next=>(rintro X ⟨hX,hY,hZ⟩;obtain ⟨s0,s1,s2,s3,s4,s5,s6,s7⟩:=aT hX;have v2:=hY 2 _ rfl;have p0:=cN hZ P0.out;have p1:=cN hZ P1.out;have p2:=cN hZ P2.out;have p3:=cN hZ P3.out;(try simp only [aI]);go_simp;rfl));simp only [aM]));(refine cV (fun K1 hK1=>?_);simp only [aM];rw [bA (by rfl)];go_simp);refine (HOO.out _ hS.2.2).mono ?_;rintro e' w2 ⟨rfl,hb⟩;replace hS:=bJ (cO hS.1 hb) (bJ (cO hS.2.1 hb) (hS.2.2.trans (hb.mono hS.2.2.size)));have HS2:=aF hS;clear hb;refine hK1.out _ _ (fun _=>hS) ?_;clear hK1;((refine cS (v:=?_) ?_ hS ?_;rotate_left;(next=>(rintro X -;(try simp only [aI]);go_simp;rfl));simp only [aM]))
   refine dA ?_;clear hS;by_cases heo:eo=0
   ·subst heo;have HK2:=aF (fun W hb=>HKK.out W hb rfl);have HF3:Hid (R=fail22 (decide (ko≠1))):=aF (by rw [HF2.out,<- HQ.out];simp);have eko:(ko != 1)=decide (ko≠1):=by rw [bR];simp
    go_wp2_with fail
    have hS:aB w [Value.string b.name,.slice bh.A1 b.regions.length bh.c1,.slice bh.A2 b.outl.length bh.c2,.slice bh.A3 b.types.length bh.c3,.slice bh.A4 b.locals.length bh.c4,.int .i64 b.args,.slice bh.A5 b.blocks.length bh.c5,.pointer (some ⟨r,0,none⟩)] [Value.int .i64 1,.slice A t.targets.length c,.slice (some ⟨bb,oo,none⟩) t.args.length d,.int .i64 t.place.loc,.slice C t.place.proj.length f,.string t.name] w2.drew:=⟨HS2.out.1,HS2.out.2.1,HS2.out.2.2.drew⟩;refine cR (S:=fun X=>aB w [Value.string b.name,.slice bh.A1 b.regions.length bh.c1,.slice bh.A2 b.outl.length bh.c2,.slice bh.A3 b.types.length bh.c3,.slice bh.A4 b.locals.length bh.c4,.int .i64 b.args,.slice bh.A5 b.blocks.length bh.c5,.pointer (some ⟨r,0,none⟩)] [Value.int .i64 1,.slice A t.targets.length c,.slice (some ⟨bb,oo,none⟩) t.args.length d,.int .i64 t.place.loc,.slice C t.place.proj.length f,.string t.name] X) [0,1,2,3,4,5,6,7,8] (by kernel_rfl) ?_;(iterate 5 (refine cS (v:=?_) ?_ hS ?_;rotate_left;(next=>(rintro X ⟨hX,hY,hZ⟩;obtain ⟨s0,s1,s2,s3,s4,s5,s6,s7⟩:=aT hX;have v2:=hY 2 _ rfl;have p0:=cN hZ P0.out;have p1:=cN hZ P1.out;have p2:=cN hZ P2.out;have p3:=cN hZ P3.out;(try simp only [aI]);go_simp;rfl));simp only [aM]));(refine cV (fun K1 hK1=>?_);simp only [aM];rw [bA (by rfl)];go_simp);refine (HK2.out _ hS.2.2).mono ?_;rintro e' w3 ⟨rfl,hb⟩;replace hS:=bJ (cO hS.1 hb) (bJ (cO hS.2.1 hb) (hS.2.2.trans (hb.mono hS.2.2.size)));clear hb;refine hK1.out _ _ (fun _=>hS) ?_;clear hK1;((refine cS (v:=?_) ?_ hS ?_;rotate_left;(next=>(rintro X -;(try simp only [aI]);go_simp;rfl));simp only [aM]))
    try rw [eko]
    (refine cV (fun K1 hK1=>?_);simp only [aM];rw [bA (by rfl)];go_simp);refine (dY _ _).mono ?_;rintro e' w4 ⟨rfl,hw⟩;obtain rfl:=hw.symm;refine hK1.out _ _ (fun _=>hS) ?_;clear hK1;((refine cS (v:=?_) ?_ hS ?_;rotate_left;(next=>(rintro X -;(try simp only [aI]);go_simp;rfl));simp only [aM]))
    refine dA ?_;have HS3:=aF hS.2.2;clear hS;go_wp2_with fail
    go_ret;exact ⟨by rw [HF3.out];first | rfl | (rw [<- eko];rfl),HS3.out⟩
   ·have HF3:Hid (R=eo):=aF (by rw [HF2.out,<- HQ.out];simp [heo]);have e9:(eo != 0)=true:=by simp [heo]
    clear heo;go_wp2_with fail
    go_ret;exact ⟨by rw [HF3.out];rfl,HS2.out.2.2⟩
theorem vU {b:Bdy} {bh:BH} {r:Nat} {w:World} (H:Ck w b bh r) (t:Trm) (A B C:Option Addr) (c d f:Nat) (ht:Slc 1 RInt w A c t.targets) (hl:Slc 4 ROp w B d t.args) (hp:Slc 2 RPj w C f t.place.proj) (hk:t.kind=3) (hfd:fieldsT t=true):
 Calls Tryz.prog 72 #[.agg (ckC b bh r).toArray,.agg (tmC t A c B d C f).toArray] w fun e' w'=>e' = .returned (.int .i64 (tmE b t))/\Below w.heap.size w w':=by
 have HFD:=aF (fun W=>fS t A B C c d f W);have HH:=aF H;have HTG:=aF ht;have HL:=aF hl;have HP:=aF hp;have hle:=hl.le;have hbig:=hl.big;have hle2:=ht.le;have hbig2:=ht.big;have hblkl:=H.at_.blk.le;have hblkb:=H.at_.blk.big;obtain ⟨R,hR⟩:∃R,tmE b t=R:=⟨_,rfl⟩;rw [hR];have HR:=aF hR;clear hR H ht hl hp;obtain ⟨Q,hQ⟩:∃Q,(if isIdent t.name=false then 12 else if 65535<t.args.length then 15 else if opsE b t.args []≠0 then opsE b t.args [] else writE b t.place)=Q:=⟨_,rfl⟩;have HQ:=aF hQ
 have HF:Hid (R=if t.targets.all (fun k=>decide (0<=k/\k<(b.blocks.length:Int)))=true then Q else 3):=aF (by
  rw [<- HR.out,tmE,aZ (by omega),aZ (by rw [hfd];simp)];rw [<- HQ.out];cases t.targets.all (fun k=>decide (0<=k/\k<(b.blocks.length:Int)))
  ·simp
  ·simp [hk])
 rw [hfd] at HFD;have HI:=aF (fun W=>fF t.name W);have HPO:=aF (fun (W:World) (hb:Below w.heap.size w W)=>fK (HH.out.keep hb) t.args [] B none d 0 (HL.out.keep ROp.keeps hb) ⟨Sl.nil,by simp,by omega⟩ (by simp));have HW:=aF (fun (W:World) (hb:Below w.heap.size w W)=>hG b bh r t.place C f W (HH.out.keep hb).at_ (HP.out.keep RPj.keeps hb) HH.out.ok.okay);generalize writE b t.place=we at HW hQ HQ;generalize opsE b t.args []=oe at HPO hQ HQ;generalize isIdent t.name=ii at HI hQ HQ;clear HR hQ hfd;unfold ckC at *;unfold tmC at *;rw [hk] at HFD ⊢;go_enter Tryz.func72,Tryz.ntmps72
 go_wp2_with (go_at_call 118;refine (HFD.out _).mono ?_;rintro e' w1 ⟨rfl,hb1⟩;have HB:=aF ((bel2 _ _ _).trans (hb1.mono (bel2 _ _ _).size));obtain ⟨y,z⟩:=cW hb1;have HY:=aF y;have HZ:=aF z;obtain ⟨y0,y1,y2,y3,y4,y5,y6,y7⟩:=aT HY.out;obtain ⟨z0,z1,z2,z3,z4,z5⟩:=aR HZ.out;clear y z hb1)
 all_goals try (exfalso;omega)
 go_loop [27] (fun v=>∃k:Nat,k<=t.targets.length/\v = .int .i64 k/\Hid (R=if (t.targets.drop k).all (fun k=>decide (0<=k/\k<(b.blocks.length:Int)))=true then Q else 3)) (fun v=>t.targets.length - (intOf v).toNat)
 case atStart=>exact ⟨0,by omega,rfl,HF⟩
 case round=>
  clear HF;obtain ⟨k,hk2,rfl,hr⟩:=hrel;by_cases hlt:k<t.targets.length
  ·have hd:=cY hlt;obtain ⟨b5,o5,rfl,hb5,hx⟩:=HTG.out.sl.at_ hlt;obtain ⟨x,hxx⟩:∃x,t.targets[k]=x:=⟨_,rfl⟩;rw [hxx] at hd hx;have x0:w1.cell? ⟨b5,o5+k,none⟩=some (.int .i64 x):=cN HB.out (by simpa [RInt] using hx);by_cases hin:0<=x/\x<(b.blocks.length:Int)
   ·have HF2:Hid (R=if (t.targets.drop (k+1)).all (fun k=>decide (0<=k/\k<(b.blocks.length:Int)))=true then Q else 3):=aF (by rw [hr.out,hd,cC];simp [hin]);have e1:¬x<0:=(by omega);have e2:¬(b.blocks.length:Int)<=x:=(by omega);clear hd hx hxx hr hin;go_wp2_with fail
    all_goals try (exfalso;omega)
    go_round
    case rel=>exact ⟨k+1,by omega,by go_num,HF2⟩
    case measure=>simp [intOf];omega
   ·have HF2:Hid (R=3):=aF (by rw [hr.out,hd,cC];simp;intro h1 h2;exact absurd ⟨h1,h2⟩ hin);clear hd hx hxx hr;go_wp2_with fail
    all_goals first
     | (exfalso;omega)
     | (go_ret;exact ⟨by rw [HF2.out];rfl,HB.out⟩)
  ·have HF2:Hid (R=Q):=aF (by rw [hr.out,bE (by omega:t.targets.length<=k)];rfl);clear hr;cases ii
   ·have HF3:Hid (R=12):=aF (by rw [HF2.out,<- HQ.out];rfl);go_wp2_with (go_at_call 108;refine (HI.out _).mono ?_;rintro e' w2 ⟨rfl,hb⟩;have HB2:=aF (HB.out.trans (hb.mono HB.out.size));have HY2:=aF (cO HY.out hb);have HZ2:=aF (cO HZ.out hb);clear y0 y1 y2 y3 y4 y5 y6 y7 z0 z1 z2 z3 z4 z5;obtain ⟨y0,y1,y2,y3,y4,y5,y6,y7⟩:=aT HY2.out;obtain ⟨z0,z1,z2,z3,z4,z5⟩:=aR HZ2.out;clear hb)
    go_ret;exact ⟨by rw [HF3.out];rfl,HB2.out⟩
   by_cases hln:65535<t.args.length
   ·have HF3:Hid (R=15):=aF (by rw [HF2.out,<- HQ.out];simp [hln]);go_wp2_with (go_at_call 108;refine (HI.out _).mono ?_;rintro e' w2 ⟨rfl,hb⟩;have HB2:=aF (HB.out.trans (hb.mono HB.out.size));have HY2:=aF (cO HY.out hb);have HZ2:=aF (cO HZ.out hb);clear y0 y1 y2 y3 y4 y5 y6 y7 z0 z1 z2 z3 z4 z5;obtain ⟨y0,y1,y2,y3,y4,y5,y6,y7⟩:=aT HY2.out;obtain ⟨z0,z1,z2,z3,z4,z5⟩:=aR HZ2.out;clear hb)
    all_goals first
     | (exfalso;omega)
     | (go_ret;exact ⟨by rw [HF3.out];rfl,HB2.out⟩)
   by_cases hoe:oe=0
   ·have HF3:Hid (R=we):=aF (by rw [HF2.out,<- HQ.out];simp [hln,hoe]);subst hoe;go_wp2_with (first | (go_at_call 108;refine (HI.out _).mono ?_;rintro e' w2 ⟨rfl,hb⟩;have HB2:=aF (HB.out.trans (hb.mono HB.out.size));have HY2:=aF (cO HY.out hb);have HZ2:=aF (cO HZ.out hb);clear y0 y1 y2 y3 y4 y5 y6 y7 z0 z1 z2 z3 z4 z5;obtain ⟨y0,y1,y2,y3,y4,y5,y6,y7⟩:=aT HY2.out;obtain ⟨z0,z1,z2,z3,z4,z5⟩:=aR HZ2.out;clear hb) | (go_at_call 122;refine (HPO.out _ HB2.out).mono ?_;rintro e' w3 ⟨rfl,hb⟩;have HB3:=aF (HB2.out.trans (hb.mono HB2.out.size));have HY3:=aF (cO HY2.out hb);have HZ3:=aF (cO HZ2.out hb);clear y0 y1 y2 y3 y4 y5 y6 y7 z0 z1 z2 z3 z4 z5;obtain ⟨y0,y1,y2,y3,y4,y5,y6,y7⟩:=aT HY3.out;obtain ⟨z0,z1,z2,z3,z4,z5⟩:=aR HZ3.out;clear hb) | (go_at_call 116;refine (HW.out _ HB3.out).mono ?_;rintro e' w4 ⟨rfl,hb⟩;have HB4:=aF (HB3.out.trans (hb.mono HB3.out.size));have HY4:=aF (cO HY3.out hb);have HZ4:=aF (cO HZ3.out hb);clear y0 y1 y2 y3 y4 y5 y6 y7 z0 z1 z2 z3 z4 z5;obtain ⟨y0,y1,y2,y3,y4,y5,y6,y7⟩:=aT HY4.out;obtain ⟨z0,z1,z2,z3,z4,z5⟩:=aR HZ4.out;clear hb))
    all_goals first
     | (exfalso;omega)
     | (go_ret;exact ⟨by rw [HF3.out];rfl,HB4.out⟩)
   ·have HF3:Hid (R=oe):=aF (by rw [HF2.out,<- HQ.out];simp [hln,hoe]);have e9:(oe != 0)=true:=by simp [hoe]
    clear hoe;go_wp2_with (first | (go_at_call 108;refine (HI.out _).mono ?_;rintro e' w2 ⟨rfl,hb⟩;have HB2:=aF (HB.out.trans (hb.mono HB.out.size));have HY2:=aF (cO HY.out hb);have HZ2:=aF (cO HZ.out hb);clear y0 y1 y2 y3 y4 y5 y6 y7 z0 z1 z2 z3 z4 z5;obtain ⟨y0,y1,y2,y3,y4,y5,y6,y7⟩:=aT HY2.out;obtain ⟨z0,z1,z2,z3,z4,z5⟩:=aR HZ2.out;clear hb) | (go_at_call 122;refine (HPO.out _ HB2.out).mono ?_;rintro e' w3 ⟨rfl,hb⟩;have HB3:=aF (HB2.out.trans (hb.mono HB2.out.size));have HY3:=aF (cO HY2.out hb);have HZ3:=aF (cO HZ2.out hb);clear y0 y1 y2 y3 y4 y5 y6 y7 z0 z1 z2 z3 z4 z5;obtain ⟨y0,y1,y2,y3,y4,y5,y6,y7⟩:=aT HY3.out;obtain ⟨z0,z1,z2,z3,z4,z5⟩:=aR HZ3.out;clear hb))
    all_goals first
     | (exfalso;omega)
     | (go_ret;exact ⟨by rw [HF3.out];rfl,HB3.out⟩)
theorem zQ {b:Bdy} {bh:BH} {r:Nat} {w:World} (H:Ck w b bh r) (t:Trm) (A B C:Option Addr) (c d f:Nat) (ht:Slc 1 RInt w A c t.targets) (hl:Slc 4 ROp w B d t.args) (hp:Slc 2 RPj w C f t.place.proj) (hk:t.kind=0\/t.kind=2\/t.kind=5) (hfd:fieldsT t=true):
 Calls Tryz.prog 72 #[.agg (ckC b bh r).toArray,.agg (tmC t A c B d C f).toArray] w fun e' w'=>e' = .returned (.int .i64 (tmE b t))/\Below w.heap.size w w':=by
 have HFD:=aF (fun W=>fS t A B C c d f W);have HH:=aF H;have HTG:=aF ht;have HL:=aF hl;have HP:=aF hp;have hle:=hl.le;have hbig:=hl.big;have hle2:=ht.le;have hbig2:=ht.big;have hblkl:=H.at_.blk.le;have hblkb:=H.at_.blk.big;obtain ⟨R,hR⟩:∃R,tmE b t=R:=⟨_,rfl⟩;rw [hR];have HR:=aF hR;clear hR H ht hl hp;obtain ⟨Q,hQ⟩:∃Q,((0:Int))=Q:=⟨_,rfl⟩;have HQ:=aF hQ
 have HF:Hid (R=if t.targets.all (fun k=>decide (0<=k/\k<(b.blocks.length:Int)))=true then Q else 3):=aF (by
  rw [<- HR.out,tmE,aZ (by omega),aZ (by rw [hfd];simp)];rw [<- HQ.out];cases t.targets.all (fun k=>decide (0<=k/\k<(b.blocks.length:Int)))
  ·simp
  ·simp [show t.kind≠1 by omega,show t.kind≠3 by omega,show t.kind≠4 by omega])
 rw [hfd] at HFD;clear HR hQ hfd;unfold ckC at *;unfold tmC at *;have k1:(t.kind == 1)=false:=by simp;omega
 have k3:(t.kind == 3)=false:=by simp;omega
 have k4:(t.kind == 4)=false:=by simp;omega
 go_enter Tryz.func72,Tryz.ntmps72
 go_wp2_with (go_at_call 118;refine (HFD.out _).mono ?_;rintro e' w1 ⟨rfl,hb1⟩;have HB:=aF ((bel2 _ _ _).trans (hb1.mono (bel2 _ _ _).size));obtain ⟨y,z⟩:=cW hb1;have HY:=aF y;have HZ:=aF z;obtain ⟨y0,y1,y2,y3,y4,y5,y6,y7⟩:=aT HY.out;obtain ⟨z0,z1,z2,z3,z4,z5⟩:=aR HZ.out;clear y z hb1)
 all_goals try (exfalso;omega)
 go_loop [27] (fun v=>∃k:Nat,k<=t.targets.length/\v = .int .i64 k/\Hid (R=if (t.targets.drop k).all (fun k=>decide (0<=k/\k<(b.blocks.length:Int)))=true then Q else 3)) (fun v=>t.targets.length - (intOf v).toNat)
 case atStart=>exact ⟨0,by omega,rfl,HF⟩
 case round=>
  clear HF;obtain ⟨k,hk2,rfl,hr⟩:=hrel;by_cases hlt:k<t.targets.length
  ·have hd:=cY hlt;obtain ⟨b5,o5,rfl,hb5,hx⟩:=HTG.out.sl.at_ hlt;obtain ⟨x,hxx⟩:∃x,t.targets[k]=x:=⟨_,rfl⟩;rw [hxx] at hd hx;have x0:w1.cell? ⟨b5,o5+k,none⟩=some (.int .i64 x):=cN HB.out (by simpa [RInt] using hx);by_cases hin:0<=x/\x<(b.blocks.length:Int)
   ·have HF2:Hid (R=if (t.targets.drop (k+1)).all (fun k=>decide (0<=k/\k<(b.blocks.length:Int)))=true then Q else 3):=aF (by rw [hr.out,hd,cC];simp [hin]);have e1:¬x<0:=(by omega);have e2:¬(b.blocks.length:Int)<=x:=(by omega);clear hd hx hxx hr hin;go_wp2_with fail
    all_goals try (exfalso;omega)
    go_round
    case rel=>exact ⟨k+1,by omega,by go_num,HF2⟩
    case measure=>simp [intOf];omega
   ·have HF2:Hid (R=3):=aF (by rw [hr.out,hd,cC];simp;intro h1 h2;exact absurd ⟨h1,h2⟩ hin);clear hd hx hxx hr;go_wp2_with fail
    all_goals first
     | (exfalso;omega)
     | (go_ret;exact ⟨by rw [HF2.out];rfl,HB.out⟩)
  ·have HF2:Hid (R=Q):=aF (by rw [hr.out,bE (by omega:t.targets.length<=k)];rfl);clear hr;go_wp2_with fail
   go_ret;exact ⟨by rw [HF2.out,<- HQ.out];rfl,HB.out⟩
theorem zR {b:Bdy} {bh:BH} {r:Nat} {w:World} (H:Ck w b bh r) (t:Trm) (A B C:Option Addr) (c d f:Nat) (ht:Slc 1 RInt w A c t.targets) (hl:Slc 4 ROp w B d t.args) (hp:Slc 2 RPj w C f t.place.proj):
 Calls Tryz.prog 72 #[.agg (ckC b bh r).toArray,.agg (tmC t A c B d C f).toArray] w fun e' w'=>e' = .returned (.int .i64 (tmE b t))/\Below w.heap.size w w':=by
 by_cases h0:t.kind<0\/5<t.kind
 ·exact rO H t A B C c d f ht hl hp (Or.inl h0)
 obtain ⟨q,hq⟩:∃q,fieldsT t=q:=⟨_,rfl⟩;cases q
 ·exact rO H t A B C c d f ht hl hp (Or.inr ⟨h0,hq⟩)
 rcases (show t.kind=1\/t.kind=3\/t.kind=4\/(t.kind=0\/t.kind=2\/t.kind=5) by omega) with h | h | h | h
 ·exact xDF H t A B C c d f ht hl hp h hq
 ·exact vU H t A B C c d f ht hl hp h hq
 ·exact vT H t A B C c d f ht hl hp h hq
 ·exact zQ H t A B C c d f ht hl hp h hq
theorem jO {k b:Nat} (hk:k≠b):∀(vs:List Value) (o:Nat) (w:World),(w.setCells b o vs).heap[k]?=w.heap[k]?
 | [],_,_=>rfl
 | v :: vs,o,w=>(jO hk vs (o+1) _).trans (bH w ⟨b,o,none⟩ v k hk)
theorem jF (b:Nat):∀(vs:List Value) (o:Nat) (w:World),(w.setCells b o vs).heap.size=w.heap.size
 | [],_,_=>rfl
 | v :: vs,o,w=>(jF b vs (o+1) _).trans (by simp)
theorem xBB (b:Bdy) (bh:BH) (w:World) (H:BdAt w b bh) (hok:DeclOk b):
 Calls Tryz.prog 70 #[.agg (bdC b bh).toArray] w fun e' w'=>∃r,e' = .returned (.agg (ckC b bh r).toArray)/\Ck w' b bh r/\Below w.heap.size w w':=by
 have HN:=aF (fun (W:World) (hb:Below w.heap.size w W)=>xEQ b.outl b.regions.length bh.A2 bh.c2 W (H.keep hb).out hok.outl (by have:=hok.nreg;omega));have HH:=aF H;have HO:=aF hok;clear H hok;unfold bdC ckC;go_enter Tryz.func70,Tryz.ntmps70
 go_wp2_with (go_at_call 114;refine (HN.out _ (bel2 _ _ _)).mono ?_;rintro e' w1 ⟨r0,M0,c0,F0,ba0,rfl,hrel,hr0,hM0,hb1⟩;have HB:=aF ((bel2 _ _ _).trans (hb1.mono (bel2 _ _ _).size));have HREL:=aF hrel;obtain ⟨y,z⟩:=cW hb1;obtain ⟨y0,y1,y2,y3,y4,y5,y6⟩:=aS y;have h8:w1.heap[w.heap.size+1]?=some (.cells #[.string ⟨#[]⟩,.slice none 0 0,.slice none 0 0,.slice none 0 0,.slice none 0 0,.int .i64 0,.slice none 0 0,.pointer none] 122):=(hb1.block _ (by simp)).trans (by rw [tJ _ _ _ (by simp)]);have f8:∀i,w1.frozen? ⟨w.heap.size+1,i,none⟩=false:=(fun i=>(by unfold World.frozen?;simp only [h8];simp));obtain ⟨z0,z1,z2,z3,z4,z5,z6,z7⟩:=aT z;have H8:=aF h8;simp only [bI] at hr0 hM0;clear h8 y z hb1 hrel)
 generalize hW2:((((((((w1.setCell ⟨w.heap.size+1,0,none⟩ (Value.string b.name)).setCell ⟨w.heap.size+1,1,none⟩ (Value.slice bh.A1 b.regions.length bh.c1)).setCell ⟨w.heap.size+1,2,none⟩ (Value.slice bh.A2 b.outl.length bh.c2)).setCell ⟨w.heap.size+1,3,none⟩ (Value.slice bh.A3 b.types.length bh.c3)).setCell ⟨w.heap.size+1,4,none⟩ (Value.slice bh.A4 b.locals.length bh.c4)).setCell ⟨w.heap.size+1,5,none⟩ (Value.int IntKind.i64 b.args)).setCell ⟨w.heap.size+1,6,none⟩ (Value.slice bh.A5 b.blocks.length bh.c5)).setCell ⟨w.heap.size+1,7,none⟩ (Value.pointer (some ⟨r0,0,none⟩)))=W2;have hW:w1.setCells (w.heap.size+1) 0 (ckC b bh r0)=W2:=hW2
 have hth:w1.there (w.heap.size+1) 0 8:=fun j hj=>⟨by
  rw [Nat.zero_add];match j,hj with
  | 0,_=>rw [z0];rfl
  | 1,_=>rw [z1];rfl
  | 2,_=>rw [z2];rfl
  | 3,_=>rw [z3];rfl
  | 4,_=>rw [z4];rfl
  | 5,_=>rw [z5];rfl
  | 6,_=>rw [z6];rfl
  | 7,_=>rw [z7];rfl,f8 _⟩
 have hcl:=World.rangeAt_setCells_same w1 (w.heap.size+1) 0 (ckC b bh r0) hth;have hbo:∀k,k≠w.heap.size+1->W2.heap[k]?=w1.heap[k]?:=fun k hk=>by rw [<- hW];exact jO hk _ _ _
 have hsz:W2.heap.size=w1.heap.size:=by rw [<- hW];exact jF _ _ _ _
 have hGI:=HREL.out.but (lo:=w.heap.size+2) hr0 hM0 (w':=W2) (fun k h1 _=>hbo k (by omega)) (by omega);have hBL:Below w.heap.size w W2:=by rw [<- hW];exact dO (Nat.le_succ _) _ _ _ HB.out
 rw [hW] at hcl;have v0:=hcl 0 _ rfl;have v1:=hcl 1 _ rfl;have v2:=hcl 2 _ rfl;have v3:=hcl 3 _ rfl;have v4:=hcl 4 _ rfl;have v5:=hcl 5 _ rfl;have v6:=hcl 6 _ rfl;have v7:=hcl 7 _ rfl;simp only [Nat.zero_add] at v0 v1 v2 v3 v4 v5 v6 v7;have HCK:=aF (show Ck W2 b bh r0 from ⟨HH.out.keep hBL,HO.out,hGI.rel3⟩);have HBL:=aF hBL;clear hGI hbo hcl hth hW hW2 hsz hBL HREL HH HO f8 z0 z1 z2 z3 z4 z5 z6 z7;exact bodyPost_ret (v:= .agg (ckC b bh r0).toArray) (by simp [results,Tryz.results70,go_sem,v0,v1,v2,v3,v4,v5,v6,v7];rfl) rfl ⟨r0,rfl,HCK.out,HBL.out⟩
theorem lX {w:World} {b o:Nat} {x:Blk} (h:RBk w w.heap.size b o x):∃A1 c1 A2 c2 A3 c3 A4 c4,w.cell? ⟨b,o,none⟩=some (.slice A1 x.stmts.length c1)/\w.cell? ⟨b,o+1,none⟩=some (.int .i64 x.term.kind)/\w.cell? ⟨b,o+2,none⟩=some (.slice A2 x.term.targets.length c2)/\w.cell? ⟨b,o+3,none⟩=some (.slice A3 x.term.args.length c3)/\w.cell? ⟨b,o+4,none⟩=some (.int .i64 x.term.place.loc)/\w.cell? ⟨b,o+5,none⟩=some (.slice A4 x.term.place.proj.length c4)/\w.cell? ⟨b,o+6,none⟩=some (.string x.term.name)/\
 Slc 11 RSt w A1 c1 x.stmts/\Slc 1 RInt w A2 c2 x.term.targets/\Slc 4 ROp w A3 c3 x.term.args/\Slc 2 RPj w A4 c4 x.term.place.proj:=by
 obtain ⟨⟨A1,c1,h1,h2,h3,h4⟩,t0,⟨A2,c2,t1,t2,t3,t4⟩,⟨A3,c3,s1,s2,s3,s4⟩,⟨p0,A4,c4,p1,p2,p3,p4⟩,t5⟩:=h;exact ⟨A1,c1,A2,c2,A3,c3,A4,c4,h1,t0,t1,s1,p0,p1,t5,⟨h4,h2,h3⟩,⟨t4,t2,t3⟩,⟨s4,s2,s3⟩,⟨p4,p2,p3⟩⟩
theorem kR {w:World} {b o:Nat} {s:Stm} (h:RSt w w.heap.size b o s):∃A0 c0 A c B d,w.cell? ⟨b,o,none⟩=some (.int .i64 s.kind)/\w.cell? ⟨b,o+1,none⟩=some (.int .i64 s.place.loc)/\w.cell? ⟨b,o+2,none⟩=some (.slice A0 s.place.proj.length c0)/\w.cell? ⟨b,o+3,none⟩=some (.int .i64 s.rv.kind)/\w.cell? ⟨b,o+4,none⟩=some (.int .i64 s.rv.op)/\w.cell? ⟨b,o+5,none⟩=some (.int .i64 s.rv.reg)/\w.cell? ⟨b,o+6,none⟩=some (.bool s.rv.mu)/\w.cell? ⟨b,o+7,none⟩=some (.int .i64 s.rv.place.loc)/\w.cell? ⟨b,o+8,none⟩=some (.slice A s.rv.place.proj.length c)/\w.cell? ⟨b,o+9,none⟩=some (.slice B s.rv.args.length d)/\w.cell? ⟨b,o+10,none⟩=some (.int .i64 s.loc)/\
 Slc 2 RPj w A0 c0 s.place.proj/\Slc 2 RPj w A c s.rv.place.proj/\Slc 4 ROp w B d s.rv.args:=by
 obtain ⟨k0,⟨p0,A0,c0,p1,p2,p3,p4⟩,⟨v0,v1,v2,v3,⟨q0,A,c,q1,q2,q3,q4⟩,⟨B,d,a1,a2,a3,a4⟩⟩,l0⟩:=h;exact ⟨A0,c0,A,c,B,d,k0,p0,p1,v0,v1,v2,v3,q0,q1,a1,l0,⟨p4,p2,p3⟩,⟨q4,q2,q3⟩,⟨a4,a2,a3⟩⟩
def bkL (x:Blk) (A1:Option Addr) (c1:Nat) (A2:Option Addr) (c2:Nat) (A3:Option Addr) (c3:Nat) (A4:Option Addr) (c4:Nat):List Value:=[.slice A1 x.stmts.length c1,.int .i64 x.term.kind,.slice A2 x.term.targets.length c2,.slice A3 x.term.args.length c3,.int .i64 x.term.place.loc,.slice A4 x.term.place.proj.length c4,.string x.term.name]
theorem mD (b:Bdy) (bh:BH) (w:World) (H:BdAt w b bh) (hT:TabsOk w):
 Calls Tryz.prog 27 #[.agg (bdC b bh).toArray] w fun e' w'=>e' = .returned (.int .i64 (chkB b))/\Below w.heap.size w w':=by
 have HD:=aF (fun (W:World) (hb:Below w.heap.size w W)=>xBM b bh W (H.keep hb));have HN:=aF (fun (W:World) (hb:Below w.heap.size w W) (h:declC b=0)=>xBB b bh W (H.keep hb) (dS h));have HH:=aF H;have HT:=aF hT;have hbl:=H.blk.le;have hbg:=H.blk.big;obtain ⟨R,hR⟩:∃R,chkB b=R:=⟨_,rfl⟩;rw [hR];have HR:Hid (R=if declC b=0 then bksE b b.blocks else declC b):=aF hR.symm;have HOK:=aF (fun h=>dS (b:=b) h);clear hR H hT;unfold bdC at *;by_cases hd:declC b=0
 case neg=>
  have HF:Hid (R=declC b):=aF (by rw [HR.out,aZ hd]);generalize declC b=de at HD HF hd;have e1:(de != 0)=true:=by simp [hd]
  clear HR HN HOK hd;go_enter Tryz.func27,Tryz.ntmps27
  go_wp2_with fail
  go_step3
  go_wp2_with (go_at_call 69;refine (HD.out _ ((aX _ _).alloc (aY _) _)).mono ?_;rintro e' w1 ⟨rfl,hb1⟩;have HB:=aF (((aX _ _).alloc (aY _) _).trans (hb1.mono ((aX _ _).alloc (aY _) _).size));have HY1:=aF (cO (cX w [Value.string b.name,.slice bh.A1 b.regions.length bh.c1,.slice bh.A2 b.outl.length bh.c2,.slice bh.A3 b.types.length bh.c3,.slice bh.A4 b.locals.length bh.c4,.int .i64 b.args,.slice bh.A5 b.blocks.length bh.c5] 28) hb1);obtain ⟨y0,y1,y2,y3,y4,y5,y6⟩:=aS HY1.out;clear hb1)
  rw [Exit.noGoto_ret];go_ret;exact ⟨by rw [HF.out];rfl,HB.out⟩
 case pos=>
 have HF:Hid (R=bksE b b.blocks):=aF (by rw [HR.out,bA hd]);rw [hd] at HD;have HDOK:=aF (HOK.out hd);clear HR HOK;unfold ckC at HN;go_enter Tryz.func27,Tryz.ntmps27
 go_wp2_with fail
 go_step3
 go_wp2_with (first | (go_at_call 69;refine (HD.out _ ((aX _ _).alloc (aY _) _)).mono ?_;rintro e' w1 ⟨rfl,hb1⟩;have HB:=aF (((aX _ _).alloc (aY _) _).trans (hb1.mono ((aX _ _).alloc (aY _) _).size));have HY1:=aF (cO (cX w [Value.string b.name,.slice bh.A1 b.regions.length bh.c1,.slice bh.A2 b.outl.length bh.c2,.slice bh.A3 b.types.length bh.c3,.slice bh.A4 b.locals.length bh.c4,.int .i64 b.args,.slice bh.A5 b.blocks.length bh.c5] 28) hb1);obtain ⟨y0,y1,y2,y3,y4,y5,y6⟩:=aS HY1.out;clear hb1) | (go_at_call 70;refine (HN.out _ HB.out hd).mono ?_;rintro e' w2 ⟨r,rfl,hck,hb2⟩;have HCK2:=aF hck;have HB2:=aF (HB.out.trans (hb2.mono HB.out.size));have HY2:=aF (cO HY1.out hb2);clear y0 y1 y2 y3 y4 y5 y6;obtain ⟨y0,y1,y2,y3,y4,y5,y6⟩:=aS HY2.out;have hsz2:w.heap.size<w2.heap.size:=bO (by have:=HB.out.size;have h9:=cE _ _ (HY1.out 0 _ rfl);exact h9) hb2.size;clear hck hb2))
 go_step3
 go_wp2_with fail
 have HSM:=aF (fun (W:World) (hb:Below w2.heap.size w2 W) (s:Stm) (A0 A B:Option Addr) (c0 c d:Nat) (hp0:Slc 2 RPj w2 A0 c0 s.place.proj) (hp:Slc 2 RPj w2 A c s.rv.place.proj) (hl:Slc 4 ROp w2 B d s.rv.args)=>zY (HCK2.out.keep hb) ((HT.out.keep HB2.out).keep hb) s A0 A B c0 c d (hp0.keep RPj.keeps hb) (hp.keep RPj.keeps hb) (hl.keep ROp.keeps hb));have HTM:=aF (fun (W:World) (hb:Below w2.heap.size w2 W) (t:Trm) (A B C:Option Addr) (c d f:Nat) (ht:Slc 1 RInt w2 A c t.targets) (hl:Slc 4 ROp w2 B d t.args) (hp:Slc 2 RPj w2 C f t.place.proj)=>zR (HCK2.out.keep hb) t A B C c d f (ht.keep RInt.keeps hb) (hl.keep ROp.keeps hb) (hp.keep RPj.keeps hb));have HBLK:=aF HCK2.out.at_.blk;have HCC:=aF (cX w2 (ckC b bh r) 122);unfold ckC at HSM HTM HCC;obtain ⟨bb,oo,hA5,hbb,hel⟩:=HBLK.out.sl HDOK.out.nblk.1;have HEL:=aF hel;clear hel;rw [hA5] at HSM HTM HCC ⊢;rw [hA5] at y6;clear y0 y1 y2 y3 y4 y5 y6 HD HN hd;go_loopg [3,19] b.blocks.length (fun gk e i wr=>∃k:Nat,gk=b.blocks.length - k/\k<=b.blocks.length/\e = .int .i64 0/\i = .int .i64 k/\Hid (aA (bdM b bh.A1 bh.c1 bh.A2 bh.c2 bh.A3 bh.c3 bh.A4 bh.c4 (some ⟨bb,oo,none⟩) bh.c5 [.pointer (some ⟨r,0,none⟩)]) wr w2.heap.size)/\Hid (Below w2.heap.size w2 wr)/\w2.heap.size+1<=wr.heap.size/\Hid (R=bksE b (b.blocks.drop k)))
 case atStart=>exact ⟨0,by omega,by omega,rfl,rfl,HCC,aF ((aX _ _).alloc (aY _) _),by simp,HF⟩
 case round=>
  clear HCC HF;obtain ⟨k,hgk,hk,rfl,rfl,HCC,HB3,hsz3,hr⟩:=hrel;have hlw3:w2.heap.size<wr.heap.size:=hsz3;by_cases hlt:k<b.blocks.length
  ·have hd:=cY hlt;have hx:=HEL.out k _ (bD hlt);obtain ⟨x,hxx⟩:∃x,b.blocks[k]=x:=⟨_,rfl⟩;rw [hxx] at hd hx;obtain ⟨A1,c1,A2,c2,A3,c3,A4,c4,p0,p1,p2,p3,p4,p5,p6,hs1,hs2,hs3,hs4⟩:=lX hx;have HQ:Hid (R=if bkE b x=0 then bksE b (b.blocks.drop (k+1)) else bkE b x):=aF (by rw [hr.out,hd,bksE]);have HS1:=aF hs1;have hl1:=hs1.le;have hg1:=hs1.big;have HTT:=aF (fun W hb=>HTM.out W hb x.term A2 A3 A4 c2 c3 c4 hs2 hs3 hs4);unfold tmC at HTT;replace p0:=cN HB3.out p0;replace p1:=cN HB3.out p1;replace p2:=cN HB3.out p2;replace p3:=cN HB3.out p3;replace p4:=cN HB3.out p4;replace p5:=cN HB3.out p5;replace p6:=cN HB3.out p6;clear hd hx hxx hr hs1 hs2 hs3 hs4;by_cases hln:65535<x.stmts.length
   ·have HF:Hid (R=15):=aF (by rw [HQ.out];unfold bkE;rw [bA hln];rfl);clear HQ;go_wp2_with fail
    rw [Exit.noGoto_ret];go_ret;exact ⟨by rw [HF.out];rfl,(HB2.out.trans (HB3.out.mono HB2.out.size)).alloc (bZ HB2.out.size HB3.out.size) _⟩
   have HQ2:Hid (R=if stsE b (x.stmts.drop 0)=0 then (if tmE b x.term=0 then bksE b (b.blocks.drop (k+1)) else tmE b x.term) else stsE b (x.stmts.drop 0)):=aF (by
    rw [HQ.out,bX];unfold bkE;rw [aZ hln]
    by_cases h:stsE b x.stmts=0 <;> simp [h])
   have HBK:=aF (cX wr (bkL x A1 c1 A2 c2 A3 c3 A4 c4) 64);have HCC2:Hid (∀i v,[Value.string b.name,.slice bh.A1 b.regions.length bh.c1,.slice bh.A2 b.outl.length bh.c2,.slice bh.A3 b.types.length bh.c3,.slice bh.A4 b.locals.length bh.c4,.int .i64 b.args,.slice (some ⟨bb,oo,none⟩) b.blocks.length bh.c5,.pointer (some ⟨r,0,none⟩)][i]?=some v->(wr.alloc (.cells (bkL x A1 c1 A2 c2 A3 c3 A4 c4).toArray 64)).cell? ⟨w2.heap.size,i,none⟩=some v):=aF (fun i v hi=>cN ((aX _ _).alloc (aY _) _) (HCC.out i v hi));have HB4:=aF (HB3.out.alloc (Nat.le_of_lt hlw3) (.cells (bkL x A1 c1 A2 c2 A3 c3 A4 c4).toArray 64));clear HQ;go_wp2_with fail
   go_loopg [3,30] x.stmts.length (fun gj e i wr2=>∃j:Nat,gj=x.stmts.length - j/\j<=x.stmts.length/\e = .int .i64 0/\i = .int .i64 j/\Hid (aA (bdM b bh.A1 bh.c1 bh.A2 bh.c2 bh.A3 bh.c3 bh.A4 bh.c4 (some ⟨bb,oo,none⟩) bh.c5 [.pointer (some ⟨r,0,none⟩)]) wr2 w2.heap.size)/\Hid (aA (bkL x A1 c1 A2 c2 A3 c3 A4 c4) wr2 wr.heap.size)/\Hid (Below w2.heap.size w2 wr2)/\wr.heap.size+1<=wr2.heap.size/\Hid (R=if stsE b (x.stmts.drop j)=0 then (if tmE b x.term=0 then bksE b (b.blocks.drop (k+1)) else tmE b x.term) else stsE b (x.stmts.drop j)))
   case atStart=>exact ⟨0,by omega,by omega,rfl,rfl,HCC2,HBK,HB4,by simp,HQ2⟩
   case round=>
    clear HCC2 HBK HB4 HQ2 p0 p1 p2 p3 p4 p5 p6 HCC HB3;obtain ⟨j,hgj,hj,rfl,rfl,HCC,HBK,HB5,hsz5,hr⟩:=hrel;have hlw5:=Nat.lt_of_succ_le hsz5;have hlw6:=Nat.lt_trans hlw3 hlw5;obtain ⟨v0,v1,v2,v3,v4,v5,v6,v7⟩:=aT HCC.out;by_cases hjl:j<x.stmts.length
    ·have hd:=cY hjl;obtain ⟨b3,o3,rfl,hb3,hy⟩:=HS1.out.sl.at_ hjl;obtain ⟨s,hss⟩:∃s,x.stmts[j]=s:=⟨_,rfl⟩;rw [hss] at hd hy;obtain ⟨B0,d0,B1,d1,B2,d2,m0,m1,m2,m3,m4,m5,m6,m7,m8,m9,m10,hp0,hp,hl⟩:=kR hy;have HSS:=aF (fun W hb=>HSM.out W hb s B0 B1 B2 d0 d1 d2 hp0 hp hl);unfold stC at HSS;replace m0:=cN HB5.out m0;replace m1:=cN HB5.out m1;replace m2:=cN HB5.out m2;replace m3:=cN HB5.out m3;replace m4:=cN HB5.out m4;replace m5:=cN HB5.out m5;replace m6:=cN HB5.out m6;replace m7:=cN HB5.out m7;replace m8:=cN HB5.out m8;replace m9:=cN HB5.out m9;replace m10:=cN HB5.out m10
     have HQ3:Hid ((stE b s=0->R=if stsE b (x.stmts.drop (j+1))=0 then (if tmE b x.term=0 then bksE b (b.blocks.drop (k+1)) else tmE b x.term) else stsE b (x.stmts.drop (j+1)))/\(stE b s≠0->R=stE b s)):=aF (by
      rw [hr.out,hd];constructor
      ·intro h;rw [show stsE b (s :: x.stmts.drop (j+1))=stsE b (x.stmts.drop (j+1)) from by rw [stsE,bA h]]
      ·intro h;rw [show stsE b (s :: x.stmts.drop (j+1))=stE b s from by rw [stsE,aZ h],aZ h])
     have HB6:=aF (HB5.out.alloc (Nat.le_of_lt hlw6) (.cells (stC s B0 d0 B1 d1 B2 d2).toArray 87));generalize stE b s=es at HSS HQ3;clear hd hy hss hp0 hp hl hr;by_cases he:es=0
     ·subst he;have HF:=aF (HQ3.out.1 rfl);clear HQ3;go_wp2_with (go_at_call 71;refine (HSS.out _ HB6.out).mono ?_;rintro e' w5 ⟨rfl,hb5⟩;have HB7:=aF (HB6.out.trans (hb5.mono HB6.out.size));have HC7:=aF (dM HCC.out hb5);have HK7:=aF (dM HBK.out hb5);have hsz7:=hb5.size;simp only [bI] at hsz7;clear hb5)
      go_roundg (x.stmts.length - (j+1))
      case measure=>omega
      case rel=>exact ⟨j+1,rfl,by omega,rfl,by go_num,HC7,HK7,HB7,by omega,HF⟩
     ·have HF:=aF (HQ3.out.2 he);have e1:(es != 0)=true:=by simp [he]
      clear HQ3 he;go_wp2_with (go_at_call 71;refine (HSS.out _ HB6.out).mono ?_;rintro e' w5 ⟨rfl,hb5⟩;have HB7:=aF (HB6.out.trans (hb5.mono HB6.out.size));clear hb5)
      rw [Exit.noGoto_ret];go_ret;exact ⟨by rw [HF.out];rfl,HB2.out.trans (HB7.out.mono HB2.out.size)⟩
    ·have HQ3:Hid (R=if tmE b x.term=0 then bksE b (b.blocks.drop (k+1)) else tmE b x.term):=aF (by rw [hr.out,bE (by omega:x.stmts.length<=j)];rfl);obtain ⟨k0,k1,k2,k3,k4,k5,k6⟩:=aS HBK.out;generalize tmE b x.term=et at HTT HQ3;clear hr;by_cases he:et=0
     ·subst he;have HF:Hid (R=bksE b (b.blocks.drop (k+1))):=aF (by rw [HQ3.out];rfl);clear HQ3;go_wp2_with (go_at_call 72;refine (HTT.out _ HB5.out).mono ?_;rintro e' w5 ⟨rfl,hb5⟩;have HB7:=aF (HB5.out.trans (hb5.mono HB5.out.size));have HC7:=aF (cO HCC.out hb5);have hsz7:=hb5.size;clear hb5)
      go_roundg (b.blocks.length - (k+1))
      case measure=>omega
      case rel=>exact ⟨k+1,rfl,by omega,rfl,by go_num,HC7,HB7,by omega,HF⟩
     ·have HF:Hid (R=et):=aF (by rw [HQ3.out,aZ he]);have e1:(et == 0)=false:=by simp [he]
      clear HQ3 he;go_wp2_with (go_at_call 72;refine (HTT.out _ HB5.out).mono ?_;rintro e' w5 ⟨rfl,hb5⟩;have HB7:=aF (HB5.out.trans (hb5.mono HB5.out.size));clear hb5)
      rw [Exit.noGoto_ret];go_ret;exact ⟨by rw [HF.out];rfl,HB2.out.trans (HB7.out.mono HB2.out.size)⟩
  ·have HF:Hid (R=0):=aF (by rw [hr.out,bE (by omega:b.blocks.length<=k)];rfl);clear hr;go_wp2_with fail
   rw [Exit.noGoto_ret];go_ret;exact ⟨by rw [HF.out];rfl,HB2.out.trans (HB3.out.mono HB2.out.size)⟩
end
section
open Go Go.RowKit
def cntP:List Blk->Nat
 | []=>0
 | x :: xs=>(x.stmts.length+1)+cntP xs
theorem yT (l:List Blk) (x:Blk):cntP (l ++ [x])=cntP l+(x.stmts.length+1):=by
 induction l with
 | nil=>simp [cntP]
 | cons y l ih=>simp only [List.cons_append,cntP,ih];omega
theorem yS {l:List Blk} {k:Nat} (h:k<l.length):cntP (l.take (k+1))=cntP (l.take k)+(l[k].stmts.length+1):=by
 rw [bF h,yT]
theorem xFI {l:List Blk} {m:Nat} (h:∀x∈l,x.stmts.length<=m):cntP l<=(m+1) * l.length:=by
 induction l with
 | nil=>simp [cntP]
 | cons y l ih=>
   have h1:=h y (by simp);have h2:=ih (fun x hx=>h x (by simp [hx]));simp only [cntP,bK,Nat.mul_add];omega
theorem pU {l:List Blk} (k:Nat):cntP (l.take k)<=cntP l:=by
 induction l generalizing k with
 | nil=>simp [cntP]
 | cons y l ih=>
   cases k with
   | zero=>simp [cntP]
   | succ k=>simp only [List.take_succ_cons,cntP];have:=ih k;omega
def stL (l:List Blk) (k:Nat):List Int:=(List.range (k+1)).map (fun i=>((cntP (l.take i):Nat):Int))
theorem zZ (l:List Blk):stL l 0=[0]:=by simp [stL,cntP]
theorem vZ (l:List Blk) (k:Nat):(stL l k).length=k+1:=by simp [stL]
theorem xCF (l:List Blk) {k i:Nat} (h:i<=k):(stL l k)[i]?=some ((cntP (l.take i):Nat):Int):=by
 simp [stL,show i<k+1 by omega]
theorem xAA (l:List Blk) (k:Nat):stL l (k+1)=stL l k ++ [((cntP (l.take (k+1)):Nat):Int)]:=by
 unfold stL;rw [List.range_succ,bU];rfl
theorem xEJ (w:World) (x:Value) (e:TypeId) (base:Nat) (hb:base<=w.heap.size):(w.alloc (.cells #[x] e)).ownsRow base e 1 (.slice (some ⟨w.heap.size,0,none⟩) 1 1) 1 [x]:=
 ⟨rfl,.inr ⟨w.heap.size,1,#[x],rfl,hb,heap_alloc_new w _,aY _,by decide,rfl,rfl⟩⟩
theorem tT (b:Bdy) (bh:BH) (w:World) (H:BdAt w b bh) (hz:cntP b.blocks<=4611686018427387904) (hl:b.blocks.length<=1000000):
 Calls Tryz.prog 90 #[.agg (bdC b bh).toArray] w fun e' w'=>(∃A c,e' = .returned (.slice A (b.blocks.length+1) c)/\Slc 1 RInt w' A c (stL b.blocks b.blocks.length))/\Below w.heap.size w w':=by
 obtain ⟨A1,c1,A2,c2,A3,c3,A4,c4,A5,c5⟩:=bh;have hbl:=H.blk.le;have hbg:=H.blk.big;have HBK:=aF H.blk;have HZ:=aF hz;simp only at hbl hbg HBK;obtain ⟨i0,hi,hz0,hz1,hz2⟩:=info_parts dZ;have HCW:=aF (cX w [Value.string b.name,.slice A1 b.regions.length c1,.slice A2 b.outl.length c2,.slice A3 b.types.length c3,.slice A4 b.locals.length c4,.int .i64 b.args,.slice A5 b.blocks.length c5] 28);have HBW:=aF ((aX w.heap.size w).alloc (aY _) (.cells ([Value.string b.name,.slice A1 b.regions.length c1,.slice A2 b.outl.length c2,.slice A3 b.types.length c3,.slice A4 b.locals.length c4,.int .i64 b.args,.slice A5 b.blocks.length c5]).toArray 28));have y6:(w.alloc (.cells ([Value.string b.name,.slice A1 b.regions.length c1,.slice A2 b.outl.length c2,.slice A3 b.types.length c3,.slice A4 b.locals.length c4,.int .i64 b.args,.slice A5 b.blocks.length c5]).toArray 28)).cell? ⟨w.heap.size,6,none⟩=some (.slice A5 b.blocks.length c5):=HCW.out 6 _ rfl;clear H HCW hz;unfold bdC;simp only;go_enter Tryz.func90,Tryz.ntmps90
 go_wp2_with fail
 have hz0':w.heap.size+1<=((w.alloc (.cells ([Value.string b.name,.slice A1 b.regions.length c1,.slice A2 b.outl.length c2,.slice A3 b.types.length c3,.slice A4 b.locals.length c4,.int .i64 b.args,.slice A5 b.blocks.length c5]).toArray 28)).alloc (.cells #[.int .i64 0] 3)).heap.size:=by simp
 have HO0:Hid (((w.alloc (.cells ([Value.string b.name,.slice A1 b.regions.length c1,.slice A2 b.outl.length c2,.slice A3 b.types.length c3,.slice A4 b.locals.length c4,.int .i64 b.args,.slice A5 b.blocks.length c5]).toArray 28)).alloc (.cells #[.int .i64 0] 3)).ownsRow (w.heap.size+1) 3 1 (.slice (some ⟨w.heap.size+1,0,none⟩) 1 1) 1 ((stL b.blocks 0).map (Value.int .i64))):=aF (by
  rw [zZ];have h:=xEJ (w.alloc (.cells ([Value.string b.name,.slice A1 b.regions.length c1,.slice A2 b.outl.length c2,.slice A3 b.types.length c3,.slice A4 b.locals.length c4,.int .i64 b.args,.slice A5 b.blocks.length c5]).toArray 28)) (.int .i64 0) 3 (w.heap.size+1) (by simp)
  rwa [bI] at h)
 have HB1:Hid (Below w.heap.size w ((w.alloc (.cells ([Value.string b.name,.slice A1 b.regions.length c1,.slice A2 b.outl.length c2,.slice A3 b.types.length c3,.slice A4 b.locals.length c4,.int .i64 b.args,.slice A5 b.blocks.length c5]).toArray 28)).alloc (.cells #[.int .i64 0] 3))):=aF (HBW.out.alloc (by simp) _);go_loopw [3,10] (fun v i wr=>∃k:Nat,k<=b.blocks.length/\i = .int .i64 k/\Hid (wr.ownsRow (w.heap.size+1) 3 1 v (k+1) ((stL b.blocks k).map (Value.int .i64)))/\Hid (Below w.heap.size w wr)) (fun _ i _=>b.blocks.length - (intOf i).toNat)
 case atStart=>exact ⟨0,by omega,rfl,HO0,HB1⟩
 case round=>
  clear HO0 HB1 hz0';obtain ⟨k,hk,rfl,HO,HB⟩:=hrel;obtain ⟨g,cap,rfl⟩:=ownsRow_succ HO.out;have hsz:=HB.out.size;have hgl:=(HO.out.lt g rfl);by_cases hlt:k<b.blocks.length
  case neg=>
   obtain rfl:k=b.blocks.length:=by omega
   have HSL:=kS (R:=RInt) (enc:=Value.int .i64) (fun w B b o x h=>h) HO.out (vZ _ _);have HS:=aF HSL;clear HSL hgl;go_wp2_with fail
   go_ret;obtain ⟨A,c,e,hs,-⟩:=HS.out;exact ⟨⟨A,c,by rw [e];rfl,hs⟩,HB.out⟩
  case pos=>
  obtain ⟨bb,oo,rfl,hbb,y⟩:=HBK.out.sl.at_ hlt;obtain ⟨S1,d1,S2,d2,S3,d3,S4,d4,h0,h1,h2,h3,h4,h5,h6,q1,q2,q3,q4⟩:=lX y;have g0:=(HB.out.cell (p:=⟨bb,oo+k * 7,none⟩) hbb).trans h0;have g1:=(HB.out.cell (p:=⟨bb,oo+k * 7+1,none⟩) hbb).trans h1;have g2:=(HB.out.cell (p:=⟨bb,oo+k * 7+2,none⟩) hbb).trans h2;have g3:=(HB.out.cell (p:=⟨bb,oo+k * 7+3,none⟩) hbb).trans h3;have g4:=(HB.out.cell (p:=⟨bb,oo+k * 7+4,none⟩) hbb).trans h4;have g5:=(HB.out.cell (p:=⟨bb,oo+k * 7+5,none⟩) hbb).trans h5;have g6:=(HB.out.cell (p:=⟨bb,oo+k * 7+6,none⟩) hbb).trans h6;have HT:=aF (yS hlt);have hle2:=pU (l:=b.blocks) (k+1);have hZ2:cntP (b.blocks.take (k+1))<=4611686018427387904:=bZ hle2 HZ.out;have HSU:=aF (xAA b.blocks k);have hcell:=HO.out.cells (g:=g) rfl k (.int .i64 (cntP (b.blocks.take k))) (by rw [cM,xCF _ (aY k)];rfl);rw [add0] at hcell;generalize b.blocks[k]=x at *;obtain ⟨xs,tk,tg,ar,⟨tl,tp⟩,tn⟩:=x;simp only at g0 g1 g2 g3 g4 g5 g6 HT;clear h0 h1 h2 h3 h4 h5 h6 q1 q2 q3 q4 y hle2;rw [HT.out] at hZ2 HSU;obtain ⟨m,hm⟩:∃m,xs.length=m:=⟨_,rfl⟩;obtain ⟨c,hc⟩:∃c,cntP (b.blocks.take k)=c:=⟨_,rfl⟩;rw [hm] at HSU hZ2 g0;rw [hc] at HSU hZ2 hcell;have hw1:IntKind.i64.wrap ((c:Int)+(m:Int))=((c+m:Nat):Int):=by rw [IntKind.wrap_i64];omega
  have hw2:IntKind.i64.wrap (((c+m:Nat):Int)+1)=((c+(m+1):Nat):Int):=by rw [IntKind.wrap_i64];omega
  clear hm hc HT;go_wp2_with fail
  obtain ⟨W1,hW1⟩:∃W,wr.alloc (.cells #[.slice S1 m d1,.int .i64 tk,.slice S2 tg.length d2,.slice S3 ar.length d3,.int .i64 tl,.slice S4 tp.length d4,.string tn] 64)=W:=⟨_,rfl⟩;have hbW:Below wr.heap.size wr W1:=by rw [<- hW1];exact (aX _ _).alloc (aY _) _
  have hnew:=cX wr [.slice S1 m d1,.int .i64 tk,.slice S2 tg.length d2,.slice S3 ar.length d3,.int .i64 tl,.slice S4 tp.length d4,.string tn] 64 0 _ rfl;simp only [hW1] at hnew;have HO1:Hid (W1.ownsRow (w.heap.size+1) 3 1 (.slice (some ⟨g,0,none⟩) (k+1) cap) (k+1) ((stL b.blocks k).map (Value.int .i64))):=aF (dG HO.out hbW);have HBB:=aF (HB.out.trans (hbW.mono hsz));try rw [hW1]
  have hkk:(k:Int)<(k:Int)+1:=by omega
  have hS:W1.drew.cell? ⟨g,k,none⟩=some (.int .i64 c)/\W1.drew.cell? ⟨wr.heap.size,0,none⟩=some (.slice S1 m d1):=⟨cN hbW.drew hcell,hnew⟩;refine dU (S:=fun X=>X.cell? ⟨g,k,none⟩=some (.int .i64 c)/\X.cell? ⟨wr.heap.size,0,none⟩=some (.slice S1 m d1)) 11 [0,1,2,3,4,5,6,7,8,9,10,11,12] (by kernel_rfl) ?_;(iterate 8 (refine eJ (v:=?_) (by kernel_rfl) (fun _ _ _ h=>h) (Or.inl ⟨by rfl,?_⟩) hS ?_;rotate_left;(next=>(rintro X ⟨s1,s2⟩;(try simp only [aI]);go_simp;rfl));simp only [aM]));refine eJ (v:= .int .i64 ((c+m:Nat):Int)) (by kernel_rfl) (fun _ _ _ h=>h) (Or.inl ⟨by rfl,?_⟩) hS ?_
  ·rintro X -
   (try simp only [aI]);go_simp
  (simp only [aM]);refine eJ (v:= .int .i64 ((c+(m+1):Nat):Int)) (by kernel_rfl) (fun _ _ _ h=>h) (Or.inl ⟨by rfl,?_⟩) hS ?_
  ·rintro X -
   (try simp only [aI]);go_simp;first | rfl | (rw [IntKind.wrap_i64];omega)
  (simp only [aM]);(refine cV (fun K1 hK1=>?_);simp only [aM];rw [bA (by rfl)];go_simp);have hbn:Below W1.heap.size W1 (W1.alloc (.cells #[.int .i64 (((c+(m+1):Nat):Int))] 3)):=(aX _ _).alloc (aY _) _;have hnx:=kX W1 [.int .i64 (((c+(m+1):Nat):Int))] 3;have hO2:=dG HO1.out hbn.drew;obtain ⟨W2,hW2⟩:∃W,(W1.alloc (.cells #[.int .i64 (((c+(m+1):Nat):Int))] 3)).drew=W:=⟨_,rfl⟩;push_cast at hW2
  try rw [hW2]
  have hbn2:Below W1.heap.size W1 W2:=by rw [<- hW2];exact hbn.drew
  have hO3:W2.ownsRow (w.heap.size+1) 3 1 (.slice (some ⟨g,0,none⟩) (k+1) cap) (k+1) ((stL b.blocks k).map (Value.int .i64)):=dG HO1.out hbn2
  have hnx2:∀j u,[Value.int .i64 ((c+(m+1):Nat):Int)][j]?=some u->W2.cell? ((⟨W1.heap.size,0,none⟩:Addr).add j)=some u:=fun j u hj=>by
   rw [add0,<- hW2];exact hnx j u hj
  have hS2:W2.cell? ⟨g,k,none⟩=some (.int .i64 c)/\W2.cell? ⟨wr.heap.size,0,none⟩=some (.slice S1 m d1):=⟨cN hbn2 hS.1,cN hbn2 hS.2⟩;have hB2:Below w.heap.size w W2:=HBB.out.trans (hbn2.mono HBB.out.size);have hsz2:=hB2.size;have hw1s:W1.heap.size<W2.heap.size:=by rw [<- hW2];simp
  refine hK1.out _ _ (fun _=>hS2) ?_;clear hK1;(refine cV (fun K1 hK1=>?_);simp only [aM];rw [bA (by rfl)]);refine iM (.tmp 15) (.tmp 25) 58 rfl (w.heap.size+1) 3 i0 (.int .i64 0) 1 8 Tryz.underlying58 hi hz0 hz1 hz2 rfl (by decide) (.slice (some ⟨g,0,none⟩) (k+1) cap) (k+1) _ rfl hO3 ⟨W1.heap.size,0,none⟩ 1 1 [.int .i64 ((c+(m+1):Nat):Int)] rfl rfl hnx2 (fun u hu=>by simp at hu;subst hu;rfl) (by unfold maxLen;omega) (by omega) (by have:=HBB.out.size;have:=hbW.size;omega) ?_;intro v' w5 hown' hgrow _;obtain ⟨B5,d5,hv⟩:=lC hown';subst hv;have HO5:Hid (w5.ownsRow (w.heap.size+1) 3 1 (.slice B5 (k+1+1) d5) (k+1+1) ((stL b.blocks (k+1)).map (Value.int .i64))):=aF (by rw [HSU.out,bU];exact hown');have HB5:=aF (hB2.grown hgrow (by omega) (fun q hq=>by have:=(hO3.lt q hq).1;omega));refine hK1.out _ _ (fun h=>absurd h (by decide)) ?_;clear hK1 hown' hgrow hO3 hnx2 hS2 hS hW2 hbn hbn2 hB2 hnx hO2;(refine cV (fun K1 hK1=>?_);simp only [aM];rw [bA (by rfl)];go_simp);refine hK1.out _ _ (fun h=>absurd h (by decide)) ?_;refine dA ?_;go_wp2_with fail
  go_roundw
  case rel=>exact ⟨k+1,by omega,by go_num,HO5,HB5⟩
  case measure=>simp [intOf];omega
theorem uP (b:Bdy) (bh:BH) (w:World) (H:BdAt w b bh) (hz:cntP b.blocks<=4611686018427387904) (hl:b.blocks.length<=1000000):
 Calls Tryz.prog 44 #[.agg (bdC b bh).toArray] w fun e' w'=>e' = .returned (.int .i64 (cntP b.blocks))/\Below w.heap.size w w':=by
 obtain ⟨A1,c1,A2,c2,A3,c3,A4,c4,A5,c5⟩:=bh;have hbl:=H.blk.le;have hbg:=H.blk.big;simp only at hbl hbg;have HBW:=aF ((aX w.heap.size w).alloc (aY _) (.cells ([Value.string b.name,.slice A1 b.regions.length c1,.slice A2 b.outl.length c2,.slice A3 b.types.length c3,.slice A4 b.locals.length c4,.int .i64 b.args,.slice A5 b.blocks.length c5]).toArray 28))
 have HF:Hid (Calls Tryz.prog 90 #[.agg ([Value.string b.name,.slice A1 b.regions.length c1,.slice A2 b.outl.length c2,.slice A3 b.types.length c3,.slice A4 b.locals.length c4,.int .i64 b.args,.slice A5 b.blocks.length c5]).toArray] (w.alloc (.cells ([Value.string b.name,.slice A1 b.regions.length c1,.slice A2 b.outl.length c2,.slice A3 b.types.length c3,.slice A4 b.locals.length c4,.int .i64 b.args,.slice A5 b.blocks.length c5]).toArray 28)) fun e' w'=>∃g o c,e' = .returned (.slice (some ⟨g,o,none⟩) (b.blocks.length+1) c)/\w'.cell? ⟨g,o+b.blocks.length,none⟩=some (.int .i64 (cntP b.blocks))/\Below (w.alloc (.cells ([Value.string b.name,.slice A1 b.regions.length c1,.slice A2 b.outl.length c2,.slice A3 b.types.length c3,.slice A4 b.locals.length c4,.int .i64 b.args,.slice A5 b.blocks.length c5]).toArray 28)).heap.size (w.alloc (.cells ([Value.string b.name,.slice A1 b.regions.length c1,.slice A2 b.outl.length c2,.slice A3 b.types.length c3,.slice A4 b.locals.length c4,.int .i64 b.args,.slice A5 b.blocks.length c5]).toArray 28)) w'):=
  aF ((tT b ⟨A1,c1,A2,c2,A3,c3,A4,c4,A5,c5⟩ _ (H.keep HBW.out) hz hl).mono (by
   rintro e' w1 ⟨⟨A,c,rfl,hs⟩,hb⟩;obtain ⟨gb,go,rfl,hgb,hx⟩:=hs.sl.at_ (i:=b.blocks.length) (by rw [vZ];omega);refine ⟨gb,go,c,rfl,?_,hb⟩;have h:=hx;unfold RInt at h;rw [Nat.mul_one] at h;obtain ⟨_,e⟩:=List.getElem_of_getElem? (xCF b.blocks (aY b.blocks.length))
   rw [h,e,cA]))
 have hwl:IntKind.i64.wrap ((b.blocks.length:Int)+1 - 1)=(b.blocks.length:Int):=by rw [IntKind.wrap_i64];omega
 have hll:(b.blocks.length:Int)<(b.blocks.length:Int)+1:=by omega
 clear H;unfold bdC;simp only;go_enter Tryz.func44,Tryz.ntmps44
 go_wp2_with (go_at_call 90;refine HF.out.mono ?_;rintro e' w1 ⟨g,o,c,rfl,x0,hb⟩)
 go_ret;exact ⟨rfl,HBW.out.trans (hb.mono HBW.out.size)⟩
def mutP (m:Bool):List UInt8:=if m then [109,117,116,32] else []
def lnP (ls:List Lc) (rs:List ByteArray) (l:Ln):List UInt8:=[108,111,97,110,32,39] ++ rgP rs l.reg ++ [32] ++ mutP l.mu ++ placeP ls l.place ++ [32,97,116,32] ++ Lib.itoa l.pt
def sR (ls:List Lc) (rs:List ByteArray) (l:Ln):List UInt8:=[32,32] ++ lnP ls rs l ++ semP
def prP (wd:List UInt8) (x:Int × Int):List UInt8:=wd ++ [32] ++ Lib.itoa x.1 ++ [32] ++ Lib.itoa x.2
def prLine (wd:List UInt8) (x:Int × Int):List UInt8:=[32,32] ++ prP wd x ++ semP
def lvP (rs:List ByteArray) (x:Int × Int):List UInt8:=[108,105,118,101,32,39] ++ rgP rs x.1 ++ [32] ++ Lib.itoa x.2
def sO (rs:List ByteArray) (x:Int × Int):List UInt8:=[32,32] ++ lvP rs x ++ semP
def wEdge:List UInt8:=[101,100,103,101]
def wKill:List UInt8:=[107,105,108,108,101,100]
def wInv:List UInt8:=[105,110,118,97,108,105,100]
def wFacts:List UInt8:=[102,97,99,116,115]
def printF (b:Bdy) (f:Fct):List UInt8:=
 headP wFacts b ++ (f.loans.flatMap (sR b.locals b.regions) ++ (f.edges.flatMap (prLine wEdge) ++ (f.killed.flatMap (prLine wKill) ++ (f.inval.flatMap (prLine wInv) ++ (f.live.flatMap (sO b.regions) ++ [125,10])))))
def canP (nl:Nat) (l:Ln):Prop:=l.place.loc<nl/\∀x∈l.place.proj,x.field<65535
instance (nl:Nat) (l:Ln):Decidable (canP nl l):=by unfold canP;exact inferInstance
def okF (b:Bdy) (f:Fct):Prop:=chkB b=0/\fctE f (cntP b.blocks) b.regions.length=0/\∀l∈f.loans,canP b.locals.length l
instance (b:Bdy) (f:Fct):Decidable (okF b f):=by unfold okF;exact inferInstance
def pfR (b:Bdy) (f:Fct):List UInt8 × Int:=if okF b f then (printF b f,0) else ([],16)
def PowTab (w : World) : Prop := Lib.TabIs Tryz.prog w "internal/strconv.uint64pow10" .u64 Lib.pow10Tab
theorem gPow : Tryz.prog.globalNamed "internal/strconv.uint64pow10" = some 5 := by kernel_rfl
theorem PowTab.keep {w w':World} (h:PowTab w) (hb:Below w.heap.size w w'):PowTab w':=by
 unfold PowTab Lib.TabIs World.var? at *;rw [gPow,Option.bind_some] at h ⊢;by_cases h1:5<w.heap.size
 ·rw [hb.block 5 h1];exact h
 ·rw [Array.getElem?_eq_none (by omega)] at h;cases h
theorem lP {w w':World} (h:∃k os,w'=Go.Sort.grow (w.drewN k) os):Below w.heap.size w w':=by
 obtain ⟨k,os,rfl⟩:=h;exact Lib.below_grow _ _ (aY _) _ _
theorem index_any' (s:List UInt8) (n:Int) (h0 : -9223372036854775808<=n) (h1:n<=9223372036854775807) (hs:s.length<=10) (w:World) (ht:PowTab w):
 Calls Tryz.prog 34 #[.string ⟨s.toArray⟩,.int .i64 n] w fun e' w'=>e' = .returned (tx (s ++ Lib.itoa n))/\Below w.heap.size w w':=by
 have HT:=aF ht;clear ht;have hl:=Lib.itoa_length_le n h0 h1;obtain ⟨t,hte⟩:∃t,Lib.itoa n=t:=⟨_,rfl⟩;have HI:=aF (Tryz.strconv_Itoa n h0 h1 w HT.out);rw [hte] at hl HI ⊢;have hz:¬(9223372036854775807<s.length+t.length):=by omega
 have ea:=fT s t;clear hl hte hs;go_enter Tryz.func34,Tryz.ntmps34
 go_wp2_with (go_at_call 77;refine HI.out.mono ?_;rintro e' w1 ⟨rfl,hb1⟩)
 go_ret;exact ⟨rfl,lP hb1⟩
theorem iR (rs:List ByteArray) (g:Nat) (A:Option Addr) (c:Nat) (i:Int) (w:World) (hc:w.cell? ⟨g,3,none⟩=some (.slice A rs.length c)) (H:Slc 1 RN w A c rs) (hi:okI rs.length i) (hz:Sm (rgP rs i)):
 Calls Tryz.prog 33 #[.pointer (some ⟨g,0,none⟩),.int .i64 i] w fun e' w'=>e' = .returned (tx (39 :: rgP rs i))/\w'=w:=by
 obtain ⟨k,rfl⟩:=bG hi.1;have hk:k<rs.length:=by have:=hi.2;omega
 obtain ⟨bb,oo,rfl,hbb,hx⟩:=H.sl.at_ hk;have hle:=H.le;have hbig:=H.big;have e:rgP rs (k:Int)=bl rs[k]:=by unfold rgP;rw [bW,bD hk];rfl
 rw [e] at hz ⊢;rw [gD rs[k]] at hx;have x0:w.cell? ⟨bb,oo+k,none⟩=some (.string ⟨(bl rs[k]).toArray⟩):=by have:=hx;unfold RN at this;rw [Nat.mul_one] at this;exact this
 generalize bl rs[k]=t at *;have hz0:¬(9223372036854775807<1+t.length):=by have:=hz;omega
 have ea:=ba_r #[39] t;clear hx e hz H hi;go_enter Tryz.func33,Tryz.ntmps33
 go_wp2_with fail
 go_ret;exact ⟨rfl,rfl⟩
theorem fD (ls:List Lc) (g:Nat) (A4:Option Addr) (c4:Nat) (p:Plc) (A:Option Addr) (c:Nat) (w:World) (hc:w.cell? ⟨g,6,none⟩=some (.slice A4 ls.length c4)) (H:Slc 2 RLc w A4 c4 ls) (hp:Slc 2 RPj w A c p.proj)
 (hl:okI ls.length p.loc) (hf:∀x∈p.proj,fitJ x) (hz:Sm (placeP ls p)) (ht:PowTab w):
 Calls Tryz.prog 48 #[.pointer (some ⟨g,0,none⟩),.agg #[.int .i64 p.loc,.slice A p.proj.length c]] w fun e' w'=>e' = .returned (tx (placeP ls p))/\Below w.heap.size w w':=by
 obtain ⟨i,ps⟩:=p;simp only at hp hl hf ⊢;obtain ⟨k,rfl⟩:=bG hl.1;have hk:k<ls.length:=by have:=hl.2;omega
 obtain ⟨bb,oo,rfl,hbb,hx⟩:=H.sl.at_ hk;have hle:=H.le;have hbig:=H.big;have hle2:=hp.le;have hbig2:=hp.big;have HP:=aF hp;have HF:=aF hf;have HT:=aF ht;obtain ⟨nm,hnm⟩:∃nm:List UInt8,bl (ls[k]).name=nm:=⟨_,rfl⟩;have x0:w.cell? ⟨bb,oo+k * 2,none⟩=some (tx nm):=by rw [<- hnm];have:=hx.1;rw [gD (ls[k]).name] at this;exact this
 obtain ⟨R,hR⟩:∃R,placeP ls ⟨k,ps⟩=R:=⟨_,rfl⟩;rw [hR] at hz ⊢;have HR:Hid (R=37 :: (nm ++ pjsP ps)):=aF (by rw [<- hR];unfold placeP;simp only;rw [nm_at hk,hnm])
 have hz0:¬(9223372036854775807<1+nm.length):=by
  have:=congrArg List.length HR.out;rw [bK,bB] at this;omega
 have HZ:=aF hz;have HN:=aF (fun (x:Pj) (hx:fitJ x) W (hb:Below w.heap.size w W)=>index_any' [46] x.field hx.1 hx.2 (by simp) W (HT.out.keep hb));have e1:=ba_r #[37] nm;have hg:g<w.heap.size:=cE w _ hc;clear hR hx hnm hp hf hl hz H ht;go_enter Tryz.func48,Tryz.ntmps48
 go_wp2_with fail
 go_quiet (fail)
 go_wp2_with fail
 go_loopw [5,7,22] (fun s q v wr=>∃(l:List UInt8) (j:Nat),s=tx l/\q=q/\v = .int .i64 j/\j<=ps.length/\Hid (R=l ++ pjsP (ps.drop j))/\Hid (Below w.heap.size w wr)) (fun _ _ v _=>ps.length - (intOf v).toNat)
 case atStart=>exact ⟨37 :: nm,0,rfl,rfl,rfl,Nat.zero_le _,aF (by rw [HR.out];rfl),aF (aG ((aX _ _).alloc (aY _) _) _)⟩
 case round=>
  obtain ⟨l,j,rfl,_,rfl,hj,HG,HB⟩:=hrel;clear x0 hz0 e1 hc hg hbb;by_cases hlt:j<ps.length
  case neg=>
   have HE:Hid (R=l):=aF (by rw [HG.out,bE (by omega)];simp [pjsP]);clear HG;go_wp2_with fail
   go_ret;exact ⟨by rw [HE.out];rfl,HB.out⟩
  case pos=>
   have hd:=cY hlt;obtain ⟨b1,o1,rfl,hb1,z0,z1⟩:=(HP.out.keep RPj.keeps HB.out).sl.at_ hlt;have hfx:fitJ ps[j]:=HF.out _ (bN hlt);obtain ⟨x,hx⟩:∃x,ps[j]=x:=⟨_,rfl⟩;rw [hx] at hd z0 z1 hfx;obtain ⟨m,f⟩:=x;have HX:=aF (HN.out ⟨m,f⟩ hfx);have HL:Hid (R=l ++ (pjP ⟨m,f⟩ ++ pjsP (ps.drop (j+1)))):=aF (by rw [HG.out,hd];rfl);simp only at z0 z1 HX;have hbs:=dB hb1;clear HG hd hx;obtain ⟨t,ht⟩:∃t,Lib.itoa f=t:=⟨_,rfl⟩;have hj1:(j:Int)+1<=9223372036854775807:=by omega
   rcases Decidable.em (m=0) with rfl | hm
   ·have HQ:Hid (R=(l ++ [46,42]) ++ pjsP (ps.drop (j+1))):=aF (by rw [HL.out];simp [pjP])
    have hs1:¬(9223372036854775807<l.length+2):=by
     have:=congrArg List.length HQ.out;have:=HZ.out;simp only [bB,bK,bP] at *;omega
    have ea:=ba_l l #[46,42];clear HL ht HX;go_wp2_with fail
    exact ⟨⟨l ++ [46,42],j+1,rfl,trivial,by go_num,by omega,HQ,aF (by have hb0:=HB.out;have hb2:=hb0.size;exact aH)⟩,by simp [intOf];omega⟩
   ·have HQ:Hid (R=(l ++ 46 :: t) ++ pjsP (ps.drop (j+1))):=aF (by rw [HL.out];simp [pjP,hm,ht])
    have hs1:¬(9223372036854775807<l.length+(t.length+1)):=by
     have:=congrArg List.length HQ.out;have:=HZ.out;simp only [bB,bK,bP] at *;omega
    have ea:(⟨l.toArray⟩:ByteArray) ++ ⟨(46 :: t).toArray⟩=⟨(l ++ 46 :: t).toArray⟩:=fT l (46 :: t);have em:(m == 0)=false:=by simp [hm]
    rw [ht] at HX;clear HL ht hm;have HBA:=aF (fun (o:Obj)=>(HB.out.alloc HB.out.size o));go_wp2_with (go_at_call 34;refine (HX.out _ (HBA.out _)).mono ?_;rintro e' w1 ⟨rfl,hb2⟩)
    exact ⟨⟨l ++ 46 :: t,j+1,rfl,trivial,by go_num,by omega,HQ,aF ((HBA.out _).trans (hb2.mono (HBA.out _).size))⟩,by simp [intOf];omega⟩
theorem gC (w:World) (l m k:List Value) (t1 t2 t3:TypeId):(∀i v,l[i]?=some v->(((w.alloc (.cells l.toArray t1)).alloc (.cells m.toArray t2)).alloc (.cells k.toArray t3)).drew.cell? ⟨w.heap.size,i,none⟩=some v)/\(∀i v,m[i]?=some v->(((w.alloc (.cells l.toArray t1)).alloc (.cells m.toArray t2)).alloc (.cells k.toArray t3)).drew.cell? ⟨w.heap.size+1,i,none⟩=some v)/\(∀i v,k[i]?=some v->(((w.alloc (.cells l.toArray t1)).alloc (.cells m.toArray t2)).alloc (.cells k.toArray t3)).drew.cell? ⟨w.heap.size+1+1,i,none⟩=some v)/\Below w.heap.size w (((w.alloc (.cells l.toArray t1)).alloc (.cells m.toArray t2)).alloc (.cells k.toArray t3)).drew:=
 ⟨(dK (aX _ _)).1,(dK (aX _ _)).2.1,(dK (aX _ _)).2.2,Below.drew (bel3 _ _ _ _)⟩
end
end Go.Proofs.YtmknfbfppmkcfaaGreatDoor
