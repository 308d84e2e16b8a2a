/-
  Parts of the proof: V39I V39C V39O V39E V3 V13 V15B V40 V64.
-/
import Derived.Test.YtmknfbfppmkcfaaGreatDoorPP0
import Derived.Test.YtmknfbfppmkcfaaGreatDoorPP8
import Derived.Test.YtmknfbfppmkcfaaGreatDoorPP7
import Derived.Test.YtmknfbfppmkcfaaGreatDoorPP3
import Derived.Test.YtmknfbfppmkcfaaGreatDoorPP4
import Derived.Test.YtmknfbfppmkcfaaGreatDoorPP5
import Derived.Deep.DeepCutAuto
namespace Go.Proofs.YtmknfbfppmkcfaaGreatDoor
set_option maxRecDepth 100000
set_option maxHeartbeats 16000000
section
open Go Go.RowKit Go.Maps
theorem wZ {b:Bdy} {bh:BH} {r:Nat} {w:World} (H:Ck w b bh r) (t:Trm) (A B C:Option Addr) (c d f:Nat) (ht:Slc 1 RInt w A c t.targets) (hl:Slc 4 ROp w B d t.args) (hp:Slc 2 RPj w C f t.place.proj) (hk:t.kind=1) (hfd:fieldsT t=true):
 Calls Tryz.prog 72 #[.agg (ckC b bh r).toArray,.agg (tmC t A c B d C f).toArray] w fun e' w'=>e' = .returned (.int .i64 (tmE b t))/\Below w.heap.size w w':=by
 have HFD:=aF (fun W=>eV t A B C c d f W);have HH:=aF H;have HTG:=aF ht;have HL:=aF hl;have HP:=aF hp;have hle:=hl.le;have hbig:=hl.big;have hle2:=ht.le;have hbig2:=ht.big;have hblkl:=H.at_.blk.le;have hblkb:=H.at_.blk.big;obtain ⟨R,hR⟩:∃R,tmE b t=R:=⟨_,rfl⟩;rw [hR];have HR:=aF hR;clear hR H ht hl hp
 have hag:∃o,t.args=[o]:=by
  have h:=hfd;unfold fieldsT at h;rw [aZ (by omega),bA hk] at h;simp only [bQ,decide_eq_true_eq] at h;exact List.length_eq_one_iff.1 h.1.1.2
 obtain ⟨o,ho⟩:=hag;obtain ⟨bb,oo,rfl,hbb,hx⟩:=HL.out.sl.at_ (show 0<t.args.length by rw [ho];simp);simp only [ho,List.getElem_cons_zero,Nat.zero_mul,Nat.add_zero] at hx;obtain ⟨p0,⟨p1,A2,c2,p2,hc1,hc2,hsl⟩,p3⟩:=hx;have HPJ:Hid (Slc 2 RPj w A2 c2 o.place.proj):=aF ⟨hsl,hc1,hc2⟩;have P0:=aF p0;have P1:=aF p1;have P2:=aF (show w.cell? ⟨bb,oo+2,none⟩=_ from p2);have P3:=aF p3;have hal:0<t.args.length:=by rw [ho];simp
 have HOO:=aF (fun (W:World) (hb:Below w.heap.size w W)=>lO (HH.out.keep hb) o A2 c2 (HPJ.out.keep RPj.keeps hb));have HKK:=aF (fun (W:World) (hb:Below w.heap.size w W) (h:opE b o=0)=>oJ (HH.out.keep hb) o A2 c2 (HPJ.out.keep RPj.keeps hb) h);obtain ⟨Q,hQ⟩:∃Q,(if opE b o≠0 then opE b o else fail22 (decide (kindO b o≠1)))=Q:=⟨_,rfl⟩;have HQ:=aF hQ
 have HF:Hid (R=if t.targets.all (fun k=>decide (0<=k/\k<(b.blocks.length:Int)))=true then Q else 3):=aF (by
  rw [<- HR.out,tmE,aZ (by omega),aZ (by rw [hfd];simp)];rw [<- HQ.out];cases t.targets.all (fun k=>decide (0<=k/\k<(b.blocks.length:Int)))
  ·simp
  ·simp [hk,ho])
 rw [hfd] at HFD;generalize kindO b o=ko at HKK hQ HQ;generalize opE b o=eo at HOO HKK hQ HQ;clear ho p0 p1 p2 p3 hsl hc1 hc2;unfold opC at HOO HKK;clear HR hQ hfd;unfold ckC at *;unfold tmC at *;rw [hk] at HFD ⊢;go_enter Tryz.func72,Tryz.ntmps72
 go_wp2_with (go_at_call 118;refine (HFD.out _).mono ?_;rintro e' w1 ⟨rfl,hb1⟩;have HB:=aF ((bel2 _ _ _).trans (hb1.mono (bel2 _ _ _).size));obtain ⟨y,z⟩:=cT hb1;have HY:=aF y;have HZ:=aF z;obtain ⟨y0,y1,y2,y3,y4,y5,y6,y7⟩:=aT HY.out;obtain ⟨z0,z1,z2,z3,z4,z5⟩:=aR HZ.out;clear y z hb1)
 all_goals try (exfalso;omega)
 go_loop [27] (fun v=>∃k:Nat,k<=t.targets.length/\v = .int .i64 k/\Hid (R=if (t.targets.drop k).all (fun k=>decide (0<=k/\k<(b.blocks.length:Int)))=true then Q else 3)) (fun v=>t.targets.length - (intOf v).toNat)
 case atStart=>exact ⟨0,by omega,rfl,HF⟩
 case round=>
  clear HF;obtain ⟨k,hk2,rfl,hr⟩:=hrel;by_cases hlt:k<t.targets.length
  ·have hd:=cS hlt;obtain ⟨b5,o5,rfl,hb5,hx⟩:=HTG.out.sl.at_ hlt;obtain ⟨x,hxx⟩:∃x,t.targets[k]=x:=⟨_,rfl⟩;rw [hxx] at hd hx;have x0:w1.cell? ⟨b5,o5+k,none⟩=some (.int .i64 x):=cJ HB.out (by simpa [RInt] using hx);by_cases hin:0<=x/\x<(b.blocks.length:Int)
   ·have HF2:Hid (R=if (t.targets.drop (k+1)).all (fun k=>decide (0<=k/\k<(b.blocks.length:Int)))=true then Q else 3):=aF (by rw [hr.out,hd,cB];simp [hin]);have e1:¬x<0:=(by omega);have e2:¬(b.blocks.length:Int)<=x:=(by omega);clear hd hx hxx hr hin;go_wp2_with fail
    all_goals try (exfalso;omega)
    go_round
    case rel=>exact ⟨k+1,by omega,by go_num,HF2⟩
    case measure=>simp [intOf];omega
   ·have HF2:Hid (R=3):=aF (by rw [hr.out,hd,cB];simp;intro h1 h2;exact absurd ⟨h1,h2⟩ hin);clear hd hx hxx hr;go_wp2_with fail
    all_goals first
     | (exfalso;omega)
     | (go_ret;exact ⟨by rw [HF2.out];rfl,HB.out⟩)
  ·have HF2:Hid (R=Q):=aF (by rw [hr.out,bE (by omega:t.targets.length<=k)];rfl);clear hr;go_wp2_with fail
   have hS:aB w [Value.string b.name,.slice bh.A1 b.regions.length bh.c1,.slice bh.A2 b.outl.length bh.c2,.slice bh.A3 b.types.length bh.c3,.slice bh.A4 b.locals.length bh.c4,.int .i64 b.args,.slice bh.A5 b.blocks.length bh.c5,.pointer (some ⟨r,0,none⟩)] [Value.int .i64 1,.slice A t.targets.length c,.slice (some ⟨bb,oo,none⟩) t.args.length d,.int .i64 t.place.loc,.slice C t.place.proj.length f,.string t.name] w1.drew:=⟨HY.out,HZ.out,HB.out.drew⟩;clear y0 y1 y2 y3 y4 y5 y6 y7 z0 z1 z2 z3 z4 z5;refine cQ (S:=fun X=>aB w [Value.string b.name,.slice bh.A1 b.regions.length bh.c1,.slice bh.A2 b.outl.length bh.c2,.slice bh.A3 b.types.length bh.c3,.slice bh.A4 b.locals.length bh.c4,.int .i64 b.args,.slice bh.A5 b.blocks.length bh.c5,.pointer (some ⟨r,0,none⟩)] [Value.int .i64 1,.slice A t.targets.length c,.slice (some ⟨bb,oo,none⟩) t.args.length d,.int .i64 t.place.loc,.slice C t.place.proj.length f,.string t.name] X) [0,1,2,3,4,5,6] (by kernel_rfl) ?_;(iterate 5 (refine cR (v:=?_) ?_ hS ?_;rotate_left;(next=>(rintro X ⟨hX,hY,hZ⟩;obtain ⟨s0,s1,s2,s3,s4,s5,s6,s7⟩:=aT hX;have v2:=hY 2 _ rfl;have p0:=cJ hZ P0.out;have p1:=cJ hZ P1.out;have p2:=cJ hZ P2.out;have p3:=cJ hZ P3.out;(try simp only [aI]);go_simp;rfl));simp only [aM]));(refine cM (fun K1 hK1=>?_);simp only [aM];rw [bA (by rfl)];go_simp);refine (HOO.out _ hS.2.2).mono ?_;rintro e' w2 ⟨rfl,hb⟩;replace hS:=bJ (cK hS.1 hb) (bJ (cK hS.2.1 hb) (hS.2.2.trans (hb.mono hS.2.2.size)));have HS2:=aF hS;clear hb;refine hK1.out _ _ (fun _=>hS) ?_;clear hK1;((refine cR (v:=?_) ?_ hS ?_;rotate_left;(next=>(rintro X -;(try simp only [aI]);go_simp;rfl));simp only [aM]))
   refine cV ?_;clear hS;by_cases heo:eo=0
   ·subst heo;have HK2:=aF (fun W hb=>HKK.out W hb rfl);have HF3:Hid (R=fail22 (decide (ko≠1))):=aF (by rw [HF2.out,<- HQ.out];simp);have eko:(ko != 1)=decide (ko≠1):=by rw [bR];simp
    go_wp2_with fail
    have hS:aB w [Value.string b.name,.slice bh.A1 b.regions.length bh.c1,.slice bh.A2 b.outl.length bh.c2,.slice bh.A3 b.types.length bh.c3,.slice bh.A4 b.locals.length bh.c4,.int .i64 b.args,.slice bh.A5 b.blocks.length bh.c5,.pointer (some ⟨r,0,none⟩)] [Value.int .i64 1,.slice A t.targets.length c,.slice (some ⟨bb,oo,none⟩) t.args.length d,.int .i64 t.place.loc,.slice C t.place.proj.length f,.string t.name] w2.drew:=⟨HS2.out.1,HS2.out.2.1,HS2.out.2.2.drew⟩;refine cQ (S:=fun X=>aB w [Value.string b.name,.slice bh.A1 b.regions.length bh.c1,.slice bh.A2 b.outl.length bh.c2,.slice bh.A3 b.types.length bh.c3,.slice bh.A4 b.locals.length bh.c4,.int .i64 b.args,.slice bh.A5 b.blocks.length bh.c5,.pointer (some ⟨r,0,none⟩)] [Value.int .i64 1,.slice A t.targets.length c,.slice (some ⟨bb,oo,none⟩) t.args.length d,.int .i64 t.place.loc,.slice C t.place.proj.length f,.string t.name] X) [0,1,2,3,4,5,6,7,8] (by kernel_rfl) ?_;(iterate 5 (refine cR (v:=?_) ?_ hS ?_;rotate_left;(next=>(rintro X ⟨hX,hY,hZ⟩;obtain ⟨s0,s1,s2,s3,s4,s5,s6,s7⟩:=aT hX;have v2:=hY 2 _ rfl;have p0:=cJ hZ P0.out;have p1:=cJ hZ P1.out;have p2:=cJ hZ P2.out;have p3:=cJ hZ P3.out;(try simp only [aI]);go_simp;rfl));simp only [aM]));(refine cM (fun K1 hK1=>?_);simp only [aM];rw [bA (by rfl)];go_simp);refine (HK2.out _ hS.2.2).mono ?_;rintro e' w3 ⟨rfl,hb⟩;replace hS:=bJ (cK hS.1 hb) (bJ (cK hS.2.1 hb) (hS.2.2.trans (hb.mono hS.2.2.size)));clear hb;refine hK1.out _ _ (fun _=>hS) ?_;clear hK1;((refine cR (v:=?_) ?_ hS ?_;rotate_left;(next=>(rintro X -;(try simp only [aI]);go_simp;rfl));simp only [aM]))
    try rw [eko]
    (refine cM (fun K1 hK1=>?_);simp only [aM];rw [bA (by rfl)];go_simp);refine (dL _ _).mono ?_;rintro e' w4 ⟨rfl,hw⟩;obtain rfl:=hw.symm;refine hK1.out _ _ (fun _=>hS) ?_;clear hK1;((refine cR (v:=?_) ?_ hS ?_;rotate_left;(next=>(rintro X -;(try simp only [aI]);go_simp;rfl));simp only [aM]))
    refine cV ?_;have HS3:=aF hS.2.2;clear hS;go_wp2_with fail
    go_ret;exact ⟨by rw [HF3.out];first | rfl | (rw [<- eko];rfl),HS3.out⟩
   ·have HF3:Hid (R=eo):=aF (by rw [HF2.out,<- HQ.out];simp [heo]);have e9:(eo != 0)=true:=by simp [heo]
    clear heo;go_wp2_with fail
    go_ret;exact ⟨by rw [HF3.out];rfl,HS2.out.2.2⟩
theorem qT {b:Bdy} {bh:BH} {r:Nat} {w:World} (H:Ck w b bh r) (t:Trm) (A B C:Option Addr) (c d f:Nat) (ht:Slc 1 RInt w A c t.targets) (hl:Slc 4 ROp w B d t.args) (hp:Slc 2 RPj w C f t.place.proj) (hk:t.kind=3) (hfd:fieldsT t=true):
 Calls Tryz.prog 72 #[.agg (ckC b bh r).toArray,.agg (tmC t A c B d C f).toArray] w fun e' w'=>e' = .returned (.int .i64 (tmE b t))/\Below w.heap.size w w':=by
 have HFD:=aF (fun W=>eV t A B C c d f W);have HH:=aF H;have HTG:=aF ht;have HL:=aF hl;have HP:=aF hp;have hle:=hl.le;have hbig:=hl.big;have hle2:=ht.le;have hbig2:=ht.big;have hblkl:=H.at_.blk.le;have hblkb:=H.at_.blk.big;obtain ⟨R,hR⟩:∃R,tmE b t=R:=⟨_,rfl⟩;rw [hR];have HR:=aF hR;clear hR H ht hl hp;obtain ⟨Q,hQ⟩:∃Q,(if isIdent t.name=false then 12 else if 65535<t.args.length then 15 else if opsE b t.args []≠0 then opsE b t.args [] else writE b t.place)=Q:=⟨_,rfl⟩;have HQ:=aF hQ
 have HF:Hid (R=if t.targets.all (fun k=>decide (0<=k/\k<(b.blocks.length:Int)))=true then Q else 3):=aF (by
  rw [<- HR.out,tmE,aZ (by omega),aZ (by rw [hfd];simp)];rw [<- HQ.out];cases t.targets.all (fun k=>decide (0<=k/\k<(b.blocks.length:Int)))
  ·simp
  ·simp [hk])
 rw [hfd] at HFD;have HI:=aF (fun W=>eO t.name W);have HPO:=aF (fun (W:World) (hb:Below w.heap.size w W)=>eQ (HH.out.keep hb) t.args [] B none d 0 (HL.out.keep ROp.keeps hb) ⟨Sl.nil,by simp,by omega⟩ (by simp));have HW:=aF (fun (W:World) (hb:Below w.heap.size w W)=>eZ b bh r t.place C f W (HH.out.keep hb).at_ (HP.out.keep RPj.keeps hb) HH.out.ok.okay);generalize writE b t.place=we at HW hQ HQ;generalize opsE b t.args []=oe at HPO hQ HQ;generalize isIdent t.name=ii at HI hQ HQ;clear HR hQ hfd;unfold ckC at *;unfold tmC at *;rw [hk] at HFD ⊢;go_enter Tryz.func72,Tryz.ntmps72
 go_wp2_with (go_at_call 118;refine (HFD.out _).mono ?_;rintro e' w1 ⟨rfl,hb1⟩;have HB:=aF ((bel2 _ _ _).trans (hb1.mono (bel2 _ _ _).size));obtain ⟨y,z⟩:=cT hb1;have HY:=aF y;have HZ:=aF z;obtain ⟨y0,y1,y2,y3,y4,y5,y6,y7⟩:=aT HY.out;obtain ⟨z0,z1,z2,z3,z4,z5⟩:=aR HZ.out;clear y z hb1)
 all_goals try (exfalso;omega)
 go_loop [27] (fun v=>∃k:Nat,k<=t.targets.length/\v = .int .i64 k/\Hid (R=if (t.targets.drop k).all (fun k=>decide (0<=k/\k<(b.blocks.length:Int)))=true then Q else 3)) (fun v=>t.targets.length - (intOf v).toNat)
 case atStart=>exact ⟨0,by omega,rfl,HF⟩
 case round=>
  clear HF;obtain ⟨k,hk2,rfl,hr⟩:=hrel;by_cases hlt:k<t.targets.length
  ·have hd:=cS hlt;obtain ⟨b5,o5,rfl,hb5,hx⟩:=HTG.out.sl.at_ hlt;obtain ⟨x,hxx⟩:∃x,t.targets[k]=x:=⟨_,rfl⟩;rw [hxx] at hd hx;have x0:w1.cell? ⟨b5,o5+k,none⟩=some (.int .i64 x):=cJ HB.out (by simpa [RInt] using hx);by_cases hin:0<=x/\x<(b.blocks.length:Int)
   ·have HF2:Hid (R=if (t.targets.drop (k+1)).all (fun k=>decide (0<=k/\k<(b.blocks.length:Int)))=true then Q else 3):=aF (by rw [hr.out,hd,cB];simp [hin]);have e1:¬x<0:=(by omega);have e2:¬(b.blocks.length:Int)<=x:=(by omega);clear hd hx hxx hr hin;go_wp2_with fail
    all_goals try (exfalso;omega)
    go_round
    case rel=>exact ⟨k+1,by omega,by go_num,HF2⟩
    case measure=>simp [intOf];omega
   ·have HF2:Hid (R=3):=aF (by rw [hr.out,hd,cB];simp;intro h1 h2;exact absurd ⟨h1,h2⟩ hin);clear hd hx hxx hr;go_wp2_with fail
    all_goals first
     | (exfalso;omega)
     | (go_ret;exact ⟨by rw [HF2.out];rfl,HB.out⟩)
  ·have HF2:Hid (R=Q):=aF (by rw [hr.out,bE (by omega:t.targets.length<=k)];rfl);clear hr;cases ii
   ·have HF3:Hid (R=12):=aF (by rw [HF2.out,<- HQ.out];rfl);go_wp2_with (go_at_call 108;refine (HI.out _).mono ?_;rintro e' w2 ⟨rfl,hb⟩;have HB2:=aF (HB.out.trans (hb.mono HB.out.size));have HY2:=aF (cK HY.out hb);have HZ2:=aF (cK HZ.out hb);clear y0 y1 y2 y3 y4 y5 y6 y7 z0 z1 z2 z3 z4 z5;obtain ⟨y0,y1,y2,y3,y4,y5,y6,y7⟩:=aT HY2.out;obtain ⟨z0,z1,z2,z3,z4,z5⟩:=aR HZ2.out;clear hb)
    go_ret;exact ⟨by rw [HF3.out];rfl,HB2.out⟩
   by_cases hln:65535<t.args.length
   ·have HF3:Hid (R=15):=aF (by rw [HF2.out,<- HQ.out];simp [hln]);go_wp2_with (go_at_call 108;refine (HI.out _).mono ?_;rintro e' w2 ⟨rfl,hb⟩;have HB2:=aF (HB.out.trans (hb.mono HB.out.size));have HY2:=aF (cK HY.out hb);have HZ2:=aF (cK HZ.out hb);clear y0 y1 y2 y3 y4 y5 y6 y7 z0 z1 z2 z3 z4 z5;obtain ⟨y0,y1,y2,y3,y4,y5,y6,y7⟩:=aT HY2.out;obtain ⟨z0,z1,z2,z3,z4,z5⟩:=aR HZ2.out;clear hb)
    all_goals first
     | (exfalso;omega)
     | (go_ret;exact ⟨by rw [HF3.out];rfl,HB2.out⟩)
   by_cases hoe:oe=0
   ·have HF3:Hid (R=we):=aF (by rw [HF2.out,<- HQ.out];simp [hln,hoe]);subst hoe;go_wp2_with (first | (go_at_call 108;refine (HI.out _).mono ?_;rintro e' w2 ⟨rfl,hb⟩;have HB2:=aF (HB.out.trans (hb.mono HB.out.size));have HY2:=aF (cK HY.out hb);have HZ2:=aF (cK HZ.out hb);clear y0 y1 y2 y3 y4 y5 y6 y7 z0 z1 z2 z3 z4 z5;obtain ⟨y0,y1,y2,y3,y4,y5,y6,y7⟩:=aT HY2.out;obtain ⟨z0,z1,z2,z3,z4,z5⟩:=aR HZ2.out;clear hb) | (go_at_call 122;refine (HPO.out _ HB2.out).mono ?_;rintro e' w3 ⟨rfl,hb⟩;have HB3:=aF (HB2.out.trans (hb.mono HB2.out.size));have HY3:=aF (cK HY2.out hb);have HZ3:=aF (cK HZ2.out hb);clear y0 y1 y2 y3 y4 y5 y6 y7 z0 z1 z2 z3 z4 z5;obtain ⟨y0,y1,y2,y3,y4,y5,y6,y7⟩:=aT HY3.out;obtain ⟨z0,z1,z2,z3,z4,z5⟩:=aR HZ3.out;clear hb) | (go_at_call 116;refine (HW.out _ HB3.out).mono ?_;rintro e' w4 ⟨rfl,hb⟩;have HB4:=aF (HB3.out.trans (hb.mono HB3.out.size));have HY4:=aF (cK HY3.out hb);have HZ4:=aF (cK HZ3.out hb);clear y0 y1 y2 y3 y4 y5 y6 y7 z0 z1 z2 z3 z4 z5;obtain ⟨y0,y1,y2,y3,y4,y5,y6,y7⟩:=aT HY4.out;obtain ⟨z0,z1,z2,z3,z4,z5⟩:=aR HZ4.out;clear hb))
    all_goals first
     | (exfalso;omega)
     | (go_ret;exact ⟨by rw [HF3.out];rfl,HB4.out⟩)
   ·have HF3:Hid (R=oe):=aF (by rw [HF2.out,<- HQ.out];simp [hln,hoe]);have e9:(oe != 0)=true:=by simp [hoe]
    clear hoe;go_wp2_with (first | (go_at_call 108;refine (HI.out _).mono ?_;rintro e' w2 ⟨rfl,hb⟩;have HB2:=aF (HB.out.trans (hb.mono HB.out.size));have HY2:=aF (cK HY.out hb);have HZ2:=aF (cK HZ.out hb);clear y0 y1 y2 y3 y4 y5 y6 y7 z0 z1 z2 z3 z4 z5;obtain ⟨y0,y1,y2,y3,y4,y5,y6,y7⟩:=aT HY2.out;obtain ⟨z0,z1,z2,z3,z4,z5⟩:=aR HZ2.out;clear hb) | (go_at_call 122;refine (HPO.out _ HB2.out).mono ?_;rintro e' w3 ⟨rfl,hb⟩;have HB3:=aF (HB2.out.trans (hb.mono HB2.out.size));have HY3:=aF (cK HY2.out hb);have HZ3:=aF (cK HZ2.out hb);clear y0 y1 y2 y3 y4 y5 y6 y7 z0 z1 z2 z3 z4 z5;obtain ⟨y0,y1,y2,y3,y4,y5,y6,y7⟩:=aT HY3.out;obtain ⟨z0,z1,z2,z3,z4,z5⟩:=aR HZ3.out;clear hb))
    all_goals first
     | (exfalso;omega)
     | (go_ret;exact ⟨by rw [HF3.out];rfl,HB3.out⟩)
theorem uC {b:Bdy} {bh:BH} {r:Nat} {w:World} (H:Ck w b bh r) (t:Trm) (A B C:Option Addr) (c d f:Nat) (ht:Slc 1 RInt w A c t.targets) (hl:Slc 4 ROp w B d t.args) (hp:Slc 2 RPj w C f t.place.proj) (hk:t.kind=0\/t.kind=2\/t.kind=5) (hfd:fieldsT t=true):
 Calls Tryz.prog 72 #[.agg (ckC b bh r).toArray,.agg (tmC t A c B d C f).toArray] w fun e' w'=>e' = .returned (.int .i64 (tmE b t))/\Below w.heap.size w w':=by
 have HFD:=aF (fun W=>eV t A B C c d f W);have HH:=aF H;have HTG:=aF ht;have HL:=aF hl;have HP:=aF hp;have hle:=hl.le;have hbig:=hl.big;have hle2:=ht.le;have hbig2:=ht.big;have hblkl:=H.at_.blk.le;have hblkb:=H.at_.blk.big;obtain ⟨R,hR⟩:∃R,tmE b t=R:=⟨_,rfl⟩;rw [hR];have HR:=aF hR;clear hR H ht hl hp;obtain ⟨Q,hQ⟩:∃Q,((0:Int))=Q:=⟨_,rfl⟩;have HQ:=aF hQ
 have HF:Hid (R=if t.targets.all (fun k=>decide (0<=k/\k<(b.blocks.length:Int)))=true then Q else 3):=aF (by
  rw [<- HR.out,tmE,aZ (by omega),aZ (by rw [hfd];simp)];rw [<- HQ.out];cases t.targets.all (fun k=>decide (0<=k/\k<(b.blocks.length:Int)))
  ·simp
  ·simp [show t.kind≠1 by omega,show t.kind≠3 by omega,show t.kind≠4 by omega])
 rw [hfd] at HFD;clear HR hQ hfd;unfold ckC at *;unfold tmC at *;have k1:(t.kind == 1)=false:=by simp;omega
 have k3:(t.kind == 3)=false:=by simp;omega
 have k4:(t.kind == 4)=false:=by simp;omega
 go_enter Tryz.func72,Tryz.ntmps72
 go_wp2_with (go_at_call 118;refine (HFD.out _).mono ?_;rintro e' w1 ⟨rfl,hb1⟩;have HB:=aF ((bel2 _ _ _).trans (hb1.mono (bel2 _ _ _).size));obtain ⟨y,z⟩:=cT hb1;have HY:=aF y;have HZ:=aF z;obtain ⟨y0,y1,y2,y3,y4,y5,y6,y7⟩:=aT HY.out;obtain ⟨z0,z1,z2,z3,z4,z5⟩:=aR HZ.out;clear y z hb1)
 all_goals try (exfalso;omega)
 go_loop [27] (fun v=>∃k:Nat,k<=t.targets.length/\v = .int .i64 k/\Hid (R=if (t.targets.drop k).all (fun k=>decide (0<=k/\k<(b.blocks.length:Int)))=true then Q else 3)) (fun v=>t.targets.length - (intOf v).toNat)
 case atStart=>exact ⟨0,by omega,rfl,HF⟩
 case round=>
  clear HF;obtain ⟨k,hk2,rfl,hr⟩:=hrel;by_cases hlt:k<t.targets.length
  ·have hd:=cS hlt;obtain ⟨b5,o5,rfl,hb5,hx⟩:=HTG.out.sl.at_ hlt;obtain ⟨x,hxx⟩:∃x,t.targets[k]=x:=⟨_,rfl⟩;rw [hxx] at hd hx;have x0:w1.cell? ⟨b5,o5+k,none⟩=some (.int .i64 x):=cJ HB.out (by simpa [RInt] using hx);by_cases hin:0<=x/\x<(b.blocks.length:Int)
   ·have HF2:Hid (R=if (t.targets.drop (k+1)).all (fun k=>decide (0<=k/\k<(b.blocks.length:Int)))=true then Q else 3):=aF (by rw [hr.out,hd,cB];simp [hin]);have e1:¬x<0:=(by omega);have e2:¬(b.blocks.length:Int)<=x:=(by omega);clear hd hx hxx hr hin;go_wp2_with fail
    all_goals try (exfalso;omega)
    go_round
    case rel=>exact ⟨k+1,by omega,by go_num,HF2⟩
    case measure=>simp [intOf];omega
   ·have HF2:Hid (R=3):=aF (by rw [hr.out,hd,cB];simp;intro h1 h2;exact absurd ⟨h1,h2⟩ hin);clear hd hx hxx hr;go_wp2_with fail
    all_goals first
     | (exfalso;omega)
     | (go_ret;exact ⟨by rw [HF2.out];rfl,HB.out⟩)
  ·have HF2:Hid (R=Q):=aF (by rw [hr.out,bE (by omega:t.targets.length<=k)];rfl);clear hr;go_wp2_with fail
   go_ret;exact ⟨by rw [HF2.out,<- HQ.out];rfl,HB.out⟩
theorem uD {b:Bdy} {bh:BH} {r:Nat} {w:World} (H:Ck w b bh r) (t:Trm) (A B C:Option Addr) (c d f:Nat) (ht:Slc 1 RInt w A c t.targets) (hl:Slc 4 ROp w B d t.args) (hp:Slc 2 RPj w C f t.place.proj):
 Calls Tryz.prog 72 #[.agg (ckC b bh r).toArray,.agg (tmC t A c B d C f).toArray] w fun e' w'=>e' = .returned (.int .i64 (tmE b t))/\Below w.heap.size w w':=by
 by_cases h0:t.kind<0\/5<t.kind
 ·exact nO H t A B C c d f ht hl hp (Or.inl h0)
 obtain ⟨q,hq⟩:∃q,fieldsT t=q:=⟨_,rfl⟩;cases q
 ·exact nO H t A B C c d f ht hl hp (Or.inr ⟨h0,hq⟩)
 rcases (show t.kind=1\/t.kind=3\/t.kind=4\/(t.kind=0\/t.kind=2\/t.kind=5) by omega) with h | h | h | h
 ·exact wZ H t A B C c d f ht hl hp h hq
 ·exact qT H t A B C c d f ht hl hp h hq
 ·exact qS H t A B C c d f ht hl hp h hq
 ·exact uC H t A B C c d f ht hl hp h hq
def seenF (ns:List ByteArray) (l:List UInt8):Bool:=ns.any (fun s=>decide (s.data.toList=l))
theorem xAA {s t:ByteArray} (h:s.data.toList=t.data.toList):s=t:=by
 cases s;cases t
 simpa using h
theorem kK (ns:List ByteArray) (s:ByteArray):seenF ns s.data.toList=memN s ns:=by
 unfold seenF memN;congr 1
 funext x
 rw [decide_eq_decide];exact ⟨xAA,fun h=>by rw [h]⟩
theorem kJ (ns:List ByteArray) (s:ByteArray):strF (seenF (s :: ns)) (.string s.data.toList)=true:=by
 simp [strF,seenF]
theorem kI (ns:List ByteArray) (s:ByteArray):∀x,x≠Lit.string s.data.toList->strF (seenF (s :: ns)) x=strF (seenF ns) x:=by
 intro x hx;cases x <;> try rfl
 rename_i l;have:s.data.toList≠l:=fun h=>hx (by rw [h])
 simp [strF,seenF,this]
theorem nQ:strF (seenF [])=fun _=>false:=by
 funext x
 cases x <;> rfl
theorem law9:Keyed Tryz.prog 9:=string_keyed Tryz.underlying9
theorem pU {s:ByteArray} (h:isIdent s=true):s.size<=255:=by
 unfold isIdent at h;rw [oK] at h;simp only [bQ,decide_eq_true_eq,eI] at h;omega
theorem key9 {s:ByteArray} (h:isIdent s=true):keyOf Tryz.prog 9 (.string s)=some (.string s.data.toList):=Go.WideMaps.keyOf_string_mk Tryz.underlying9 (by have:=pU h;unfold maxLen;omega)
theorem zeroB:∀w,(zeroValue 4).run Tryz.prog w = .ok (.bool false) w:=Tryz.zeroValue4
theorem rX (l:List ByteArray) (A:Option Addr) (c:Nat) (w:World) (hs:Slc 1 RN w A c l):
 Calls Tryz.prog 110 #[.slice A l.length c] w fun e' w'=>e' = .returned (.int .i64 (namesC l))/\Below w.heap.size w w':=by
 have hle:=hs.le;have hbig:=hs.big;unfold namesC;by_cases h0:65535<l.length
 ·rw [bA h0];clear hs;go_enter Tryz.func110,Tryz.ntmps110
  go_wp2_with fail
  go_ret;exact ⟨rfl,aX _ _⟩
 rw [aZ h0];obtain ⟨R,hR⟩:∃R,namesE [] l=R:=⟨_,rfl⟩;rw [hR];have HR:=aF hR;have HS:=aF hs;clear hR hs;have hmm:= @run_makeMap Tryz.prog;go_enter Tryz.func110,Tryz.ntmps110
 go_wp2_with fail
 go_loopw [12] (fun v wr=>∃(k:Nat) (ns:List ByteArray),k<=l.length/\v = .int .i64 k/\OwnB Tryz.prog 9 4 wr w.heap.size k (strF (seenF ns))/\Hid (Below w.heap.size w wr)/\Hid (R=namesE ns (l.drop k))) (fun v _=>l.length - (intOf v).toNat)
 case atStart=>exact ⟨0,[],by omega,rfl,by rw [nQ];exact OwnB.made _ _ _ _,aF ((aX _ _).alloc (aY _) _),aF HR.out.symm⟩
 case round=>
  obtain ⟨k,ns,hk,rfl,hown,hB,hr⟩:=hrel;by_cases hlt:k<l.length
  ·have hd:=cS hlt;obtain ⟨b,o,rfl,hb,hx⟩:=(HS.out.sl.keep RN.keeps hB.out.size hB.out).at_ hlt;obtain ⟨s,hsx⟩:∃s,l[k]=s:=⟨_,rfl⟩;rw [hsx] at hd hx;have x0:wr.cell? ⟨b,o+k,none⟩=some (.string s):=by simpa [RN] using hx
   have HI:=aF (eO s wr);have HN:Hid (R=if isIdent s=false then 12 else if memN s ns=true then 21 else namesE (s :: ns) (l.drop (k+1))):=aF (by rw [hr.out,hd];rfl);have hsz:=hB.out.size;clear hd hx hr hsx;cases hid:isIdent s
   ·rw [hid] at HI HN;clear hid hown;go_wp2_with (go_at_call 108;refine HI.out.mono ?_;rintro e' w1 ⟨rfl,hb1⟩)
    go_ret;exact ⟨by rw [HN.out];rfl,hB.out.trans (hb1.mono hsz)⟩
   ·have hkey:=key9 hid;rw [hid] at HI HN;have HM:=aF (kK ns s);clear hid;cases hm:memN s ns
    ·have HN':Hid (R=namesE (s :: ns) (l.drop (k+1))):=aF (by rw [HN.out,hm];rfl);have HF:Hid (strF (seenF ns) (.string s.data.toList)=false):=aF (by simp only [strF];rw [HM.out,hm]);clear hm HN HM
     go_wp2_with (first
      | (go_at_call 108;refine HI.out.mono ?_;rintro e' w1 ⟨rfl,hb1⟩;have hown1:=hown.below hb1)
      | (at_lookup;refine dA _ rfl _ _ 200 rfl 9 4 law9 Tryz.underlying200 Tryz.underlying4 (zeroB _) _ _ _ rfl hown1 _ _ rfl hkey ?_;rw [HF.out])
      | (at_mapUpdate;refine dT _ rfl _ _ _ 200 rfl 9 4 law9 Tryz.underlying200 Tryz.underlying4 _ _ _ rfl hown1 (by unfold maxLen;omega) _ _ _ rfl rfl hkey trivial _ (kJ ns s) (kI ns s) ?_;intro w2 hown2 hg2))
     go_roundw
     case rel=>exact ⟨k+1,s :: ns,by omega,by go_num,hown2,aF ((hB.out.trans (hb1.mono hsz)).trans (dP hg2 (aY _) (bZ hsz hb1.size))),HN'⟩
     case measure=>simp [intOf];omega
    ·have HN':Hid (R=21):=aF (by rw [HN.out,hm];rfl);have HF:Hid (strF (seenF ns) (.string s.data.toList)=true):=aF (by simp only [strF];rw [HM.out,hm]);clear hm HN HM
     go_wp2_with (first
      | (go_at_call 108;refine HI.out.mono ?_;rintro e' w1 ⟨rfl,hb1⟩;have hown1:=hown.below hb1)
      | (at_lookup;refine dA _ rfl _ _ 200 rfl 9 4 law9 Tryz.underlying200 Tryz.underlying4 (zeroB _) _ _ _ rfl hown1 _ _ rfl hkey ?_;rw [HF.out]))
     go_ret;exact ⟨by rw [HN'.out];rfl,hB.out.trans (hb1.mono hsz)⟩
  ·have HN:Hid (R=0):=aF (by rw [hr.out,bE (by omega)];rfl);clear hr hown;go_wp2_with fail
   go_ret;exact ⟨by rw [HN.out];rfl,hB.out⟩
def bxW (w:World) (b:Bdy) (h:BH):World:=w.alloc (.cells (bdC b h).toArray 28)
theorem jZ (w:World) (b:Bdy) (h:BH):(bxW w b h).heap.size=w.heap.size+1:=by simp [bxW]
theorem iJ (w:World) (b:Bdy) (h:BH):Below w.heap.size w (bxW w b h):=(aX _ _).alloc (aY _) _
theorem jY {w wr:World} {b:Bdy} {h:BH} (hB:Below (w.heap.size+1) (bxW w b h) wr) (i:Nat) (v:Value) (hi:(bdC b h)[i]?=some v):wr.cell? ⟨w.heap.size,i,none⟩=some v:=by
 refine (hB.cell (p:=⟨w.heap.size,i,none⟩) (by simp)).trans ?_;rw [bxW,World.cell?_alloc_at _ _ _ _ (by simp)];simpa using hi
theorem jE {w wr:World} {b:Bdy} {h:BH} (hB:Below (w.heap.size+1) (bxW w b h) wr):Below w.heap.size w wr:=
 (iJ w b h).trans (hB.mono (by omega))
theorem mF (w:World) (x y:Value) (t:TypeId):(w.alloc (.cells #[x,y] t)).cell? ⟨w.heap.size,0,none⟩=some x/\(w.alloc (.cells #[x,y] t)).cell? ⟨w.heap.size,1,none⟩=some y:=by
 constructor <;> (rw [World.cell?_alloc_at _ _ _ _ (by simp)];rfl)
theorem keepA {w W:World} {o:Obj} {p:Addr} {v:Value} (hb:Below (w.alloc o).heap.size (w.alloc o) W) (h:w.cell? p=some v):W.cell? p=some v:=
 cJ hb (((((aX w.heap.size w).alloc (aY _) o).cell (p:=p) (cD w p h))).trans h)
theorem pS (b:Bdy) (bh:BH) (w:World) (H:BdAt w b bh):
 Calls Tryz.prog 113 #[.agg (bdC b bh).toArray] w fun e' w'=>e' = .returned (.int .i64 (localsC b))/\Below w.heap.size w w':=by
 obtain ⟨A1,c1,A2,c2,A3,c3,A4,c4,A5,c5⟩:=bh;have hle:=H.loc.le;have hbig:=H.loc.big;have HLOC:=aF H.loc;have htl:=H.typ.le;have htb:=H.typ.big;unfold localsC;clear H;unfold bdC;simp only at hle hbig htl htb HLOC ⊢;have HBX:=aF (iJ w b ⟨A1,c1,A2,c2,A3,c3,A4,c4,A5,c5⟩);by_cases h0:65535<b.locals.length
 ·rw [bA h0];go_enter Tryz.func113,Tryz.ntmps113
  go_wp2_with fail
  go_ret;exact ⟨rfl,HBX.out⟩
 rw [aZ h0];obtain ⟨R,hR⟩:∃R,localsE b.types.length [] b.locals=R:=⟨_,rfl⟩;rw [hR];have HR:=aF hR;clear hR;obtain ⟨Q,hQ⟩:∃Q,(if R=0 then (if b.args<0\/(b.locals.length:Int)<b.args then 3 else 0) else R)=Q:=⟨_,rfl⟩;rw [hQ];have HQ:=aF hQ;clear hQ;have hmm:= @run_makeMap Tryz.prog;go_enter Tryz.func113,Tryz.ntmps113
 go_wp2_with fail
 go_loopw [14] (fun v wr=>∃(k:Nat) (ns:List ByteArray),k<=b.locals.length/\v = .int .i64 k/\OwnB Tryz.prog 9 4 wr (w.heap.size+1) k (strF (seenF ns))/\Hid (Below (w.heap.size+1) (bxW w b ⟨A1,c1,A2,c2,A3,c3,A4,c4,A5,c5⟩) wr)/\Hid (R=localsE b.types.length ns (b.locals.drop k))) (fun v _=>b.locals.length - (intOf v).toNat)
 case atStart=>exact ⟨0,[],by omega,rfl,by rw [nQ];have:=OwnB.made (bxW w b ⟨A1,c1,A2,c2,A3,c3,A4,c4,A5,c5⟩) Tryz.prog 9 4;rw [jZ] at this;exact this,aF ((aX _ (bxW w b ⟨A1,c1,A2,c2,A3,c3,A4,c4,A5,c5⟩)).alloc (by rw [jZ];omega) _),aF HR.out.symm⟩
 case round=>
  obtain ⟨k,ns,hk,rfl,hown,hB,hr⟩:=hrel;have x3:=jY hB.out 3 _ rfl;have x4:=jY hB.out 4 _ rfl;have x5:=jY hB.out 5 _ rfl;have hsz:=hB.out.size;rw [jZ] at hsz;by_cases hlt:k<b.locals.length
  ·have hd:=cS hlt;obtain ⟨bb,o,rfl,hb,hx⟩:=(HLOC.out.sl.keep RLc.keeps (bZ (Nat.le_succ _) hsz) (jE hB.out)).at_ hlt;obtain ⟨s,hsx⟩:∃s,b.locals[k]=s:=⟨_,rfl⟩;rw [hsx] at hd hx;obtain ⟨y0,y1⟩:=hx;have hls:=cY hb;have HN:Hid (R=if isIdent s.name=false then 12 else if memN s.name ns=true then 21 else if s.type<0\/(b.types.length:Int)<=s.type then 3 else localsE b.types.length (s.name :: ns) (b.locals.drop (k+1))):=aF (by rw [hr.out,hd];rfl);clear hd hr hsx;cases hid:isIdent s.name
   ·have HF:Hid (Q=12):=aF (by rw [<- HQ.out,HN.out,hid];rfl);have HI:Hid (∀W,Calls Tryz.prog 108 #[.string s.name] W fun e w'=>e = .returned (.bool false)/\Below W.heap.size W w'):=aF (fun W=>by rw [<- hid];exact eO s.name W);clear hid hown HN;go_wp2_with (go_at_call 108;refine (HI.out _).mono ?_;rintro e' w1 ⟨rfl,hb1⟩)
    go_ret;exact ⟨by rw [HF.out];rfl,((jE hB.out).alloc (by omega) _).trans (hb1.mono (by simp;omega))⟩
   ·have hkey:=key9 hid;have HI:Hid (∀W,Calls Tryz.prog 108 #[.string s.name] W fun e w'=>e = .returned (.bool true)/\Below W.heap.size W w'):=aF (fun W=>by rw [<- hid];exact eO s.name W);have HM:=aF (kK ns s.name);rw [hid] at HN;clear hid;cases hm:memN s.name ns
    case true=>
     have HF:Hid (Q=21):=aF (by rw [<- HQ.out,HN.out,hm];rfl);have HS:Hid (strF (seenF ns) (.string s.name.data.toList)=true):=aF (by simp only [strF];rw [HM.out,hm]);clear hm HN HM
     go_wp2_with (first
      | (go_at_call 108;refine (HI.out _).mono ?_;rintro e' w1 ⟨rfl,hb1⟩;have hown1:=(hown.alloc _).below hb1;obtain ⟨z0,z1⟩:=mF wr (.string s.name) (.int .i64 s.type) 48;replace z0:=cJ hb1 z0;replace z1:=cJ hb1 z1;have z3:=keepA hb1 x3)
      | (at_lookup;refine dA _ rfl _ _ 200 rfl 9 4 law9 Tryz.underlying200 Tryz.underlying4 (zeroB _) _ _ _ rfl hown1 _ _ rfl hkey ?_;rw [HS.out]))
     go_ret;exact ⟨by rw [HF.out];rfl,((jE hB.out).alloc (by omega) _).trans (hb1.mono (by simp;omega))⟩
    case false=>
     have HS:Hid (strF (seenF ns) (.string s.name.data.toList)=false):=aF (by simp only [strF];rw [HM.out,hm]);rw [hm] at HN;have HT:Hid ((s.type<0\/(b.types.length:Int)<=s.type)->Q=3):=aF (fun h=>by rw [<- HQ.out,HN.out];simp only [Bool.true_eq_false,Bool.false_eq_true,if_false];rw [bA h];rfl);have HG:Hid (¬(s.type<0\/(b.types.length:Int)<=s.type)->R=localsE b.types.length (s.name :: ns) (b.locals.drop (k+1))):=aF (fun h=>by rw [HN.out];simp only [Bool.true_eq_false,Bool.false_eq_true,if_false];rw [aZ h]);clear hm HN HM;by_cases hty:s.type<0\/(b.types.length:Int)<=s.type
     ·have HF:=aF (HT.out hty);clear HT HG
      go_wp2_with (first
       | (go_at_call 108;refine (HI.out _).mono ?_;rintro e' w1 ⟨rfl,hb1⟩;have hown1:=(hown.alloc _).below hb1;obtain ⟨z0,z1⟩:=mF wr (.string s.name) (.int .i64 s.type) 48;replace z0:=cJ hb1 z0;replace z1:=cJ hb1 z1;have z3:=keepA hb1 x3)
       | (at_lookup;refine dA _ rfl _ _ 200 rfl 9 4 law9 Tryz.underlying200 Tryz.underlying4 (zeroB _) _ _ _ rfl hown1 _ _ rfl hkey ?_;rw [HS.out]))
      all_goals first
       | (exfalso;omega)
       | (go_ret
          exact ⟨by rw [HF.out];rfl,((jE hB.out).alloc (by omega) _).trans (hb1.mono (by simp;omega))⟩)
     ·have HF:=aF (HG.out hty);clear HT HG;have e1:¬s.type<0:=(by omega);have e2:¬(b.types.length:Int)<=s.type:=(by omega);clear hty
      go_wp2_with (first
       | (go_at_call 108;refine (HI.out _).mono ?_;rintro e' w1 ⟨rfl,hb1⟩;have hown1:=(hown.alloc _).below hb1;obtain ⟨z0,z1⟩:=mF wr (.string s.name) (.int .i64 s.type) 48;replace z0:=cJ hb1 z0;replace z1:=cJ hb1 z1;have z3:=keepA hb1 x3)
       | (at_lookup;refine dA _ rfl _ _ 200 rfl 9 4 law9 Tryz.underlying200 Tryz.underlying4 (zeroB _) _ _ _ rfl hown1 _ _ rfl hkey ?_;rw [HS.out])
       | (at_mapUpdate;refine dT _ rfl _ _ _ 200 rfl 9 4 law9 Tryz.underlying200 Tryz.underlying4 _ _ _ rfl hown1 (by unfold maxLen;omega) _ _ _ rfl rfl hkey trivial _ (kJ ns s.name) (kI ns s.name) ?_;intro w2 hown2 hg2))
      go_roundw
      case rel=>
       have hsz1:=hb1.size;simp only [bI] at hsz1;exact ⟨k+1,s.name :: ns,by omega,by go_num,hown2,aF (((hB.out.alloc (by omega) _).trans (hb1.mono (by simp;omega))).trans (dP hg2 (by omega) (by omega))),HF⟩
      case measure=>simp [intOf];omega
  ·have HN:Hid (R=0):=aF (by rw [hr.out,bE (by omega)];rfl);have HF:Hid (Q=if b.args<0\/(b.locals.length:Int)<b.args then 3 else 0):=aF (by rw [<- HQ.out,HN.out,bA rfl]);clear hr hown;by_cases ha:b.args<0\/(b.locals.length:Int)<b.args
   ·rw [bA ha] at HF;go_wp2_with fail
    all_goals first
     | (exfalso;omega)
     | (go_ret;exact ⟨by rw [HF.out];rfl,jE hB.out⟩)
   ·rw [aZ ha] at HF;have e1:¬b.args<0:=(by omega);have e2:¬(b.locals.length:Int)<b.args:=(by omega);clear ha;go_wp2_with fail
    go_ret;exact ⟨by rw [HF.out];rfl,jE hB.out⟩
end
section
open Go Go.RowKit
def BxC (w:World) (n:Nat) (b:Bdy) (bh:BH):Prop:=∀i v,(bdC b bh)[i]?=some v->w.cell? ⟨n,i,none⟩=some v
theorem BxC.new (w:World) (b:Bdy) (bh:BH):BxC (bxW w b bh) w.heap.size b bh:=fun i v hi=>jY (aX _ _) i v hi
theorem BxC.keep {w w':World} {n:Nat} {b:Bdy} {bh:BH} (h:BxC w n b bh) (hb:Below w.heap.size w w'):BxC w' n b bh:=fun i v hi=>cJ hb (h i v hi)
theorem vM (W:World) (x y z u:Int) (T:TypeId) (k:Nat) (hk:k=W.heap.size):Slc 1 RInt (W.alloc (.cells #[.int .i64 x,.int .i64 y,.int .i64 z,.int .i64 u] T)) (some ⟨k,0,none⟩) 4 [x,y,z,u]:=by
 subst hk;refine ⟨fun _=>⟨_,_,rfl,by simp,fun i q hi=>?_⟩,by simp,by omega⟩;show (W.alloc _).cell? ⟨W.heap.size,0+i * 1,none⟩=_;rw [World.cell?_alloc_at _ _ _ _ (by simp),Nat.zero_add,Nat.mul_one];match i,hi with
 | 0,hi=>simp at hi;subst hi;rfl
 | 1,hi=>simp at hi;subst hi;rfl
 | 2,hi=>simp at hi;subst hi;rfl
 | 3,hi=>simp at hi;subst hi;rfl
 | i+4,hi=>simp at hi
theorem vQ (b:Bdy) (bh:BH) (w:World) (H:BdAt w b bh):
 Calls Tryz.prog 69 #[.agg (bdC b bh).toArray] w fun e' w'=>e' = .returned (.int .i64 (declC b))/\Below w.heap.size w w':=by
 have HX:=aF (BxC.new w b bh);have HH:=aF H;have HB0:=aF (iJ w b bh);have r1:=H.reg.le;have r2:=H.reg.big;have b1:=H.blk.le;have b2:=H.blk.big;have HID:=aF (eO b.name (bxW w b bh));unfold declC;obtain ⟨Q,hQ⟩:∃Q,(if isIdent b.name=false then 12 else if firstE [namesC b.regions,pairsC b.regions.length b.outl,typesC b.regions.length b.types,localsC b]=0 then (if b.blocks.length=0\/65535<b.blocks.length then 15 else 0) else firstE [namesC b.regions,pairsC b.regions.length b.outl,typesC b.regions.length b.types,localsC b])=Q:=⟨_,rfl⟩;rw [hQ];have HQ:=aF hQ;clear hQ H;cases hid:isIdent b.name
 ·rw [hid] at HID HQ;have HF:Hid (Q=12):=aF HQ.out.symm;clear hid HQ;unfold bdC;go_enter Tryz.func69,Tryz.ntmps69
  go_wp2_with (go_at_call 108;refine HID.out.mono ?_;rintro e' w1 ⟨rfl,hb1⟩)
  go_ret;exact ⟨by rw [HF.out];rfl,HB0.out.trans (hb1.mono HB0.out.size)⟩
 rw [hid] at HID HQ;have HQ':Hid (Q=if firstE [namesC b.regions,pairsC b.regions.length b.outl,typesC b.regions.length b.types,localsC b]=0 then (if b.blocks.length=0\/65535<b.blocks.length then 15 else 0) else firstE [namesC b.regions,pairsC b.regions.length b.outl,typesC b.regions.length b.types,localsC b]):=aF HQ.out.symm;clear hid HQ;have HN:=aF (fun W (hb:Below w.heap.size w W)=>rX b.regions bh.A1 bh.c1 W (HH.out.keep hb).reg);have HP:=aF (fun W (hb:Below w.heap.size w W)=>iW b.outl b.regions.length bh.A2 bh.c2 W (HH.out.keep hb).out);have HT:=aF (fun W (hb:Below w.heap.size w W)=>oY b.types b.regions.length bh.A3 bh.c3 W (HH.out.keep hb).typ);have HL:=aF (fun W (hb:Below w.heap.size w W)=>pS b bh W (HH.out.keep hb));generalize namesC b.regions=E1 at HN HQ';generalize pairsC b.regions.length b.outl=E2 at HP HQ';generalize typesC b.regions.length b.types=E3 at HT HQ';generalize localsC b=E4 at HL HQ';have HFI:=aF (eU [E1,E2,E3,E4]);generalize firstE [E1,E2,E3,E4]=E at HFI HQ';unfold bdC at HL ⊢;go_enter Tryz.func69,Tryz.ntmps69
 go_wp2_with (go_at_call 108;refine HID.out.mono ?_;rintro e' w1 ⟨rfl,hb1⟩;have x1:=HX.out.keep hb1 1 _ rfl)
 have hX1:BxC w1.drew w.heap.size b bh:=(HX.out.keep hb1).keep ((aX _ _).drew);have hB1:Below w.heap.size w w1.drew:=(HB0.out.trans (hb1.mono HB0.out.size)).drew;have HB1:=aF hB1;have hS:=hX1;clear hX1 hB1 hb1;refine cQ (S:=fun X=>BxC X w.heap.size b bh) [0,1,3,4,5,7,8,9,11,2,6,10,12,13,14,15] (by kernel_rfl) ?_;(iterate 9 (refine cR (v:=?_) ?_ hS ?_;rotate_left;(next=>(rintro X hX;obtain ⟨s0,s1,s2,s3,s4,s5,s6⟩:=aS hX;(try simp only [aI]);go_simp;rfl));simp only [aM]));(refine cM (fun K1 hK1=>?_);simp only [aM];rw [bA (by rfl)];go_simp);refine (HN.out _ HB1.out).mono ?_;rintro e' w2 ⟨rfl,hb⟩;replace hS:=hS.keep hb;have HB2:=aF (HB1.out.trans (hb.mono HB1.out.size));clear hb HB1;refine hK1.out _ _ (fun _=>hS) ?_;clear HN;(refine cM (fun K1 hK1=>?_);simp only [aM];rw [bA (by rfl)];go_simp);refine (HP.out _ HB2.out).mono ?_;rintro e' w3 ⟨rfl,hb⟩;replace hS:=hS.keep hb;have HB3:=aF (HB2.out.trans (hb.mono HB2.out.size));clear hb HB2;refine hK1.out _ _ (fun _=>hS) ?_;clear HP;(refine cM (fun K1 hK1=>?_);simp only [aM];rw [bA (by rfl)];go_simp);refine (HT.out _ HB3.out).mono ?_;rintro e' w4 ⟨rfl,hb⟩;replace hS:=hS.keep hb;have HB4:=aF (HB3.out.trans (hb.mono HB3.out.size));clear hb HB3;refine hK1.out _ _ (fun _=>hS) ?_;clear HT;(refine cM (fun K1 hK1=>?_);simp only [aM];rw [bA (by rfl)];go_simp);refine (HL.out _ HB4.out).mono ?_;rintro e' w5 ⟨rfl,hb⟩;replace hS:=hS.keep hb;have HB5:=aF (HB4.out.trans (hb.mono HB4.out.size));clear hb HB4;refine hK1.out _ _ (fun _=>hS) ?_;clear HL;(refine cM (fun K1 hK1=>?_);simp only [aM];rw [bA (by rfl)];go_simp);have HNW:=aF (vM w5 E1 E2 E3 E4 31 _ rfl);have hbn:Below w5.heap.size w5 (w5.alloc (.cells #[.int .i64 E1,.int .i64 E2,.int .i64 E3,.int .i64 E4] 31)):=(aX _ _).alloc (aY _) _;replace hS:=hS.keep hbn;have HB6:=aF (HB5.out.trans (hbn.mono HB5.out.size));clear hbn;refine hK1.out _ _ (fun _=>hS) ?_;(refine cM (fun K1 hK1=>?_);simp only [aM];rw [bA (by rfl)];go_simp);refine (HFI.out _ 4 _ HNW.out).mono ?_;rintro e' w6 ⟨rfl,hw⟩;obtain rfl:=hw.symm;refine hK1.out _ _ (fun _=>hS) ?_;((refine cR (v:=?_) ?_ hS ?_;rotate_left;(next=>(rintro X hX;have s0:=hX 0 _ rfl;(try simp only [aI]);go_simp;rfl));simp only [aM]))
 refine cV ?_;have x6:=hS 6 _ rfl;clear hS HH HX HB0 HNW;by_cases he:E=0
 ·have HF:Hid (Q=if b.blocks.length=0\/65535<b.blocks.length then 15 else 0):=aF (by rw [HQ'.out,bA he]);subst he;clear HQ';obtain ⟨m,hm⟩:∃m,b.blocks.length=m:=⟨_,rfl⟩;rw [hm] at HF x6 b1;rw [hm];clear hm;by_cases hbl:m=0\/65535<m
  ·rw [bA hbl] at HF;rcases hbl with rfl | hbl
   ·go_wp2_with fail
    go_ret;exact ⟨by rw [HF.out];rfl,HB6.out⟩
   ·have e1:((m:Int) == 0)=false:=by simp;omega
    go_wp2_with fail
    go_ret;exact ⟨by rw [HF.out];rfl,HB6.out⟩
  ·rw [aZ hbl] at HF;have e1:((m:Int) == 0)=false:=by simp;omega
   have e2:¬(65535:Int)<m:=by omega
   clear hbl;go_wp2_with fail
   go_ret;exact ⟨by rw [HF.out];rfl,HB6.out⟩
 ·have HF:Hid (Q=E):=aF (by rw [HQ'.out,aZ he]);have e1:(E != 0)=true:=by simp [he]
  clear HQ';go_wp2_with fail
  go_ret;exact ⟨by rw [HF.out];rfl,HB6.out⟩
end
section
open Go Go.RowKit Go.Maps
theorem GI.but {w w':World} {base rel c lo:Nat} {M:Bool->Nat} {n:Int} {L:Bool->Int->List Int} {F:Bool->Int->Value} (h:GI w base rel M c n L F) (hr:lo<=rel) (hm:∀s,lo<=M s) (hk:∀k,lo<=k->k<w.heap.size->w'.heap[k]?=w.heap[k]?) (hs:w.heap.size<=w'.heap.size):GI w' base rel M c n L F:=
 ⟨(hk _ hr (Array.getElem?_eq_some_iff.1 h.head).1).trans h.head,fun s=>(h.maps s).block (hk _ (hm s) (h.maps s).lt),fun s x=>dU (h.rows s x) (fun k h1 h2 _=>hk k (by have:=h.lrel;omega) h2),h.apart,h.lrel,h.lmap,h.ne1,h.ne2,bZ h.low hs⟩
def newP2 (n:Int) (pairs:List (Int × Int)) (w:World) (e':Ending) (w':World):Prop:=∃r0 M c F base,e' = .returned (.tuple #[.pointer (some ⟨r0,0,none⟩),.int .i64 0])/\GI w' base r0 M c n (relL pairs) F/\w.heap.size<=r0/\(∀s,w.heap.size<=M s)/\Below w.heap.size w w'
theorem yB (l:List (Int × Int)) (n:Int) (A:Option Addr) (c:Nat) (w:World) (hs:Slc 2 RPr w A c l) (hok:pairsC n l=0) (hn:n<=4611686018427387904):
 Calls Tryz.prog 114 #[.slice A l.length c,.int .i64 n] w (newP2 n l w):=by
 obtain ⟨hlen,hall⟩:=iX hok;have hle:=hs.le;have hbig:=hs.big;have HCH:=aF (iW l n A c w hs);rw [hok] at HCH;have HS:=aF hs;have HALL:=aF hall;clear hs hall hok;obtain ⟨i0,hi,hz0,hz1,hz2⟩:=info_parts eF;have hmm:= @run_makeMap Tryz.prog;go_enter Tryz.func114,Tryz.ntmps114
 go_wp2_with (go_at_call 111;refine HCH.out.mono ?_;rintro e' w1 ⟨rfl,hb1⟩;have HB1:=aF hb1;clear hb1)
 have HG0:Hid (GI (((w1.alloc (.map #[] 0)).alloc (.map #[] 0)).alloc (.cells #[.int .i64 n,.map (some w1.heap.size),.map (some (w1.heap.size+1))] 209)) (w1.heap.size+3) (w1.heap.size+2) (mapsAt w1.heap.size) 0 n (relL []) (fun _ _=>nilS)):=aF (by
  have b1:Below (w1.alloc (.map #[] 0)).heap.size (w1.alloc (.map #[] 0)) ((w1.alloc (.map #[] 0)).alloc (.map #[] 0)):=(aX _ _).alloc (aY _) _;have b2:Below ((w1.alloc (.map #[] 0)).alloc (.map #[] 0)).heap.size ((w1.alloc (.map #[] 0)).alloc (.map #[] 0)) (((w1.alloc (.map #[] 0)).alloc (.map #[] 0)).alloc (.cells #[.int .i64 n,.map (some w1.heap.size),.map (some (w1.heap.size+1))] 209)):=(aX _ _).alloc (aY _) _;have hnil:mapF (fun _=>nilS)=fun _=>nilS:=by funext x;cases x <;> (try rfl);rename_i q _;cases q <;> rfl
  refine ⟨?_,?_,fun s x=>?_,fun s x s' x' g h=>(by cases h),(by omega),fun s=>(by cases s <;> simp [mapsAt]),fun s=>(by cases s <;> simp [mapsAt]),(by simp [mapsAt]),(by simp)⟩
  ·exact oU _ _ _ (by simp)
  ·intro s;rw [hnil];cases s
   ·exact (OwnV.made w1 _ _ _).block ((b2.block _ (by simp [];omega)).trans (b1.block _ (by simp [])))
   ·have:=OwnV.made (w1.alloc (.map #[] 0)) Tryz.prog 3 nilS;simp only [bI] at this;exact this.block (b2.block _ (by simp []))
  ·have:relL [] s x=[]:=by cases s <;> rfl
   rw [this]
   exact World.ownsRow_nil _ _ _ _)
 go_loopw [23] (fun v wr=>∃(k:Nat) (F:Bool->Int->Value),k<=l.length/\v = .int .i64 k/\Hid (GI wr (w1.heap.size+3) (w1.heap.size+2) (mapsAt w1.heap.size) (2 * k) n (relL (l.take k)) F)/\Hid (Below w1.heap.size w1 wr)) (fun v _=>l.length - (intOf v).toNat)
 case atStart=>exact ⟨0,_,by omega,rfl,HG0,aF ((((aX _ _).alloc (aY _) _).alloc (by simp) _).alloc (by simp;omega) _)⟩
 case round=>
  clear HG0;obtain ⟨k,F,hk,rfl,HG,hB⟩:=hrel;by_cases hlt:k<l.length
  ·obtain ⟨b,o,rfl,hb,hx⟩:=(HS.out.keep RPr.keeps (HB1.out.trans (hB.out.mono HB1.out.size))).sl.at_ hlt;have HTK:Hid (relL (l.take (k+1))=updL (updL (relL (l.take k)) false l[k].1 (relL (l.take k) false l[k].1 ++ [l[k].2])) true l[k].2 (relL (l.take k) true l[k].2 ++ [l[k].1])):=aF (by rw [bF hlt,rE]);have hpp:=HALL.out l[k] (bN hlt);have HL1:=aF (jM (l.take k) false l[k].1);have HL2:=aF (jM (l.take k) true l[k].2);rw [List.length_take] at HL1 HL2;obtain ⟨p,hp⟩:∃p,l[k]=p:=⟨_,rfl⟩;rw [hp] at hx HTK hpp HL1 HL2;obtain ⟨p1,p2⟩:=p;obtain ⟨x0,x1⟩:=hx;simp only at x0 x1 hpp HTK HL1 HL2;clear hp;generalize relL (l.take k)=L at HG HTK HL1 HL2;have key1:=key3 (a:=p1) (by omega) (by omega);have key2:=key3 (a:=p2) (by omega) (by omega);obtain ⟨W,hW⟩:∃W,wr.alloc (.cells #[.int .i64 p1,.int .i64 p2] 77)=W:=⟨_,rfl⟩;have hbw:Below wr.heap.size wr W:=by rw [<- hW];exact (aX _ _).alloc (aY _) _
   have hWs:W.heap.size=wr.heap.size+1:=by rw [<- hW];simp
   have hP1:W.heap[wr.heap.size]?=some (.cells #[.int .i64 p1,.int .i64 p2] 77):=by rw [<- hW];exact Array.getElem?_push_size
   have HGW:=aF (HG.out.keep hbw);have HWS:=aF hWs;have HROW:=aF (fun s x k (hk:(F s x).ownBlock=some k)=>((HG.out.rows s x).lt k hk).2);have hB1:Below w1.heap.size w1 W:=hB.out.trans (hbw.mono hB.out.size);have hlo:=HG.out.low;clear HG hbw;go_wp2_with fail
   try rw [hW]
   have hrow1:∀k,(F false p1).ownBlock=some k->k<wr.heap.size:=HROW.out false p1;obtain ⟨r0,r1,r2⟩:=gW HGW.out.head;obtain ⟨p0,p1'⟩:=qN hP1;have hmap:=HGW.out.maps false;have hlook:∀X:World,X.heap[mapsAt w1.heap.size false]?=W.heap[mapsAt w1.heap.size false]?->(Instr.lookup 207 (.map (some (mapsAt w1.heap.size false))) (.int .i64 p1) false).run Tryz.prog X = .ok (F false p1) X:=fun X q=>(hmap.block q).look law3 Tryz.underlying207 (qG X) key1
   have hS:W.drew.heap[w1.heap.size+2]?=W.heap[w1.heap.size+2]?/\W.drew.heap[mapsAt w1.heap.size false]?=W.heap[mapsAt w1.heap.size false]?/\W.drew.heap[wr.heap.size]?=W.heap[wr.heap.size]?:=⟨rfl,rfl,rfl⟩;refine dH (S:=fun X=>X.heap[w1.heap.size+2]?=W.heap[w1.heap.size+2]?/\X.heap[mapsAt w1.heap.size false]?=W.heap[mapsAt w1.heap.size false]?/\X.heap[wr.heap.size]?=W.heap[wr.heap.size]?) 17 [0,1,2,3,4,5,6,7,8,9,10,11,12,13,14,15,16,17] (by kernel_rfl) ?_;(iterate 15 (refine cR (v:=?_) ?_ hS ?_;rotate_left;(next=>(rintro X ⟨q1,q2,q3⟩;have s1:=(cell_of_heap q1 1).trans r1;have s2:=(cell_of_heap q1 2).trans r2;have s3:=(cell_of_heap q3 0).trans p0;have s4:=(cell_of_heap q3 1).trans p1';have e0:=hlook X q2;(try simp only [aI]);go_simp;rfl));simp only [aM]));(refine cM (fun K1 hK1=>?_);simp only [aM];rw [bA (by rfl)];go_simp);obtain ⟨W1,hW1⟩:∃X,(W.alloc (.cells #[.int .i64 p2] 3)).drew=X:=⟨_,rfl⟩;have hbW1:Below W.heap.size W W1:=by rw [<- hW1];exact ((aX _ _).alloc (aY _) _).drew
   have hnews:∀j u,[Value.int .i64 p2][j]?=some u->W1.cell? ((⟨W.heap.size,0,none⟩:Addr).add j)=some u:=by rw [<- hW1];exact fun j u hj=>dZ W _ _ _ rfl j u hj
   have hlz1:wr.heap.size<W.heap.size:=by omega
   have hm1:mapsAt w1.heap.size false<wr.heap.size:=by simp [mapsAt];omega
   try rw [hW1]
   refine hK1.out _ _ (fun _=>⟨hbW1.block _ (by omega),hbW1.block _ (by omega),hbW1.block _ hlz1⟩) ?_;(refine cM (fun K1 hK1=>?_);simp only [aM];rw [bA (by rfl)]);refine fD (.tmp 39) (.tmp 42) 58 rfl (w1.heap.size+3) 3 i0 (.int .i64 0) 1 8 Tryz.underlying58 hi hz0 hz1 hz2 rfl (by decide) (F false p1) _ _ rfl ((HGW.out.keep hbW1).rows false p1) ⟨W.heap.size,0,none⟩ 1 1 [.int .i64 p2] (by rw [HWS.out];rfl) rfl hnews (ints_oneCell .i64 [p2]) (by have:=HL1.out;unfold maxLen;omega) (by have:=HL1.out;omega) (by have:=hbW1.size;omega) ?_;intro v1 W2 hown1 hgrow1 hloc1;have hk1:∀k,k<W.heap.size->some k≠(F false p1).ownBlock->W2.heap[k]?=W.heap[k]?:=fun k hk hr=>(hgrow1.block k (bO hk hbW1.size) hr).trans (hbW1.block k hk)
   have hlow1:∀k,k<w1.heap.size+3->some k≠(F false p1).ownBlock:=fun k hk e=>by have:=((HGW.out.rows false p1).lt k e.symm).1;omega
   have hpb1:W2.heap[wr.heap.size]?=W.heap[wr.heap.size]?:=hk1 _ hlz1 (fun e=>by have:=hrow1 _ e.symm;omega);have hmb1:W2.heap[mapsAt w1.heap.size false]?=W.heap[mapsAt w1.heap.size false]?:=hk1 _ (by omega) (hlow1 _ (by simp [mapsAt]));refine hK1.out _ _ (fun _=>⟨hk1 _ (by omega) (hlow1 _ (by omega)),hmb1,hpb1⟩) ?_;(refine cM (fun K1 hK1=>?_);simp only [aM];rw [bA (by rfl)]);obtain ⟨W2',hrun1,hmp1,hg1⟩:=(hmap.block hmb1).store law3 Tryz.underlying207 (by unfold maxLen;omega) key1 trivial v1 (f':=mapF (updF F false p1 v1 false)) (by simp [mapF,updF]) (oD (fun y hy=>by simp [updF,hy]));refine kB (.tmp 30) (.tmp 32) (.tmp 43) 207 rfl rfl rfl rfl hrun1 ?_;refine hK1.out _ _ (fun h=>absurd h (by decide)) ?_;refine cV ?_;have HG2:=aF ((HGW.out.keep hbW1).step false p1 p2 v1 hown1 hgrow1 hloc1 hmp1 hg1);have hP2:W2'.heap[wr.heap.size]?=some (.cells #[.int .i64 p1,.int .i64 p2] 77):=((hg1.block _ (bO hlz1 (bZ hbW1.size hgrow1.size)) (by simp;omega)).trans hpb1).trans hP1
   have hB2:Below w1.heap.size w1 W2':=by
    have ha:Below w1.heap.size w1 W1:=hB1.trans (hbW1.mono hB1.size);have hc:=ha.grown hgrow1 ha.size (fun k hk=>by have:=((HGW.out.rows false p1).lt k hk).1;omega);exact hc.grown hg1 hc.size (fun k hk=>by injection hk with hk;subst hk;simp [mapsAt])
   have hlt2:wr.heap.size<W2'.heap.size:=bO hlz1 (bZ hbW1.size (bZ hgrow1.size hg1.size));clear hS hlook hmap r0 r1 r2 p0 p1' hnews hown1 hgrow1 hloc1 hmp1 hg1 hrun1 hk1 hlow1 hpb1 hmb1 hbW1 hK1;go_wp2_with fail
   have HL2':Hid ((updL L false p1 (L false p1 ++ [p2]) true p2).length<=min k l.length):=aF (by simp only [updL,Bool.true_eq_false,false_and,if_false];exact HL2.out);have hrow2:∀k,((updF F false p1 v1) true p2).ownBlock=some k->k<wr.heap.size:=HROW.out true p2;obtain ⟨r0,r1,r2⟩:=gW HG2.out.head;obtain ⟨p0,p1'⟩:=qN hP2;have hmap:=HG2.out.maps true;have hlook:∀X:World,X.heap[mapsAt w1.heap.size true]?=W2'.heap[mapsAt w1.heap.size true]?->(Instr.lookup 207 (.map (some (mapsAt w1.heap.size true))) (.int .i64 p2) false).run Tryz.prog X = .ok ((updF F false p1 v1) true p2) X:=fun X q=>(hmap.block q).look law3 Tryz.underlying207 (qG X) key2
   have hS:W2'.drew.heap[w1.heap.size+2]?=W2'.heap[w1.heap.size+2]?/\W2'.drew.heap[mapsAt w1.heap.size true]?=W2'.heap[mapsAt w1.heap.size true]?/\W2'.drew.heap[wr.heap.size]?=W2'.heap[wr.heap.size]?:=⟨rfl,rfl,rfl⟩;refine dH (S:=fun X=>X.heap[w1.heap.size+2]?=W2'.heap[w1.heap.size+2]?/\X.heap[mapsAt w1.heap.size true]?=W2'.heap[mapsAt w1.heap.size true]?/\X.heap[wr.heap.size]?=W2'.heap[wr.heap.size]?) 17 [0,1,2,3,4,5,6,7,8,9,10,11,12,13,14,15,16,17] (by kernel_rfl) ?_;(iterate 15 (refine cR (v:=?_) ?_ hS ?_;rotate_left;(next=>(rintro X ⟨q1,q2,q3⟩;have s1:=(cell_of_heap q1 1).trans r1;have s2:=(cell_of_heap q1 2).trans r2;have s3:=(cell_of_heap q3 0).trans p0;have s4:=(cell_of_heap q3 1).trans p1';have e0:=hlook X q2;(try simp only [aI]);go_simp;rfl));simp only [aM]));(refine cM (fun K1 hK1=>?_);simp only [aM];rw [bA (by rfl)];go_simp);obtain ⟨W3,hW3⟩:∃X,(W2'.alloc (.cells #[.int .i64 p1] 3)).drew=X:=⟨_,rfl⟩;have hbW3:Below W2'.heap.size W2' W3:=by rw [<- hW3];exact ((aX _ _).alloc (aY _) _).drew
   have hnews:∀j u,[Value.int .i64 p1][j]?=some u->W3.cell? ((⟨W2'.heap.size,0,none⟩:Addr).add j)=some u:=by rw [<- hW3];exact fun j u hj=>dZ W2' _ _ _ rfl j u hj
   have hlz2:wr.heap.size<W2'.heap.size:=by exact hlt2
   have hm2:mapsAt w1.heap.size true<wr.heap.size:=by simp [mapsAt];omega
   try rw [hW3]
   refine hK1.out _ _ (fun _=>⟨hbW3.block _ (by omega),hbW3.block _ (by omega),hbW3.block _ hlz2⟩) ?_;(refine cM (fun K1 hK1=>?_);simp only [aM];rw [bA (by rfl)]);refine fD (.tmp 56) (.tmp 59) 58 rfl (w1.heap.size+3) 3 i0 (.int .i64 0) 1 8 Tryz.underlying58 hi hz0 hz1 hz2 rfl (by decide) ((updF F false p1 v1) true p2) _ _ rfl ((HG2.out.keep hbW3).rows true p2) ⟨W2'.heap.size,0,none⟩ 1 1 [.int .i64 p1] rfl rfl hnews (ints_oneCell .i64 [p1]) (by have:=HL2'.out;unfold maxLen;omega) (by have:=HL2'.out;omega) (by have:=hbW3.size;omega) ?_;intro v2 W4 hown2 hgrow2 hloc2;have hk2:∀k,k<W2'.heap.size->some k≠((updF F false p1 v1) true p2).ownBlock->W4.heap[k]?=W2'.heap[k]?:=fun k hk hr=>(hgrow2.block k (bO hk hbW3.size) hr).trans (hbW3.block k hk)
   have hlow2:∀k,k<w1.heap.size+3->some k≠((updF F false p1 v1) true p2).ownBlock:=fun k hk e=>by have:=((HG2.out.rows true p2).lt k e.symm).1;omega
   have hpb2:W4.heap[wr.heap.size]?=W2'.heap[wr.heap.size]?:=hk2 _ hlz2 (fun e=>by have:=hrow2 _ e.symm;omega);have hmb2:W4.heap[mapsAt w1.heap.size true]?=W2'.heap[mapsAt w1.heap.size true]?:=hk2 _ (by omega) (hlow2 _ (by simp [mapsAt]));refine hK1.out _ _ (fun _=>⟨hk2 _ (by omega) (hlow2 _ (by omega)),hmb2,hpb2⟩) ?_;(refine cM (fun K1 hK1=>?_);simp only [aM];rw [bA (by rfl)]);obtain ⟨W4',hrun2,hmp2,hg2⟩:=(hmap.block hmb2).store law3 Tryz.underlying207 (by unfold maxLen;omega) key2 trivial v2 (f':=mapF (updF (updF F false p1 v1) true p2 v2 true)) (by simp [mapF,updF]) (oD (fun y hy=>by simp [updF,hy]));refine kB (.tmp 47) (.tmp 49) (.tmp 60) 207 rfl rfl rfl rfl hrun2 ?_;refine hK1.out _ _ (fun h=>absurd h (by decide)) ?_;refine cV ?_;have HG3:=aF ((HG2.out.keep hbW3).step true p2 p1 v2 hown2 hgrow2 hloc2 hmp2 hg2);have hP3:W4'.heap[wr.heap.size]?=some (.cells #[.int .i64 p1,.int .i64 p2] 77):=((hg2.block _ (bO hlz2 (bZ hbW3.size hgrow2.size)) (by simp;omega)).trans hpb2).trans hP2
   have hB3:Below w1.heap.size w1 W4':=by
    have ha:Below w1.heap.size w1 W3:=hB2.trans (hbW3.mono hB2.size);have hc:=ha.grown hgrow2 ha.size (fun k hk=>by have:=((HG2.out.rows true p2).lt k hk).1;omega);exact hc.grown hg2 hc.size (fun k hk=>by injection hk with hk;subst hk;simp [mapsAt])
   have hlt2:wr.heap.size<W4'.heap.size:=bO hlz2 (bZ hbW3.size (bZ hgrow2.size hg2.size));clear hS hlook hmap r0 r1 r2 p0 p1' hnews hown2 hgrow2 hloc2 hmp2 hg2 hrun2 hk2 hlow2 hpb2 hmb2 hbW3 hK1;go_wp2_with fail
   have hLL:updL L false p1 (L false p1 ++ [p2]) true p2=L true p2:=by simp [updL]
   have hG3:=HG3.out;rw [hLL,<- HTK.out] at hG3;exact ⟨⟨k+1,_,by omega,by go_num,aF hG3,aF hB3⟩,by simp [intOf];omega⟩
  ·have hke:l.take k=l:=List.take_of_length_le (by omega);have HR:=HG;rw [hke] at HR;clear HG;go_wp2_with fail
   refine bodyPost_ret (v:= .tuple #[.pointer (some ⟨w1.heap.size+2,0,none⟩),.int .i64 0]) (by simp [results,Tryz.results114,go_sem] <;> rfl) rfl ⟨_,_,_,_,_,rfl,HR.out,by have:=HB1.out.size;omega,fun s=>by have:=HB1.out.size;cases s <;> simp [mapsAt] <;> omega,HB1.out.trans (hB.out.mono HB1.out.size)⟩
theorem fU {k b:Nat} (hk:k≠b):∀(vs:List Value) (o:Nat) (w:World),(w.setCells b o vs).heap[k]?=w.heap[k]?
 | [],_,_=>rfl
 | v :: vs,o,w=>(fU hk vs (o+1) _).trans (bH w ⟨b,o,none⟩ v k hk)
theorem fP (b:Nat):∀(vs:List Value) (o:Nat) (w:World),(w.setCells b o vs).heap.size=w.heap.size
 | [],_,_=>rfl
 | v :: vs,o,w=>(fP b vs (o+1) _).trans (by simp)
theorem vE (b:Bdy) (bh:BH) (w:World) (H:BdAt w b bh) (hok:DeclOk b):
 Calls Tryz.prog 70 #[.agg (bdC b bh).toArray] w fun e' w'=>∃r,e' = .returned (.agg (ckC b bh r).toArray)/\Ck w' b bh r/\Below w.heap.size w w':=by
 have HN:=aF (fun (W:World) (hb:Below w.heap.size w W)=>yB b.outl b.regions.length bh.A2 bh.c2 W (H.keep hb).out hok.outl (by have:=hok.nreg;omega));have HH:=aF H;have HO:=aF hok;clear H hok;unfold bdC ckC;go_enter Tryz.func70,Tryz.ntmps70
 go_wp2_with (go_at_call 114;refine (HN.out _ (bel2 _ _ _)).mono ?_;rintro e' w1 ⟨r0,M0,c0,F0,ba0,rfl,hrel,hr0,hM0,hb1⟩;have HB:=aF ((bel2 _ _ _).trans (hb1.mono (bel2 _ _ _).size));have HREL:=aF hrel;obtain ⟨y,z⟩:=cT hb1;obtain ⟨y0,y1,y2,y3,y4,y5,y6⟩:=aS y;have h8:w1.heap[w.heap.size+1]?=some (.cells #[.string ⟨#[]⟩,.slice none 0 0,.slice none 0 0,.slice none 0 0,.slice none 0 0,.int .i64 0,.slice none 0 0,.pointer none] 122):=(hb1.block _ (by simp)).trans (by rw [oU _ _ _ (by simp)]);have f8:∀i,w1.frozen? ⟨w.heap.size+1,i,none⟩=false:=(fun i=>(by unfold World.frozen?;simp only [h8];simp));obtain ⟨z0,z1,z2,z3,z4,z5,z6,z7⟩:=aT z;have H8:=aF h8;simp only [bI] at hr0 hM0;clear h8 y z hb1 hrel)
 generalize hW2:((((((((w1.setCell ⟨w.heap.size+1,0,none⟩ (Value.string b.name)).setCell ⟨w.heap.size+1,1,none⟩ (Value.slice bh.A1 b.regions.length bh.c1)).setCell ⟨w.heap.size+1,2,none⟩ (Value.slice bh.A2 b.outl.length bh.c2)).setCell ⟨w.heap.size+1,3,none⟩ (Value.slice bh.A3 b.types.length bh.c3)).setCell ⟨w.heap.size+1,4,none⟩ (Value.slice bh.A4 b.locals.length bh.c4)).setCell ⟨w.heap.size+1,5,none⟩ (Value.int IntKind.i64 b.args)).setCell ⟨w.heap.size+1,6,none⟩ (Value.slice bh.A5 b.blocks.length bh.c5)).setCell ⟨w.heap.size+1,7,none⟩ (Value.pointer (some ⟨r0,0,none⟩)))=W2;have hW:w1.setCells (w.heap.size+1) 0 (ckC b bh r0)=W2:=hW2
 have hth:w1.there (w.heap.size+1) 0 8:=fun j hj=>⟨by
  rw [Nat.zero_add];match j,hj with
  | 0,_=>rw [z0];rfl
  | 1,_=>rw [z1];rfl
  | 2,_=>rw [z2];rfl
  | 3,_=>rw [z3];rfl
  | 4,_=>rw [z4];rfl
  | 5,_=>rw [z5];rfl
  | 6,_=>rw [z6];rfl
  | 7,_=>rw [z7];rfl,f8 _⟩
 have hcl:=World.rangeAt_setCells_same w1 (w.heap.size+1) 0 (ckC b bh r0) hth;have hbo:∀k,k≠w.heap.size+1->W2.heap[k]?=w1.heap[k]?:=fun k hk=>by rw [<- hW];exact fU hk _ _ _
 have hsz:W2.heap.size=w1.heap.size:=by rw [<- hW];exact fP _ _ _ _
 have hGI:=HREL.out.but (lo:=w.heap.size+2) hr0 hM0 (w':=W2) (fun k h1 _=>hbo k (by omega)) (by omega);have hBL:Below w.heap.size w W2:=by rw [<- hW];exact dF (Nat.le_succ _) _ _ _ HB.out
 rw [hW] at hcl;have v0:=hcl 0 _ rfl;have v1:=hcl 1 _ rfl;have v2:=hcl 2 _ rfl;have v3:=hcl 3 _ rfl;have v4:=hcl 4 _ rfl;have v5:=hcl 5 _ rfl;have v6:=hcl 6 _ rfl;have v7:=hcl 7 _ rfl;simp only [Nat.zero_add] at v0 v1 v2 v3 v4 v5 v6 v7;have HCK:=aF (show Ck W2 b bh r0 from ⟨HH.out.keep hBL,HO.out,hGI.rel3⟩);have HBL:=aF hBL;clear hGI hbo hcl hth hW hW2 hsz hBL HREL HH HO f8 z0 z1 z2 z3 z4 z5 z6 z7;exact bodyPost_ret (v:= .agg (ckC b bh r0).toArray) (by simp [results,Tryz.results70,go_sem,v0,v1,v2,v3,v4,v5,v6,v7];rfl) rfl ⟨r0,rfl,HCK.out,HBL.out⟩
end
section
open Go Go.RowKit Go.Shelf
def restE (prev:List Ty) (d:List Int) (t:Ty) (a:Int) (l:List Int):Int:=
 match depF d a l with
 | none=>3
 | some k=>if t.kind=4/\(t.flds.length=0\/65535<t.flds.length) then 15 else if 32<=k then 19 else if t∈prev then 21 else 0
theorem tX {prev:List Ty} {d:List Int} {n:Int} {t:Ty} (h1:¬(t.kind<0\/4<t.kind)):
 (tyE prev d n t).1=if (t.kind≠3/\(t.mu=true\/t.reg≠0\/t.elem≠0))\/(t.kind≠4/\0<t.flds.length) then 2 else if t.kind=3/\(t.reg<0\/n<=t.reg) then 3 else restE prev d t 0 (refsD t):=by
 unfold tyE restE refsD;rw [aZ h1];by_cases c2:(t.kind≠3/\(t.mu=true\/t.reg≠0\/t.elem≠0))\/(t.kind≠4/\0<t.flds.length)
 ·rw [bA c2,bA c2]
 ·rw [aZ c2,aZ c2];by_cases c3:t.kind=3/\(t.reg<0\/n<=t.reg)
  ·rw [bA c3,bA c3]
  ·rw [aZ c3,aZ c3];cases depF d 0 (if t.kind=3 then [t.elem] else t.flds) with
   | none=>rfl
   | some k=>
     simp only;by_cases c4:t.kind=4/\(t.flds.length=0\/65535<t.flds.length)
     ·rw [bA c4,bA c4]
     ·rw [aZ c4,aZ c4];by_cases c5:32<=k
      ·rw [bA c5,bA c5]
      ·rw [aZ c5,aZ c5];by_cases c6:t∈prev
       ·rw [bA c6,bA c6]
       ·rw [aZ c6,aZ c6]
end
end Go.Proofs.YtmknfbfppmkcfaaGreatDoor
