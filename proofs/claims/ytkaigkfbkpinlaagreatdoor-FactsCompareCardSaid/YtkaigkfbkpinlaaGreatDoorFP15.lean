/-
  Parts of the proof: V39I V39D V39O V39E V40 V41 V69 V72 FC H6 HJ HK HL HO.
-/
import Derived.Sort.WalkA
import Derived.Test.YtkaigkfbkpinlaaGreatDoorFP0
import Derived.Test.YtkaigkfbkpinlaaGreatDoorFP13
import Derived.Test.YtkaigkfbkpinlaaGreatDoorFP9
import Derived.Test.YtkaigkfbkpinlaaGreatDoorFP5
import Derived.Test.YtkaigkfbkpinlaaGreatDoorFP3
import Derived.Test.YtkaigkfbkpinlaaGreatDoorFP12
import Derived.Test.YtkaigkfbkpinlaaGreatDoorFP2
import Derived.Test.YtkaigkfbkpinlaaGreatDoorFP4
import Derived.Test.YtkaigkfbkpinlaaGreatDoorFP7
import Derived.Test.YtkaigkfbkpinlaaGreatDoorFP8
import Derived.Test.YtkaigkfbkpinlaaGreatDoorFP14
import Derived.Deep.LoopGhost
import Derived.Deep.DeepCutAuto
import Derived.Laws.AppendOwnNone
namespace Go.Proofs.YtkaigkfbkpinlaaGreatDoor
set_option maxRecDepth 100000
set_option maxHeartbeats 16000000
section
open Go Go.RowKit Go.Maps
theorem xBY {b:Bdy} {bh:BH} {r:Nat} {w:World} (H:Ck w b bh r) (t:Trm) (A B C:Option Addr) (c d f:Nat) (ht:Slc 1 RInt w A c t.targets) (hl:Slc 4 ROp w B d t.args) (hp:Slc 2 RPj w C f t.place.proj) (hk:t.kind=1) (hfd:fieldsT t=true):
 Calls Tryz.prog 81 #[.agg (ckC b bh r).toArray,.agg (tmC t A c B d C f).toArray] w fun e' w'=>e' = .returned (.int .i64 (tmE b t))/\Below w.heap.size w w':=by
 have HFD:=aH (fun W=>fF t A B C c d f W);have HH:=aH H;have HTG:=aH ht;have HL:=aH hl;have HP:=aH hp;have hle:=hl.le;have hbig:=hl.big;have hle2:=ht.le;have hbig2:=ht.big;have hblkl:=H.at_.blk.le;have hblkb:=H.at_.blk.big;obtain ⟨R,hR⟩:∃R,tmE b t=R:=⟨_,rfl⟩;rw [hR];have HR:=aH hR;clear hR H ht hl hp
 have hag:∃o,t.args=[o]:=by
  have h:=hfd;unfold fieldsT at h;rw [bB (by omega),bD hk] at h;simp only [bR,decide_eq_true_eq] at h;exact List.length_eq_one_iff.1 h.1.1.2
 obtain ⟨o,ho⟩:=hag;obtain ⟨bb,oo,rfl,hbb,hx⟩:=HL.out.sl.at_ (show 0<t.args.length by rw [ho];simp);simp only [ho,List.getElem_cons_zero,Nat.zero_mul,Nat.add_zero] at hx;obtain ⟨p0,⟨p1,A2,c2,p2,hc1,hc2,hsl⟩,p3⟩:=hx;have HPJ:Hid (Slc 2 RPj w A2 c2 o.place.proj):=aH ⟨hsl,hc1,hc2⟩;have P0:=aH p0;have P1:=aH p1;have P2:=aH (show w.cell? ⟨bb,oo+2,none⟩=_ from p2);have P3:=aH p3;have hal:0<t.args.length:=by rw [ho];simp
 have HOO:=aH (fun (W:World) (hb:Below w.heap.size w W)=>oU (HH.out.keep hb) o A2 c2 (HPJ.out.keep RPj.keeps hb));have HKK:=aH (fun (W:World) (hb:Below w.heap.size w W) (h:opE b o=0)=>rY (HH.out.keep hb) o A2 c2 (HPJ.out.keep RPj.keeps hb) h);obtain ⟨Q,hQ⟩:∃Q,(if opE b o≠0 then opE b o else fail22 (decide (kindO b o≠1)))=Q:=⟨_,rfl⟩;have HQ:=aH hQ
 have HF:Hid (R=if t.targets.all (fun k=>decide (0<=k/\k<(b.blocks.length:Int)))=true then Q else 3):=aH (by
  rw [<- HR.out,tmE,bB (by omega),bB (by rw [hfd];simp)];rw [<- HQ.out];cases t.targets.all (fun k=>decide (0<=k/\k<(b.blocks.length:Int)))
  ·simp
  ·simp [hk,ho])
 rw [hfd] at HFD;generalize kindO b o=ko at HKK hQ HQ;generalize opE b o=eo at HOO HKK hQ HQ;clear ho p0 p1 p2 p3 hsl hc1 hc2;unfold opC at HOO HKK;clear HR hQ hfd;unfold ckC at *;unfold tmC at *;rw [hk] at HFD ⊢;go_enter Tryz.func81,Tryz.ntmps81
 go_wp2_with (go_at_call 120;refine (HFD.out _).mono ?_;rintro e' w1 ⟨rfl,hb1⟩;have HB:=aH ((bel2 _ _ _).trans (hb1.mono (bel2 _ _ _).size));obtain ⟨y,z⟩:=dD hb1;have HY:=aH y;have HZ:=aH z;obtain ⟨y0,y1,y2,y3,y4,y5,y6,y7⟩:=aV HY.out;obtain ⟨z0,z1,z2,z3,z4,z5⟩:=aT HZ.out;clear y z hb1)
 all_goals try (exfalso;omega)
 go_loop [27] (fun v=>∃k:Nat,k<=t.targets.length/\v = .int .i64 k/\Hid (R=if (t.targets.drop k).all (fun k=>decide (0<=k/\k<(b.blocks.length:Int)))=true then Q else 3)) (fun v=>t.targets.length - (intOf v).toNat)
 case atStart=>exact ⟨0,by omega,rfl,HF⟩
 case round=>
  clear HF;obtain ⟨k,hk2,rfl,hr⟩:=hrel;by_cases hlt:k<t.targets.length
  ·have hd:=dA hlt;obtain ⟨b5,o5,rfl,hb5,hx⟩:=HTG.out.sl.at_ hlt;obtain ⟨x,hxx⟩:∃x,t.targets[k]=x:=⟨_,rfl⟩;rw [hxx] at hd hx;have x0:w1.cell? ⟨b5,o5+k,none⟩=some (.int .i64 x):=cQ HB.out (by simpa [RInt] using hx);by_cases hin:0<=x/\x<(b.blocks.length:Int)
   ·have HF2:Hid (R=if (t.targets.drop (k+1)).all (fun k=>decide (0<=k/\k<(b.blocks.length:Int)))=true then Q else 3):=aH (by rw [hr.out,hd,cD];simp [hin]);have e1:¬x<0:=(by omega);have e2:¬(b.blocks.length:Int)<=x:=(by omega);clear hd hx hxx hr hin;go_wp2_with fail
    all_goals try (exfalso;omega)
    go_round
    case rel=>exact ⟨k+1,by omega,by go_num,HF2⟩
    case measure=>simp [intOf];omega
   ·have HF2:Hid (R=3):=aH (by rw [hr.out,hd,cD];simp;intro h1 h2;exact absurd ⟨h1,h2⟩ hin);clear hd hx hxx hr;go_wp2_with fail
    all_goals first
     | (exfalso;omega)
     | (go_ret;exact ⟨by rw [HF2.out];rfl,HB.out⟩)
  ·have HF2:Hid (R=Q):=aH (by rw [hr.out,bG (by omega:t.targets.length<=k)];rfl);clear hr;go_wp2_with fail
   have hS:aE w [Value.string b.name,.slice bh.A1 b.regions.length bh.c1,.slice bh.A2 b.outl.length bh.c2,.slice bh.A3 b.types.length bh.c3,.slice bh.A4 b.locals.length bh.c4,.int .i64 b.args,.slice bh.A5 b.blocks.length bh.c5,.pointer (some ⟨r,0,none⟩)] [Value.int .i64 1,.slice A t.targets.length c,.slice (some ⟨bb,oo,none⟩) t.args.length d,.int .i64 t.place.loc,.slice C t.place.proj.length f,.string t.name] w1.drew:=⟨HY.out,HZ.out,HB.out.drew⟩;clear y0 y1 y2 y3 y4 y5 y6 y7 z0 z1 z2 z3 z4 z5;refine cZ (S:=fun X=>aE w [Value.string b.name,.slice bh.A1 b.regions.length bh.c1,.slice bh.A2 b.outl.length bh.c2,.slice bh.A3 b.types.length bh.c3,.slice bh.A4 b.locals.length bh.c4,.int .i64 b.args,.slice bh.A5 b.blocks.length bh.c5,.pointer (some ⟨r,0,none⟩)] [Value.int .i64 1,.slice A t.targets.length c,.slice (some ⟨bb,oo,none⟩) t.args.length d,.int .i64 t.place.loc,.slice C t.place.proj.length f,.string t.name] X) [0,1,2,3,4,5,6] (by kernel_rfl) ?_;(iterate 5 (refine cY (v:=?_) ?_ hS ?_;rotate_left;(next=>(rintro X ⟨hX,hY,hZ⟩;obtain ⟨s0,s1,s2,s3,s4,s5,s6,s7⟩:=aV hX;have v2:=hY 2 _ rfl;have p0:=cQ hZ P0.out;have p1:=cQ hZ P1.out;have p2:=cQ hZ P2.out;have p3:=cQ hZ P3.out;(try simp only [aK]);go_simp;rfl));simp only [aO]));(refine cX (fun K1 hK1=>?_);simp only [aO];rw [bD (by rfl)];go_simp);refine (HOO.out _ hS.2.2).mono ?_;rintro e' w2 ⟨rfl,hb⟩;replace hS:=bM (cV hS.1 hb) (bM (cV hS.2.1 hb) (hS.2.2.trans (hb.mono hS.2.2.size)));have HS2:=aH hS;clear hb;refine hK1.out _ _ (fun _=>hS) ?_;clear hK1;((refine cY (v:=?_) ?_ hS ?_;rotate_left;(next=>(rintro X -;(try simp only [aK]);go_simp;rfl));simp only [aO]))
   refine dI ?_;clear hS;by_cases heo:eo=0
   ·subst heo;have HK2:=aH (fun W hb=>HKK.out W hb rfl);have HF3:Hid (R=fail22 (decide (ko≠1))):=aH (by rw [HF2.out,<- HQ.out];simp);have eko:(ko != 1)=decide (ko≠1):=by rw [bS];simp
    go_wp2_with fail
    have hS:aE w [Value.string b.name,.slice bh.A1 b.regions.length bh.c1,.slice bh.A2 b.outl.length bh.c2,.slice bh.A3 b.types.length bh.c3,.slice bh.A4 b.locals.length bh.c4,.int .i64 b.args,.slice bh.A5 b.blocks.length bh.c5,.pointer (some ⟨r,0,none⟩)] [Value.int .i64 1,.slice A t.targets.length c,.slice (some ⟨bb,oo,none⟩) t.args.length d,.int .i64 t.place.loc,.slice C t.place.proj.length f,.string t.name] w2.drew:=⟨HS2.out.1,HS2.out.2.1,HS2.out.2.2.drew⟩;refine cZ (S:=fun X=>aE w [Value.string b.name,.slice bh.A1 b.regions.length bh.c1,.slice bh.A2 b.outl.length bh.c2,.slice bh.A3 b.types.length bh.c3,.slice bh.A4 b.locals.length bh.c4,.int .i64 b.args,.slice bh.A5 b.blocks.length bh.c5,.pointer (some ⟨r,0,none⟩)] [Value.int .i64 1,.slice A t.targets.length c,.slice (some ⟨bb,oo,none⟩) t.args.length d,.int .i64 t.place.loc,.slice C t.place.proj.length f,.string t.name] X) [0,1,2,3,4,5,6,7,8] (by kernel_rfl) ?_;(iterate 5 (refine cY (v:=?_) ?_ hS ?_;rotate_left;(next=>(rintro X ⟨hX,hY,hZ⟩;obtain ⟨s0,s1,s2,s3,s4,s5,s6,s7⟩:=aV hX;have v2:=hY 2 _ rfl;have p0:=cQ hZ P0.out;have p1:=cQ hZ P1.out;have p2:=cQ hZ P2.out;have p3:=cQ hZ P3.out;(try simp only [aK]);go_simp;rfl));simp only [aO]));(refine cX (fun K1 hK1=>?_);simp only [aO];rw [bD (by rfl)];go_simp);refine (HK2.out _ hS.2.2).mono ?_;rintro e' w3 ⟨rfl,hb⟩;replace hS:=bM (cV hS.1 hb) (bM (cV hS.2.1 hb) (hS.2.2.trans (hb.mono hS.2.2.size)));clear hb;refine hK1.out _ _ (fun _=>hS) ?_;clear hK1;((refine cY (v:=?_) ?_ hS ?_;rotate_left;(next=>(rintro X -;(try simp only [aK]);go_simp;rfl));simp only [aO]))
    try rw [eko]
    (refine cX (fun K1 hK1=>?_);simp only [aO];rw [bD (by rfl)];go_simp);refine (dX _ _).mono ?_;rintro e' w4 ⟨rfl,hw⟩;obtain rfl:=hw.symm;refine hK1.out _ _ (fun _=>hS) ?_;clear hK1;((refine cY (v:=?_) ?_ hS ?_;rotate_left;(next=>(rintro X -;(try simp only [aK]);go_simp;rfl));simp only [aO]))
    refine dI ?_;have HS3:=aH hS.2.2;clear hS;go_wp2_with fail
    go_ret;exact ⟨by rw [HF3.out];first | rfl | (rw [<- eko];rfl),HS3.out⟩
   ·have HF3:Hid (R=eo):=aH (by rw [HF2.out,<- HQ.out];simp [heo]);have e9:(eo != 0)=true:=by simp [heo]
    clear heo;go_wp2_with fail
    go_ret;exact ⟨by rw [HF3.out];rfl,HS2.out.2.2⟩
theorem tV {b:Bdy} {bh:BH} {r:Nat} {w:World} (H:Ck w b bh r) (t:Trm) (A B C:Option Addr) (c d f:Nat) (ht:Slc 1 RInt w A c t.targets) (hl:Slc 4 ROp w B d t.args) (hp:Slc 2 RPj w C f t.place.proj) (hk:t.kind=4) (hfd:fieldsT t=true):
 Calls Tryz.prog 81 #[.agg (ckC b bh r).toArray,.agg (tmC t A c B d C f).toArray] w fun e' w'=>e' = .returned (.int .i64 (tmE b t))/\Below w.heap.size w w':=by
 have HFD:=aH (fun W=>fF t A B C c d f W);have HH:=aH H;have HTG:=aH ht;have HL:=aH hl;have HP:=aH hp;have hle:=hl.le;have hbig:=hl.big;have hle2:=ht.le;have hbig2:=ht.big;have hblkl:=H.at_.blk.le;have hblkb:=H.at_.blk.big;obtain ⟨R,hR⟩:∃R,tmE b t=R:=⟨_,rfl⟩;rw [hR];have HR:=aH hR;clear hR H ht hl hp;obtain ⟨Q,hQ⟩:∃Q,(if (tyB b t.place).2≠0 then (tyB b t.place).2 else fail22 (hasD t.place.proj 0))=Q:=⟨_,rfl⟩;have HQ:=aH hQ
 have HF:Hid (R=if t.targets.all (fun k=>decide (0<=k/\k<(b.blocks.length:Int)))=true then Q else 3):=aH (by
  rw [<- HR.out,tmE,bB (by omega),bB (by rw [hfd];simp)];rw [<- HQ.out];cases t.targets.all (fun k=>decide (0<=k/\k<(b.blocks.length:Int)))
  ·simp
  ·simp [hk])
 rw [hfd] at HFD;have HTT:=aH (fun (W:World) (hb:Below w.heap.size w W)=>eI b bh r t.place C f W (HH.out.keep hb).at_ (HP.out.keep RPj.keeps hb) HH.out.ok.okay);have HHD:=aH (fun (W:World) (hb:Below w.heap.size w W)=>kF t.place 0 C f W (HP.out.keep RPj.keeps hb));generalize hasD t.place.proj 0=hdd at HHD hQ HQ;generalize tyB b t.place=q at HTT hQ HQ;obtain ⟨ti,te⟩:=q;simp only at hQ HQ HTT;have HQF:Hid (Q=firstE [te,fail22 hdd]):=aH (by rw [<- HQ.out];simp only [firstE];by_cases h:te=0 <;> simp [h]);clear HR hQ hfd;unfold ckC at *;unfold tmC at *;rw [hk] at HFD ⊢;go_enter Tryz.func81,Tryz.ntmps81
 go_wp2_with (go_at_call 120;refine (HFD.out _).mono ?_;rintro e' w1 ⟨rfl,hb1⟩;have HB:=aH ((bel2 _ _ _).trans (hb1.mono (bel2 _ _ _).size));obtain ⟨y,z⟩:=dD hb1;have HY:=aH y;have HZ:=aH z;obtain ⟨y0,y1,y2,y3,y4,y5,y6,y7⟩:=aV HY.out;obtain ⟨z0,z1,z2,z3,z4,z5⟩:=aT HZ.out;clear y z hb1)
 all_goals try (exfalso;omega)
 go_loop [27] (fun v=>∃k:Nat,k<=t.targets.length/\v = .int .i64 k/\Hid (R=if (t.targets.drop k).all (fun k=>decide (0<=k/\k<(b.blocks.length:Int)))=true then Q else 3)) (fun v=>t.targets.length - (intOf v).toNat)
 case atStart=>exact ⟨0,by omega,rfl,HF⟩
 case round=>
  clear HF;obtain ⟨k,hk2,rfl,hr⟩:=hrel;by_cases hlt:k<t.targets.length
  ·have hd:=dA hlt;obtain ⟨b5,o5,rfl,hb5,hx⟩:=HTG.out.sl.at_ hlt;obtain ⟨x,hxx⟩:∃x,t.targets[k]=x:=⟨_,rfl⟩;rw [hxx] at hd hx;have x0:w1.cell? ⟨b5,o5+k,none⟩=some (.int .i64 x):=cQ HB.out (by simpa [RInt] using hx);by_cases hin:0<=x/\x<(b.blocks.length:Int)
   ·have HF2:Hid (R=if (t.targets.drop (k+1)).all (fun k=>decide (0<=k/\k<(b.blocks.length:Int)))=true then Q else 3):=aH (by rw [hr.out,hd,cD];simp [hin]);have e1:¬x<0:=(by omega);have e2:¬(b.blocks.length:Int)<=x:=(by omega);clear hd hx hxx hr hin;go_wp2_with fail
    all_goals try (exfalso;omega)
    go_round
    case rel=>exact ⟨k+1,by omega,by go_num,HF2⟩
    case measure=>simp [intOf];omega
   ·have HF2:Hid (R=3):=aH (by rw [hr.out,hd,cD];simp;intro h1 h2;exact absurd ⟨h1,h2⟩ hin);clear hd hx hxx hr;go_wp2_with fail
    all_goals first
     | (exfalso;omega)
     | (go_ret;exact ⟨by rw [HF2.out];rfl,HB.out⟩)
  ·have HF2:Hid (R=Q):=aH (by rw [hr.out,bG (by omega:t.targets.length<=k)];rfl);clear hr;go_wp2_with (first | (go_at_call 125;refine (HTT.out _ HB.out).mono ?_;rintro e' w2 ⟨rfl,hb⟩;have HB2:=aH (HB.out.trans (hb.mono HB.out.size));have HY2:=aH (cV HY.out hb);have HZ2:=aH (cV HZ.out hb);clear y0 y1 y2 y3 y4 y5 y6 y7 z0 z1 z2 z3 z4 z5;obtain ⟨y0,y1,y2,y3,y4,y5,y6,y7⟩:=aV HY2.out;obtain ⟨z0,z1,z2,z3,z4,z5⟩:=aT HZ2.out;clear hb) | (go_at_call 95;refine (HHD.out _ HB2.out).mono ?_;rintro e' w3 ⟨rfl,hb⟩;have HB3:=aH (HB2.out.trans (hb.mono HB2.out.size));have HY3:=aH (cV HY2.out hb);have HZ3:=aH (cV HZ2.out hb);clear y0 y1 y2 y3 y4 y5 y6 y7 z0 z1 z2 z3 z4 z5;obtain ⟨y0,y1,y2,y3,y4,y5,y6,y7⟩:=aV HY3.out;obtain ⟨z0,z1,z2,z3,z4,z5⟩:=aT HZ3.out;clear hb) | (go_at_call 122;refine (dX _ _).mono ?_;rintro e' w4 ⟨rfl,hw⟩;obtain rfl:=hw.symm) | (go_at_call 112;refine (fE [te,fail22 hdd] _ 2 _ (oE _ _ _ _ _ rfl)).mono ?_;rintro e' w5 ⟨rfl,hw⟩;obtain rfl:=hw.symm))
   go_ret;exact ⟨by rw [HF2.out,HQF.out];rfl,HB3.out.alloc HB3.out.size _⟩
theorem yE {b:Bdy} {bh:BH} {r:Nat} {w:World} (H:Ck w b bh r) (t:Trm) (A B C:Option Addr) (c d f:Nat) (ht:Slc 1 RInt w A c t.targets) (hl:Slc 4 ROp w B d t.args) (hp:Slc 2 RPj w C f t.place.proj) (hk:t.kind=0\/t.kind=2\/t.kind=5) (hfd:fieldsT t=true):
 Calls Tryz.prog 81 #[.agg (ckC b bh r).toArray,.agg (tmC t A c B d C f).toArray] w fun e' w'=>e' = .returned (.int .i64 (tmE b t))/\Below w.heap.size w w':=by
 have HFD:=aH (fun W=>fF t A B C c d f W);have HH:=aH H;have HTG:=aH ht;have HL:=aH hl;have HP:=aH hp;have hle:=hl.le;have hbig:=hl.big;have hle2:=ht.le;have hbig2:=ht.big;have hblkl:=H.at_.blk.le;have hblkb:=H.at_.blk.big;obtain ⟨R,hR⟩:∃R,tmE b t=R:=⟨_,rfl⟩;rw [hR];have HR:=aH hR;clear hR H ht hl hp;obtain ⟨Q,hQ⟩:∃Q,((0:Int))=Q:=⟨_,rfl⟩;have HQ:=aH hQ
 have HF:Hid (R=if t.targets.all (fun k=>decide (0<=k/\k<(b.blocks.length:Int)))=true then Q else 3):=aH (by
  rw [<- HR.out,tmE,bB (by omega),bB (by rw [hfd];simp)];rw [<- HQ.out];cases t.targets.all (fun k=>decide (0<=k/\k<(b.blocks.length:Int)))
  ·simp
  ·simp [show t.kind≠1 by omega,show t.kind≠3 by omega,show t.kind≠4 by omega])
 rw [hfd] at HFD;clear HR hQ hfd;unfold ckC at *;unfold tmC at *;have k1:(t.kind == 1)=false:=by simp;omega
 have k3:(t.kind == 3)=false:=by simp;omega
 have k4:(t.kind == 4)=false:=by simp;omega
 go_enter Tryz.func81,Tryz.ntmps81
 go_wp2_with (go_at_call 120;refine (HFD.out _).mono ?_;rintro e' w1 ⟨rfl,hb1⟩;have HB:=aH ((bel2 _ _ _).trans (hb1.mono (bel2 _ _ _).size));obtain ⟨y,z⟩:=dD hb1;have HY:=aH y;have HZ:=aH z;obtain ⟨y0,y1,y2,y3,y4,y5,y6,y7⟩:=aV HY.out;obtain ⟨z0,z1,z2,z3,z4,z5⟩:=aT HZ.out;clear y z hb1)
 all_goals try (exfalso;omega)
 go_loop [27] (fun v=>∃k:Nat,k<=t.targets.length/\v = .int .i64 k/\Hid (R=if (t.targets.drop k).all (fun k=>decide (0<=k/\k<(b.blocks.length:Int)))=true then Q else 3)) (fun v=>t.targets.length - (intOf v).toNat)
 case atStart=>exact ⟨0,by omega,rfl,HF⟩
 case round=>
  clear HF;obtain ⟨k,hk2,rfl,hr⟩:=hrel;by_cases hlt:k<t.targets.length
  ·have hd:=dA hlt;obtain ⟨b5,o5,rfl,hb5,hx⟩:=HTG.out.sl.at_ hlt;obtain ⟨x,hxx⟩:∃x,t.targets[k]=x:=⟨_,rfl⟩;rw [hxx] at hd hx;have x0:w1.cell? ⟨b5,o5+k,none⟩=some (.int .i64 x):=cQ HB.out (by simpa [RInt] using hx);by_cases hin:0<=x/\x<(b.blocks.length:Int)
   ·have HF2:Hid (R=if (t.targets.drop (k+1)).all (fun k=>decide (0<=k/\k<(b.blocks.length:Int)))=true then Q else 3):=aH (by rw [hr.out,hd,cD];simp [hin]);have e1:¬x<0:=(by omega);have e2:¬(b.blocks.length:Int)<=x:=(by omega);clear hd hx hxx hr hin;go_wp2_with fail
    all_goals try (exfalso;omega)
    go_round
    case rel=>exact ⟨k+1,by omega,by go_num,HF2⟩
    case measure=>simp [intOf];omega
   ·have HF2:Hid (R=3):=aH (by rw [hr.out,hd,cD];simp;intro h1 h2;exact absurd ⟨h1,h2⟩ hin);clear hd hx hxx hr;go_wp2_with fail
    all_goals first
     | (exfalso;omega)
     | (go_ret;exact ⟨by rw [HF2.out];rfl,HB.out⟩)
  ·have HF2:Hid (R=Q):=aH (by rw [hr.out,bG (by omega:t.targets.length<=k)];rfl);clear hr;go_wp2_with fail
   go_ret;exact ⟨by rw [HF2.out,<- HQ.out];rfl,HB.out⟩
theorem yF {b:Bdy} {bh:BH} {r:Nat} {w:World} (H:Ck w b bh r) (t:Trm) (A B C:Option Addr) (c d f:Nat) (ht:Slc 1 RInt w A c t.targets) (hl:Slc 4 ROp w B d t.args) (hp:Slc 2 RPj w C f t.place.proj):
 Calls Tryz.prog 81 #[.agg (ckC b bh r).toArray,.agg (tmC t A c B d C f).toArray] w fun e' w'=>e' = .returned (.int .i64 (tmE b t))/\Below w.heap.size w w':=by
 by_cases h0:t.kind<0\/5<t.kind
 ·exact qT H t A B C c d f ht hl hp (Or.inl h0)
 obtain ⟨q,hq⟩:∃q,fieldsT t=q:=⟨_,rfl⟩;cases q
 ·exact qT H t A B C c d f ht hl hp (Or.inr ⟨h0,hq⟩)
 rcases (show t.kind=1\/t.kind=3\/t.kind=4\/(t.kind=0\/t.kind=2\/t.kind=5) by omega) with h | h | h | h
 ·exact xBY H t A B C c d f ht hl hp h hq
 ·exact tW H t A B C c d f ht hl hp h hq
 ·exact tV H t A B C c d f ht hl hp h hq
 ·exact yE H t A B C c d f ht hl hp h hq
theorem iH {k b:Nat} (hk:k≠b):∀(vs:List Value) (o:Nat) (w:World),(w.setCells b o vs).heap[k]?=w.heap[k]?
 | [],_,_=>rfl
 | v :: vs,o,w=>(iH hk vs (o+1) _).trans (bJ w ⟨b,o,none⟩ v k hk)
theorem hG (b:Nat):∀(vs:List Value) (o:Nat) (w:World),(w.setCells b o vs).heap.size=w.heap.size
 | [],_,_=>rfl
 | v :: vs,o,w=>(hG b vs (o+1) _).trans (by simp)
theorem zM (b:Bdy) (bh:BH) (w:World) (H:BdAt w b bh) (hok:DeclOk b):
 Calls Tryz.prog 79 #[.agg (bdC b bh).toArray] w fun e' w'=>∃r,e' = .returned (.agg (ckC b bh r).toArray)/\Ck w' b bh r/\Below w.heap.size w w':=by
 have HN:=aH (fun (W:World) (hb:Below w.heap.size w W)=>vM b.outl b.regions.length bh.A2 bh.c2 W (H.keep hb).out hok.outl (by have:=hok.nreg;omega));have HH:=aH H;have HO:=aH hok;clear H hok;unfold bdC ckC;go_enter Tryz.func79,Tryz.ntmps79
 go_wp2_with (go_at_call 82;refine (HN.out _ (bel2 _ _ _)).mono ?_;rintro e' w1 ⟨r0,M0,c0,F0,ba0,rfl,hrel,hr0,hM0,hb1⟩;have HB:=aH ((bel2 _ _ _).trans (hb1.mono (bel2 _ _ _).size));have HREL:=aH hrel;obtain ⟨y,z⟩:=dD hb1;obtain ⟨y0,y1,y2,y3,y4,y5,y6⟩:=aU y;have h8:w1.heap[w.heap.size+1]?=some (.cells #[.string ⟨#[]⟩,.slice none 0 0,.slice none 0 0,.slice none 0 0,.slice none 0 0,.int .i64 0,.slice none 0 0,.pointer none] 134):=(hb1.block _ (by simp)).trans (by rw [kK _ _ _ (by simp)]);have f8:∀i,w1.frozen? ⟨w.heap.size+1,i,none⟩=false:=(fun i=>(by unfold World.frozen?;simp only [h8];simp));obtain ⟨z0,z1,z2,z3,z4,z5,z6,z7⟩:=aV z;have H8:=aH h8;simp only [bK] at hr0 hM0;clear h8 y z hb1 hrel)
 generalize hW2:((((((((w1.setCell ⟨w.heap.size+1,0,none⟩ (Value.string b.name)).setCell ⟨w.heap.size+1,1,none⟩ (Value.slice bh.A1 b.regions.length bh.c1)).setCell ⟨w.heap.size+1,2,none⟩ (Value.slice bh.A2 b.outl.length bh.c2)).setCell ⟨w.heap.size+1,3,none⟩ (Value.slice bh.A3 b.types.length bh.c3)).setCell ⟨w.heap.size+1,4,none⟩ (Value.slice bh.A4 b.locals.length bh.c4)).setCell ⟨w.heap.size+1,5,none⟩ (Value.int IntKind.i64 b.args)).setCell ⟨w.heap.size+1,6,none⟩ (Value.slice bh.A5 b.blocks.length bh.c5)).setCell ⟨w.heap.size+1,7,none⟩ (Value.pointer (some ⟨r0,0,none⟩)))=W2;have hW:w1.setCells (w.heap.size+1) 0 (ckC b bh r0)=W2:=hW2
 have hth:w1.there (w.heap.size+1) 0 8:=fun j hj=>⟨by
  rw [Nat.zero_add];match j,hj with
  | 0,_=>rw [z0];rfl
  | 1,_=>rw [z1];rfl
  | 2,_=>rw [z2];rfl
  | 3,_=>rw [z3];rfl
  | 4,_=>rw [z4];rfl
  | 5,_=>rw [z5];rfl
  | 6,_=>rw [z6];rfl
  | 7,_=>rw [z7];rfl,f8 _⟩
 have hcl:=World.rangeAt_setCells_same w1 (w.heap.size+1) 0 (ckC b bh r0) hth;have hbo:∀k,k≠w.heap.size+1->W2.heap[k]?=w1.heap[k]?:=fun k hk=>by rw [<- hW];exact iH hk _ _ _
 have hsz:W2.heap.size=w1.heap.size:=by rw [<- hW];exact hG _ _ _ _
 have hGI:=HREL.out.but (lo:=w.heap.size+2) hr0 hM0 (w':=W2) (fun k h1 _=>hbo k (by omega)) (by omega);have hBL:Below w.heap.size w W2:=by rw [<- hW];exact dM (Nat.le_succ _) _ _ _ HB.out
 rw [hW] at hcl;have v0:=hcl 0 _ rfl;have v1:=hcl 1 _ rfl;have v2:=hcl 2 _ rfl;have v3:=hcl 3 _ rfl;have v4:=hcl 4 _ rfl;have v5:=hcl 5 _ rfl;have v6:=hcl 6 _ rfl;have v7:=hcl 7 _ rfl;simp only [Nat.zero_add] at v0 v1 v2 v3 v4 v5 v6 v7;have HCK:=aH (show Ck W2 b bh r0 from ⟨HH.out.keep hBL,HO.out,hGI.rel3⟩);have HBL:=aH hBL;clear hGI hbo hcl hth hW hW2 hsz hBL HREL HH HO f8 z0 z1 z2 z3 z4 z5 z6 z7;exact bodyPost_ret (v:= .agg (ckC b bh r0).toArray) (by simp [results,Tryz.results79,go_sem,v0,v1,v2,v3,v4,v5,v6,v7];rfl) rfl ⟨r0,rfl,HCK.out,HBL.out⟩
theorem mE (b:Bdy) (bh:BH) (w:World) (H:BdAt w b bh) (hT:TabsOk w):
 Calls Tryz.prog 60 #[.agg (bdC b bh).toArray] w fun e' w'=>e' = .returned (.int .i64 (chkB b))/\Below w.heap.size w w':=by
 have HD:=aH (fun (W:World) (hb:Below w.heap.size w W)=>xAM b bh W (H.keep hb));have HN:=aH (fun (W:World) (hb:Below w.heap.size w W) (h:declC b=0)=>zM b bh W (H.keep hb) (fG h));have HH:=aH H;have HT:=aH hT;have hbl:=H.blk.le;have hbg:=H.blk.big;obtain ⟨R,hR⟩:∃R,chkB b=R:=⟨_,rfl⟩;rw [hR];have HR:Hid (R=if declC b=0 then bksE b b.blocks else declC b):=aH hR.symm;have HOK:=aH (fun h=>fG (b:=b) h);clear hR H hT;unfold bdC at *;by_cases hd:declC b=0
 case neg=>
  have HF:Hid (R=declC b):=aH (by rw [HR.out,bB hd]);generalize declC b=de at HD HF hd;have e1:(de != 0)=true:=by simp [hd]
  clear HR HN HOK hd;go_enter Tryz.func60,Tryz.ntmps60
  go_wp2_with fail
  go_step3
  go_wp2_with (go_at_call 78;refine (HD.out _ ((aZ _ _).alloc (bA _) _)).mono ?_;rintro e' w1 ⟨rfl,hb1⟩;have HB:=aH (((aZ _ _).alloc (bA _) _).trans (hb1.mono ((aZ _ _).alloc (bA _) _).size));have HY1:=aH (cV (cT w [Value.string b.name,.slice bh.A1 b.regions.length bh.c1,.slice bh.A2 b.outl.length bh.c2,.slice bh.A3 b.types.length bh.c3,.slice bh.A4 b.locals.length bh.c4,.int .i64 b.args,.slice bh.A5 b.blocks.length bh.c5] 59) hb1);obtain ⟨y0,y1,y2,y3,y4,y5,y6⟩:=aU HY1.out;clear hb1)
  rw [Exit.noGoto_ret];go_ret;exact ⟨by rw [HF.out];rfl,HB.out⟩
 case pos=>
 have HF:Hid (R=bksE b b.blocks):=aH (by rw [HR.out,bD hd]);rw [hd] at HD;have HDOK:=aH (HOK.out hd);clear HR HOK;unfold ckC at HN;go_enter Tryz.func60,Tryz.ntmps60
 go_wp2_with fail
 go_step3
 go_wp2_with (first | (go_at_call 78;refine (HD.out _ ((aZ _ _).alloc (bA _) _)).mono ?_;rintro e' w1 ⟨rfl,hb1⟩;have HB:=aH (((aZ _ _).alloc (bA _) _).trans (hb1.mono ((aZ _ _).alloc (bA _) _).size));have HY1:=aH (cV (cT w [Value.string b.name,.slice bh.A1 b.regions.length bh.c1,.slice bh.A2 b.outl.length bh.c2,.slice bh.A3 b.types.length bh.c3,.slice bh.A4 b.locals.length bh.c4,.int .i64 b.args,.slice bh.A5 b.blocks.length bh.c5] 59) hb1);obtain ⟨y0,y1,y2,y3,y4,y5,y6⟩:=aU HY1.out;clear hb1) | (go_at_call 79;refine (HN.out _ HB.out hd).mono ?_;rintro e' w2 ⟨r,rfl,hck,hb2⟩;have HCK2:=aH hck;have HB2:=aH (HB.out.trans (hb2.mono HB.out.size));have HY2:=aH (cV HY1.out hb2);clear y0 y1 y2 y3 y4 y5 y6;obtain ⟨y0,y1,y2,y3,y4,y5,y6⟩:=aU HY2.out;have hsz2:w.heap.size<w2.heap.size:=bP (by have:=HB.out.size;have h9:=cF _ _ (HY1.out 0 _ rfl);exact h9) hb2.size;clear hck hb2))
 go_step3
 go_wp2_with fail
 have HSM:=aH (fun (W:World) (hb:Below w2.heap.size w2 W) (s:Stm) (A0 A B:Option Addr) (c0 c d:Nat) (hp0:Slc 2 RPj w2 A0 c0 s.place.proj) (hp:Slc 2 RPj w2 A c s.rv.place.proj) (hl:Slc 4 ROp w2 B d s.rv.args)=>yN (HCK2.out.keep hb) ((HT.out.keep HB2.out).keep hb) s A0 A B c0 c d (hp0.keep RPj.keeps hb) (hp.keep RPj.keeps hb) (hl.keep ROp.keeps hb));have HTM:=aH (fun (W:World) (hb:Below w2.heap.size w2 W) (t:Trm) (A B C:Option Addr) (c d f:Nat) (ht:Slc 1 RInt w2 A c t.targets) (hl:Slc 4 ROp w2 B d t.args) (hp:Slc 2 RPj w2 C f t.place.proj)=>yF (HCK2.out.keep hb) t A B C c d f (ht.keep RInt.keeps hb) (hl.keep ROp.keeps hb) (hp.keep RPj.keeps hb));have HBLK:=aH HCK2.out.at_.blk;have HCC:=aH (cT w2 (ckC b bh r) 134);unfold ckC at HSM HTM HCC;obtain ⟨bb,oo,hA5,hbb,hel⟩:=HBLK.out.sl HDOK.out.nblk.1;have HEL:=aH hel;clear hel;rw [hA5] at HSM HTM HCC ⊢;rw [hA5] at y6;clear y0 y1 y2 y3 y4 y5 y6 HD HN hd;go_loopg [3,19] b.blocks.length (fun gk e i wr=>∃k:Nat,gk=b.blocks.length - k/\k<=b.blocks.length/\e = .int .i64 0/\i = .int .i64 k/\Hid (aD (bdM b bh.A1 bh.c1 bh.A2 bh.c2 bh.A3 bh.c3 bh.A4 bh.c4 (some ⟨bb,oo,none⟩) bh.c5 [.pointer (some ⟨r,0,none⟩)]) wr w2.heap.size)/\Hid (Below w2.heap.size w2 wr)/\w2.heap.size+1<=wr.heap.size/\Hid (R=bksE b (b.blocks.drop k)))
 case atStart=>exact ⟨0,by omega,by omega,rfl,rfl,HCC,aH ((aZ _ _).alloc (bA _) _),by simp,HF⟩
 case round=>
  clear HCC HF;obtain ⟨k,hgk,hk,rfl,rfl,HCC,HB3,hsz3,hr⟩:=hrel;have hlw3:w2.heap.size<wr.heap.size:=hsz3;by_cases hlt:k<b.blocks.length
  ·have hd:=dA hlt;have hx:=HEL.out k _ (bF hlt);obtain ⟨x,hxx⟩:∃x,b.blocks[k]=x:=⟨_,rfl⟩;rw [hxx] at hd hx;obtain ⟨A1,c1,A2,c2,A3,c3,A4,c4,p0,p1,p2,p3,p4,p5,p6,hs1,hs2,hs3,hs4⟩:=eX hx;have HQ:Hid (R=if bkE b x=0 then bksE b (b.blocks.drop (k+1)) else bkE b x):=aH (by rw [hr.out,hd,bksE]);have HS1:=aH hs1;have hl1:=hs1.le;have hg1:=hs1.big;have HTT:=aH (fun W hb=>HTM.out W hb x.term A2 A3 A4 c2 c3 c4 hs2 hs3 hs4);unfold tmC at HTT;replace p0:=cQ HB3.out p0;replace p1:=cQ HB3.out p1;replace p2:=cQ HB3.out p2;replace p3:=cQ HB3.out p3;replace p4:=cQ HB3.out p4;replace p5:=cQ HB3.out p5;replace p6:=cQ HB3.out p6;clear hd hx hxx hr hs1 hs2 hs3 hs4;by_cases hln:65535<x.stmts.length
   ·have HF:Hid (R=15):=aH (by rw [HQ.out];unfold bkE;rw [bD hln];rfl);clear HQ;go_wp2_with fail
    rw [Exit.noGoto_ret];go_ret;exact ⟨by rw [HF.out];rfl,(HB2.out.trans (HB3.out.mono HB2.out.size)).alloc (cA HB2.out.size HB3.out.size) _⟩
   have HQ2:Hid (R=if stsE b (x.stmts.drop 0)=0 then (if tmE b x.term=0 then bksE b (b.blocks.drop (k+1)) else tmE b x.term) else stsE b (x.stmts.drop 0)):=aH (by
    rw [HQ.out,bZ];unfold bkE;rw [bB hln]
    by_cases h:stsE b x.stmts=0 <;> simp [h])
   have HBK:=aH (cT wr (bkL x A1 c1 A2 c2 A3 c3 A4 c4) 116);have HCC2:Hid (∀i v,[Value.string b.name,.slice bh.A1 b.regions.length bh.c1,.slice bh.A2 b.outl.length bh.c2,.slice bh.A3 b.types.length bh.c3,.slice bh.A4 b.locals.length bh.c4,.int .i64 b.args,.slice (some ⟨bb,oo,none⟩) b.blocks.length bh.c5,.pointer (some ⟨r,0,none⟩)][i]?=some v->(wr.alloc (.cells (bkL x A1 c1 A2 c2 A3 c3 A4 c4).toArray 116)).cell? ⟨w2.heap.size,i,none⟩=some v):=aH (fun i v hi=>cQ ((aZ _ _).alloc (bA _) _) (HCC.out i v hi));have HB4:=aH (HB3.out.alloc (Nat.le_of_lt hlw3) (.cells (bkL x A1 c1 A2 c2 A3 c3 A4 c4).toArray 116));clear HQ;go_wp2_with fail
   go_loopg [3,30] x.stmts.length (fun gj e i wr2=>∃j:Nat,gj=x.stmts.length - j/\j<=x.stmts.length/\e = .int .i64 0/\i = .int .i64 j/\Hid (aD (bdM b bh.A1 bh.c1 bh.A2 bh.c2 bh.A3 bh.c3 bh.A4 bh.c4 (some ⟨bb,oo,none⟩) bh.c5 [.pointer (some ⟨r,0,none⟩)]) wr2 w2.heap.size)/\Hid (aD (bkL x A1 c1 A2 c2 A3 c3 A4 c4) wr2 wr.heap.size)/\Hid (Below w2.heap.size w2 wr2)/\wr.heap.size+1<=wr2.heap.size/\Hid (R=if stsE b (x.stmts.drop j)=0 then (if tmE b x.term=0 then bksE b (b.blocks.drop (k+1)) else tmE b x.term) else stsE b (x.stmts.drop j)))
   case atStart=>exact ⟨0,by omega,by omega,rfl,rfl,HCC2,HBK,HB4,by simp,HQ2⟩
   case round=>
    clear HCC2 HBK HB4 HQ2 p0 p1 p2 p3 p4 p5 p6 HCC HB3;obtain ⟨j,hgj,hj,rfl,rfl,HCC,HBK,HB5,hsz5,hr⟩:=hrel;have hlw5:=Nat.lt_of_succ_le hsz5;have hlw6:=Nat.lt_trans hlw3 hlw5;obtain ⟨v0,v1,v2,v3,v4,v5,v6,v7⟩:=aV HCC.out;by_cases hjl:j<x.stmts.length
    ·have hd:=dA hjl;obtain ⟨b3,o3,rfl,hb3,hy⟩:=HS1.out.sl.at_ hjl;obtain ⟨s,hss⟩:∃s,x.stmts[j]=s:=⟨_,rfl⟩;rw [hss] at hd hy;obtain ⟨B0,d0,B1,d1,B2,d2,m0,m1,m2,m3,m4,m5,m6,m7,m8,m9,m10,hp0,hp,hl⟩:=iM hy;have HSS:=aH (fun W hb=>HSM.out W hb s B0 B1 B2 d0 d1 d2 hp0 hp hl);unfold stC at HSS;replace m0:=cQ HB5.out m0;replace m1:=cQ HB5.out m1;replace m2:=cQ HB5.out m2;replace m3:=cQ HB5.out m3;replace m4:=cQ HB5.out m4;replace m5:=cQ HB5.out m5;replace m6:=cQ HB5.out m6;replace m7:=cQ HB5.out m7;replace m8:=cQ HB5.out m8;replace m9:=cQ HB5.out m9;replace m10:=cQ HB5.out m10
     have HQ3:Hid ((stE b s=0->R=if stsE b (x.stmts.drop (j+1))=0 then (if tmE b x.term=0 then bksE b (b.blocks.drop (k+1)) else tmE b x.term) else stsE b (x.stmts.drop (j+1)))/\(stE b s≠0->R=stE b s)):=aH (by
      rw [hr.out,hd];constructor
      ·intro h;rw [show stsE b (s :: x.stmts.drop (j+1))=stsE b (x.stmts.drop (j+1)) from by rw [stsE,bD h]]
      ·intro h;rw [show stsE b (s :: x.stmts.drop (j+1))=stE b s from by rw [stsE,bB h],bB h])
     have HB6:=aH (HB5.out.alloc (Nat.le_of_lt hlw6) (.cells (stC s B0 d0 B1 d1 B2 d2).toArray 111));generalize stE b s=es at HSS HQ3;clear hd hy hss hp0 hp hl hr;by_cases he:es=0
     ·subst he;have HF:=aH (HQ3.out.1 rfl);clear HQ3;go_wp2_with (go_at_call 80;refine (HSS.out _ HB6.out).mono ?_;rintro e' w5 ⟨rfl,hb5⟩;have HB7:=aH (HB6.out.trans (hb5.mono HB6.out.size));have HC7:=aH (eT HCC.out hb5);have HK7:=aH (eT HBK.out hb5);have hsz7:=hb5.size;simp only [bK] at hsz7;clear hb5)
      go_roundg (x.stmts.length - (j+1))
      case measure=>omega
      case rel=>exact ⟨j+1,rfl,by omega,rfl,by go_num,HC7,HK7,HB7,by omega,HF⟩
     ·have HF:=aH (HQ3.out.2 he);have e1:(es != 0)=true:=by simp [he]
      clear HQ3 he;go_wp2_with (go_at_call 80;refine (HSS.out _ HB6.out).mono ?_;rintro e' w5 ⟨rfl,hb5⟩;have HB7:=aH (HB6.out.trans (hb5.mono HB6.out.size));clear hb5)
      rw [Exit.noGoto_ret];go_ret;exact ⟨by rw [HF.out];rfl,HB2.out.trans (HB7.out.mono HB2.out.size)⟩
    ·have HQ3:Hid (R=if tmE b x.term=0 then bksE b (b.blocks.drop (k+1)) else tmE b x.term):=aH (by rw [hr.out,bG (by omega:x.stmts.length<=j)];rfl);obtain ⟨k0,k1,k2,k3,k4,k5,k6⟩:=aU HBK.out;generalize tmE b x.term=et at HTT HQ3;clear hr;by_cases he:et=0
     ·subst he;have HF:Hid (R=bksE b (b.blocks.drop (k+1))):=aH (by rw [HQ3.out];rfl);clear HQ3;go_wp2_with (go_at_call 81;refine (HTT.out _ HB5.out).mono ?_;rintro e' w5 ⟨rfl,hb5⟩;have HB7:=aH (HB5.out.trans (hb5.mono HB5.out.size));have HC7:=aH (cV HCC.out hb5);have hsz7:=hb5.size;clear hb5)
      go_roundg (b.blocks.length - (k+1))
      case measure=>omega
      case rel=>exact ⟨k+1,rfl,by omega,rfl,by go_num,HC7,HB7,by omega,HF⟩
     ·have HF:Hid (R=et):=aH (by rw [HQ3.out,bB he]);have e1:(et == 0)=false:=by simp [he]
      clear HQ3 he;go_wp2_with (go_at_call 81;refine (HTT.out _ HB5.out).mono ?_;rintro e' w5 ⟨rfl,hb5⟩;have HB7:=aH (HB5.out.trans (hb5.mono HB5.out.size));clear hb5)
      rw [Exit.noGoto_ret];go_ret;exact ⟨by rw [HF.out];rfl,HB2.out.trans (HB7.out.mono HB2.out.size)⟩
  ·have HF:Hid (R=0):=aH (by rw [hr.out,bG (by omega:b.blocks.length<=k)];rfl);clear hr;go_wp2_with fail
   rw [Exit.noGoto_ret];go_ret;exact ⟨by rw [HF.out];rfl,HB2.out.trans (HB3.out.mono HB2.out.size)⟩
end
section
open Go Go.RowKit
structure ShortB (b:Bdy):Prop where
 outl:b.outl.length<=65535
 regs:b.regions.length<=65535
 typs:b.types.length<=65535
 locs:b.locals.length<=65535
 blks:∀x∈b.blocks,x.stmts.length<=65535/\x.term.targets.length<=2/\x.term.place.proj.length<=32/\∀s∈x.stmts,s.place.proj.length<=32/\s.rv.place.proj.length<=32
def tyZ (l:List Ty):Nat:=(l.map (fun t=>1+min t.flds.length 9000)).sum
def xEP (b:Bdy):Nat:=szN b.name+b.outl.length+sumN b.regions+tyZ b.types+sumN (b.locals.map (·.name))+sumN (b.blocks.map (·.term.name))
def z1 (b:Bdy) (k:Nat):Nat:=szN b.name+b.outl.length+sumN (b.regions.take k)
def z2 (b:Bdy) (k:Nat):Nat:=z1 b b.regions.length+tyZ (b.types.take k)
def z3 (b:Bdy) (k:Nat):Nat:=z2 b b.types.length+sumN ((b.locals.take k).map (·.name))
def z4 (b:Bdy) (k:Nat):Nat:=z3 b b.locals.length+sumN ((b.blocks.take k).map (·.term.name))
theorem kJ {b:Bdy} (h:chkB b=0):declC b=0:=by
 unfold chkB at h;by_cases h0:declC b=0
 ·exact h0
 ·rw [bB h0] at h;exact absurd h h0
theorem nV {b:Bdy}:∀{l:List Blk},bksE b l=0->∀x∈l,bkE b x=0
 | [],_=>by simp
 | y :: r,h=>by
   rw [bksE] at h;by_cases he:bkE b y=0
   ·rw [bD he] at h;intro x hx;rcases List.mem_cons.1 hx with rfl | hx
    ·exact he
    ·exact nV h x hx
   ·rw [bB he] at h;exact absurd h he
theorem nE {b:Bdy}:∀{l:List Stm},stsE b l=0->∀x∈l,stE b x=0
 | [],_=>by simp
 | y :: r,h=>by
   rw [stsE] at h;by_cases he:stE b y=0
   ·rw [bD he] at h;intro x hx;rcases List.mem_cons.1 hx with rfl | hx
    ·exact he
    ·exact nE h x hx
   ·rw [bB he] at h;exact absurd h he
theorem nW {b:Bdy} {x:Blk} (h:bkE b x=0):x.stmts.length<=65535/\stsE b x.stmts=0/\tmE b x.term=0:=by
 unfold bkE at h;by_cases h1:65535<x.stmts.length
 ·rw [bD h1] at h;cases h
 rw [bB h1] at h;by_cases h2:stsE b x.stmts=0
 ·rw [bB (by simp [h2])] at h;exact ⟨by omega,h2,h⟩
 ·rw [bD h2] at h;exact absurd h h2
theorem pO {b:Bdy} {p:Plc} (h:(tyB b p).2=0):p.proj.length<=32:=by
 have hc:=(oD h).1;unfold chk at hc;by_cases h1:p.loc<0
 ·rw [bD h1] at hc;cases hc
 rw [bB h1] at hc;by_cases h2:32<p.proj.length
 ·rw [bD h2] at hc;cases hc
 ·omega
theorem eU {p:Plc} (h:zeroP p=true):p.proj.length<=32:=by
 unfold zeroP at h;simp only [bR,decide_eq_true_eq] at h;omega
theorem nX {b:Bdy} {p:Plc} (h:writE b p=0):p.proj.length<=32:=by
 unfold writE at h;by_cases h1:(tyB b p).2≠0
 ·rw [bD h1] at h;exact absurd h h1
 ·exact pO (by simpa using h1)
theorem xCJ {b:Bdy} {r:Rvl} {t:Int} (h:rvE b r t=0):r.place.proj.length<=32:=by
 unfold rvE at h;by_cases h0:r.kind<0\/4<r.kind
 ·rw [bD h0] at h;cases h
 rw [bB h0] at h;by_cases h1:unusedR r=false
 ·rw [bD h1] at h;cases h
 rw [bB h1] at h;by_cases hk:r.kind=1
 ·rw [bB (by omega),bD hk] at h;unfold borE at h;by_cases h2:(tyB b r.place).2≠0
  ·rw [bD h2] at h;exact absurd h h2
  ·exact pO (by simpa using h2)
 ·have h2:unusedR r=true:=by simpa using h1
  unfold unusedR at h2;refine eU ?_;by_cases k0:r.kind=0
  ·rw [bD k0] at h2;simp only [bR] at h2;exact h2.1.1.2
  rw [bB k0,bB hk] at h2;by_cases k2:r.kind=2
  ·rw [bD k2] at h2;simp only [bR] at h2;exact h2.1.2
  rw [bB k2] at h2;by_cases k3:r.kind=3
  ·rw [bD k3] at h2;simp only [bR] at h2;exact h2.1.2
  rw [bB k3] at h2;simp only [bR] at h2;exact h2.1.2
theorem mX {r:Rvl} (h:dT r=true):r.place.proj.length<=32:=by
 unfold dT at h;simp only [bR] at h;exact eU h.2
theorem xCD {b:Bdy} {s:Stm} (h:stE b s=0):s.place.proj.length<=32/\s.rv.place.proj.length<=32:=by
 unfold stE at h;by_cases k0:s.kind=0
 ·rw [bD k0] at h;by_cases h1:s.loc≠0
  ·rw [bD h1] at h;cases h
  rw [bB h1] at h;by_cases h2:writE b s.place≠0
  ·rw [bD h2] at h;exact absurd h h2
  rw [bB h2] at h;exact ⟨nX (by simpa using h2),xCJ h⟩
 rw [bB k0] at h;by_cases k1:s.kind=1
 ·rw [bD k1] at h;by_cases h1:zeroP s.place=false\/dT s.rv=false
  ·rw [bD h1] at h;cases h
  ·exact ⟨eU (by cases e:zeroP s.place <;> simp_all),mX (by cases e:dT s.rv <;> simp_all)⟩
 rw [bB k1] at h;by_cases k2:s.kind=2
 ·rw [bD k2] at h;by_cases h1:zeroP s.place=false\/dT s.rv=false\/s.loc≠0
  ·rw [bD h1] at h;cases h
  ·exact ⟨eU (by cases e:zeroP s.place <;> simp_all),mX (by cases e:dT s.rv <;> simp_all)⟩
 rw [bB k2] at h;cases h
theorem yC {b:Bdy} {t:Trm} (h:tmE b t=0):t.targets.length<=2/\t.place.proj.length<=32/\(t.kind=3->isIdent t.name=true):=by
 unfold tmE at h;by_cases h0:t.kind<0\/5<t.kind
 ·rw [bD h0] at h;cases h
 rw [bB h0] at h;by_cases h1:fieldsT t=false
 ·rw [bD h1] at h;cases h
 rw [bB h1] at h;have h2:fieldsT t=true:=by simpa using h1
 by_cases h3:t.targets.all (fun k=>decide (0<=k/\k<(b.blocks.length:Int)))=false
 ·rw [bD h3] at h;cases h
 rw [bB h3] at h;unfold fieldsT at h2;by_cases k3:t.kind=3
 ·rw [bB (by omega),bB (by omega),bD k3] at h2;rw [bB (by omega),bD k3] at h;simp only [decide_eq_true_eq] at h2;by_cases g1:isIdent t.name=false
  ·rw [bD g1] at h;cases h
  rw [bB g1] at h;by_cases g2:65535<t.args.length
  ·rw [bD g2] at h;cases h
  rw [bB g2] at h;by_cases g3:opsE b t.args []≠0
  ·rw [bD g3] at h;exact absurd h g3
  rw [bB g3] at h;exact ⟨by omega,nX h,fun _=>by simpa using g1⟩
 by_cases k4:t.kind=4
 ·rw [bB (by omega),bB (by omega),bB k3,bD k4] at h2;rw [bB (by omega),bB k3,bD k4] at h;simp only [bR,decide_eq_true_eq] at h2;by_cases g1:(tyB b t.place).2≠0
  ·rw [bD g1] at h;exact absurd h g1
  ·exact ⟨by omega,pO (by simpa using g1),fun h=>absurd h k3⟩
 refine ⟨?_,?_,fun h=>absurd h k3⟩
 all_goals
  by_cases k0:t.kind=0
  ·rw [bD k0] at h2;simp only [bR,decide_eq_true_eq] at h2;first | omega | exact eU h2.1.2
  ·rw [bB k0] at h2;by_cases k1:t.kind=1
   ·rw [bD k1] at h2;simp only [bR,decide_eq_true_eq] at h2;first | omega | exact eU h2.1.2
   ·rw [bB k1,bB k3,bB k4] at h2;simp only [bR,decide_eq_true_eq] at h2;first | omega | exact eU h2.1.2
theorem qM {b:Bdy} (h:chkB b=0):bksE b b.blocks=0:=by
 have hd:=kJ h;unfold chkB at h;rwa [bD hd] at h
theorem pH {b:Bdy} (h:chkB b=0):ShortB b:=by
 have D:=fG (kJ h);refine ⟨D.nout,D.nreg,D.ntyp,D.nloc,fun x hx=>?_⟩;obtain ⟨h1,h2,h3⟩:=nW (nV (qM h) x hx);obtain ⟨t1,t2,-⟩:=yC h3;exact ⟨h1,t1,t2,fun s hs=>xCD (nE h2 s hs)⟩
end
section
open Go Go.RowKit
theorem yO {b:Bdy} {s:Stm} (h:stE b s=0) (hk:s.kind≠0):s.rv.args=[]/\s.rv.kind=0:=by
 have hb:dT s.rv=true:=by
  unfold stE at h;rw [bB hk] at h;split at h
  ·split at h
   ·cases h
   ·rename_i h1;cases e:dT s.rv <;> simp_all
  ·split at h
   ·split at h
    ·cases h
    ·rename_i h1;cases e:dT s.rv <;> simp_all
   ·cases h
 unfold dT at hb;simp only [bR,decide_eq_true_eq] at hb;exact ⟨List.length_eq_zero_iff.1 hb.1.1.1.2,hb.1.1.1.1.1⟩
theorem xFF {b:Bdy} {x:Blk} {k:Nat} (h:∀s∈x.stmts,stE b s=0):acG x k=acB x k:=by
 have key:∀q:Plc × Bool × Bool,wrP x k=q->acG x k=rdL (iY x k) ++ acBor x k ++ ifA (q.2.1=true) ⟨q.1,true,false⟩:=fun q e=>by subst e;rfl
 unfold acB;cases e:x.stmts[k]? with
 | none=>
   have hw:wrP x k=(x.term.place,decide (x.term.kind=3\/x.term.kind=4),decide (x.term.kind=3)):=by unfold wrP;rw [e]
   rw [key _ hw];unfold iY acBor acT ifA;rw [e];simp
 | some s=>
   have hs:=h s (List.mem_of_getElem? e);simp only;unfold acS;by_cases h0:s.kind=0
   ·have hw:wrP x k=(s.place,true,true):=by unfold wrP;rw [e];simp [h0]
    rw [key _ hw];unfold iY acBor;rw [e];simp [h0,ifA]
   ·obtain ⟨h1,h2⟩:=yO hs h0;by_cases h3:s.kind=1
    ·have hw:wrP x k=(⟨s.loc,[]⟩,true,false):=by unfold wrP;rw [e];simp [h3]
     rw [key _ hw];unfold iY acBor;rw [e];simp [h3,h1,h2,ifA,rdL]
    ·have hw:wrP x k=(⟨0,[]⟩,false,false):=by unfold wrP;rw [e];simp [h0,h3]
     rw [key _ hw];unfold iY acBor;rw [e];simp [h0,h3,h1,h2,ifA,rdL]
theorem xBE {b:Bdy} (h:chkB b=0) (p:Int) (l:Ln):(acPt b.blocks p).any (fun a=>cfl a l)=invP b.blocks p l:=by
 unfold acPt invP;cases locB b.blocks p with
 | none=>rfl
 | some q=>
   obtain ⟨i,k⟩:=q;simp only;cases e:b.blocks[i]? with
   | none=>rfl
   | some x=>
     obtain ⟨_,h2,_⟩:=nW (nV (qM h) x (List.mem_of_getElem? e));simp only;rw [xFF (fun s hs=>nE h2 s hs)];rfl
def NoInt (cs:Array Value):Prop:=∀(j:Nat) q x,cs[j]?≠some (.int q x)
section
variable {W0 W:World} {lc:Nat} {cs:Array Value} {T:TypeId} {z:Nat × Nat}
theorem eb_ne (h0:W0.heap[lc]?=some (.cells cs T z)) (hn:NoInt cs) {b o:Nat} {q:IntKind} {x:Int} (hc:W0.cell? ⟨b,o,none⟩=some (.int q x)):b≠lc:=fun e=>by
 subst e;unfold World.cell? at hc;rw [h0] at hc;exact hn _ _ _ hc
theorem gM (h:Eb W0 lc W) (h0:W0.heap[lc]?=some (.cells cs T z)) (hn:NoInt cs) {A:Option Addr} {c:Nat} {xs:List (Int × Int)} (hs:Slc 2 RPr W0 A c xs):Slc 2 RPr W A c xs:=
 ⟨fun hl=>by
   obtain ⟨b,o,hA,hlt,hx⟩:=hs.sl hl;refine ⟨b,o,hA,bP hlt h.size,fun i x hi=>?_⟩;obtain ⟨y0,y1⟩:=hx i x hi;have hk:=h.keep b hlt (eb_ne h0 hn y0)
   exact ⟨(World.cell?_of_block (a:=⟨b,o+i * 2,none⟩) hk).trans y0,(World.cell?_of_block (a:=⟨b,o+i * 2+1,none⟩) hk).trans y1⟩,hs.le,hs.big⟩
theorem mU (h:Eb W0 lc W) (h0:W0.heap[lc]?=some (.cells cs T z)) (hn:NoInt cs) {A:Option Addr} {c:Nat} {xs:List Ln} (hs:Slc 5 RLn W0 A c xs):Slc 5 RLn W A c xs:=
 ⟨fun hl=>by
   obtain ⟨b,o,hA,hlt,hx⟩:=hs.sl hl;refine ⟨b,o,hA,bP hlt h.size,fun i x hi=>?_⟩;obtain ⟨y0,y1,y2,y3,PA,pc,y4,p1,p2,p3⟩:=hx i x hi;have hk:=h.keep b hlt (eb_ne h0 hn y0);refine ⟨(World.cell?_of_block (a:=⟨b,o+i * 5,none⟩) hk).trans y0,(World.cell?_of_block (a:=⟨b,o+i * 5+1,none⟩) hk).trans y1,(World.cell?_of_block (a:=⟨b,o+i * 5+2,none⟩) hk).trans y2,(World.cell?_of_block (a:=⟨b,o+i * 5+3,none⟩) hk).trans y3,PA,pc,(World.cell?_of_block (a:=⟨b,o+i * 5+3+1,none⟩) hk).trans y4,p1,p2,fun hl'=>?_⟩;obtain ⟨b',o',hA',hlt',hx'⟩:=p3 hl';refine ⟨b',o',hA',bP hlt' h.size,fun i x hi=>?_⟩;obtain ⟨z0,z1⟩:=hx' i x hi;have hk':=h.keep b' hlt' (eb_ne h0 hn z0)
   exact ⟨(World.cell?_of_block (a:=⟨b',o'+i * 2,none⟩) hk').trans z0,(World.cell?_of_block (a:=⟨b',o'+i * 2+1,none⟩) hk').trans z1⟩,hs.le,hs.big⟩
end
theorem xBP {W0 W:World} {lc:Nat} {cs:Array Value} {T:TypeId} {z:Nat × Nat} (h:Eb W0 lc W) (h0:W0.heap[lc]?=some (.cells cs T z)) (hn:NoInt cs) {A:Option Addr} {c:Nat} {xs:List Pj} (hs:Slc 2 RPj W0 A c xs):Slc 2 RPj W A c xs:=
 ⟨fun hl=>by
   obtain ⟨b,o,hA,hlt,hx⟩:=hs.sl hl;refine ⟨b,o,hA,bP hlt h.size,fun i x hi=>?_⟩;obtain ⟨y0,y1⟩:=hx i x hi;have hk:=h.keep b hlt (eb_ne h0 hn y0)
   exact ⟨(World.cell?_of_block (a:=⟨b,o+i * 2,none⟩) hk).trans y0,(World.cell?_of_block (a:=⟨b,o+i * 2+1,none⟩) hk).trans y1⟩,hs.le,hs.big⟩
theorem gK (A0 A1 A2 A3 A4:Option Addr) (n0 c0 n1 c1 n2 c2 n3 c3 n4 c4:Nat):NoInt #[.slice A0 n0 c0,.slice A1 n1 c1,.slice A2 n2 c2,.slice A3 n3 c3,.slice A4 n4 c4]:=fun j q x h=>by
 match j,h with
 | 0,h=>cases h
 | 1,h=>cases h
 | 2,h=>cases h
 | 3,h=>cases h
 | 4,h=>cases h
 | n+5,h=>simp at h
structure ExW (W0:World) (gf:Nat) (v0 v1 v4:Value) (KS IS:List (Int × Int)) (v2 v3:Value) (W:World):Prop where
 eb:Eb W0 gf W
 box:W.heap[gf]?=some (.cells #[v0,v1,v2,v3,v4] 25 (0,0))
 ki:W.ownsRow W0.heap.size 42 2 v2 KS.length (KS.flatMap prC)
 iv:W.ownsRow W0.heap.size 42 2 v3 IS.length (IS.flatMap prC)
 ne:∀g,v2.ownBlock=some g->v3.ownBlock≠some g
 lt:gf<W0.heap.size
section
variable {W0 W W6 W7 W8:World} {gf:Nat} {v0 v1 v4 v2 v3:Value} {KS IS:List (Int × Int)}
theorem ExW.keep (h:ExW W0 gf v0 v1 v4 KS IS v2 v3 W) (hb:Below W.heap.size W W6):ExW W0 gf v0 v1 v4 KS IS v2 v3 W6:=
 ⟨h.eb.then_ hb,(hb.block _ (Array.getElem?_eq_some_iff.1 h.box).1).trans h.box,dE h.ki hb,dE h.iv hb,h.ne,h.lt⟩
theorem nJ {e:TypeId} {k m base:Nat} {v:Value} {xs:List Value} (h:W.ownsRow base e k v m xs) {g:Nat} (hg:v.ownBlock=some g):base<=g/\g<W.heap.size:=h.lt g hg
theorem ExW.push2 (h:ExW W0 gf v0 v1 v4 KS IS v2 v3 W) {x:Int × Int} {v':Value} (ho:W7.ownsRow W0.heap.size 42 2 v' (KS.length+1) (KS.flatMap prC ++ prC x)) (hg:W.grownBy W7 v2.ownBlock) (hl:v'.ownBlock=v2.ownBlock\/v'.ownBlock=some W.heap.size):
 W7.heap[gf]?=some (.cells #[v0,v1,v2,v3,v4] 25 (0,0))/\ExW W0 gf v0 v1 v4 (KS ++ [x]) IS v' v3 (W7.setCell ⟨gf,2,none⟩ v'):=by
 have hlo:∀g,v2.ownBlock=some g->W0.heap.size<=g:=fun g e=>(nJ h.ki e).1
 have hb7:W7.heap[gf]?=some (.cells #[v0,v1,v2,v3,v4] 25 (0,0)):=(hg.block _ (Array.getElem?_eq_some_iff.1 h.box).1 (fun e=>by have:=hlo _ e.symm;have:=h.lt;omega)).trans h.box;have hset:∀k,k≠gf->(W7.setCell ⟨gf,2,none⟩ v').heap[k]?=W7.heap[k]?:=fun k hk=>bJ W7 ⟨gf,2,none⟩ _ k hk
 refine ⟨hb7,(h.eb.grown hg hlo).set 2 _,by simp [World.setCell,Array.getElem?_modify,hb7],?_,?_,?_,h.lt⟩
 ·have h1:W7.ownsRow W0.heap.size 42 2 v' (KS ++ [x]).length ((KS ++ [x]).flatMap prC):=by
   rw [bE,cC];simpa using ho
  exact dC h1 (fun k hk _ _=>hset k (by have:=h.lt;omega))
 ·have h1:W7.ownsRow W0.heap.size 42 2 v3 IS.length (IS.flatMap prC):=dC h.iv (fun k _ hk hv=>hg.block k hk (fun e=>h.ne k e.symm hv.symm));exact dC h1 (fun k hk _ _=>hset k (by have:=h.lt;omega))
 ·intro g e1 e2;rcases hl with e | e
  ·exact h.ne g (e ▸ e1) e2
  ·rw [e] at e1;injection e1 with e1
   have:=(nJ h.iv e2).2;omega
theorem ExW.push3 (h:ExW W0 gf v0 v1 v4 KS IS v2 v3 W) {x:Int × Int} {v':Value} (ho:W7.ownsRow W0.heap.size 42 2 v' (IS.length+1) (IS.flatMap prC ++ prC x)) (hg:W.grownBy W7 v3.ownBlock) (hl:v'.ownBlock=v3.ownBlock\/v'.ownBlock=some W.heap.size):
 W7.heap[gf]?=some (.cells #[v0,v1,v2,v3,v4] 25 (0,0))/\ExW W0 gf v0 v1 v4 KS (IS ++ [x]) v2 v' (W7.setCell ⟨gf,3,none⟩ v'):=by
 have hlo:∀g,v3.ownBlock=some g->W0.heap.size<=g:=fun g e=>(nJ h.iv e).1
 have hb7:W7.heap[gf]?=some (.cells #[v0,v1,v2,v3,v4] 25 (0,0)):=(hg.block _ (Array.getElem?_eq_some_iff.1 h.box).1 (fun e=>by have:=hlo _ e.symm;have:=h.lt;omega)).trans h.box;have hset:∀k,k≠gf->(W7.setCell ⟨gf,3,none⟩ v').heap[k]?=W7.heap[k]?:=fun k hk=>bJ W7 ⟨gf,3,none⟩ _ k hk
 refine ⟨hb7,(h.eb.grown hg hlo).set 3 _,by simp [World.setCell,Array.getElem?_modify,hb7],?_,?_,?_,h.lt⟩
 ·have h1:W7.ownsRow W0.heap.size 42 2 v2 KS.length (KS.flatMap prC):=dC h.ki (fun k _ hk hv=>hg.block k hk (fun e=>h.ne k hv.symm e.symm));exact dC h1 (fun k hk _ _=>hset k (by have:=h.lt;omega))
 ·have h1:W7.ownsRow W0.heap.size 42 2 v' (IS ++ [x]).length ((IS ++ [x]).flatMap prC):=by
   rw [bE,cC];simpa using ho
  exact dC h1 (fun k hk _ _=>hset k (by have:=h.lt;omega))
 ·intro g e1 e2;rcases hl with e | e
  ·exact h.ne g e1 (e ▸ e2)
  ·rw [e] at e2;injection e2 with e2
   have:=(nJ h.ki e1).2;omega
end
theorem st5 {W:World} {b:Nat} {T:TypeId} {z0 z1 z2 z3 z4:Value} (hr:W.heap[b]?=some (.cells #[z0,z1,z2,z3,z4] T (0,0))) (v0 v1 v2 v3 v4:Value) {W9:World}
 (hW:((((W.setCell ⟨b,0,none⟩ v0).setCell ⟨b,1,none⟩ v1).setCell ⟨b,2,none⟩ v2).setCell ⟨b,3,none⟩ v3).setCell ⟨b,4,none⟩ v4=W9):
 W9.heap[b]?=some (.cells #[v0,v1,v2,v3,v4] T (0,0))/\Eb W b W9/\∀n₀ w,n₀ <= b->Below n₀ w W->Below n₀ w W9:=by
 refine ⟨by rw [<- hW];simp [World.setCell,Array.getElem?_modify,hr],by rw [<- hW];exact ((((Eb.refl W b).set 0 _ |>.set 1 _).set 2 _).set 3 _).set 4 _,fun n₀ w h hl=>?_⟩;rw [<- hW];exact ((((hl.setCell h _).setCell h _).setCell h _).setCell h _).setCell h _
def z5:Array Value:= #[.slice none 0 0,.slice none 0 0,.slice none 0 0,.slice none 0 0,.slice none 0 0]
theorem noZ5:NoInt z5:=gK none none none none none 0 0 0 0 0 0 0 0 0 0
structure ExC (b:Bdy) (L:List Value) (w:World) (sA:Option Addr) (sc:Nat) (s:List (Int × Int)) (gf:Nat) (A0:Option Addr) (c0:Nat) (ls:List Ln) (A1:Option Addr) (c1:Nat) (E:List (Int × Int)) (W:World):Prop where
 box:W.heap[gf]?=some (.cells #[.slice A0 ls.length c0,.slice A1 E.length c1,.slice none 0 0,.slice none 0 0,.slice sA s.length sc] 25 (0,0))
 ln:Slc 5 RLn W A0 c0 ls
 eq:ls=lnU b.blocks (cntB b.blocks)
 srt:Srt2 E (fun z=>folP b.blocks z.1 z.2)
 ed:Slc 2 RPr W A1 c1 E
 li:Slc 2 RPr W sA sc s
 low:Below w.heap.size w W
 gt:w.heap.size+1<gf
 bx:∀i v,L[i]?=some v->W.cell? ⟨w.heap.size,i,none⟩=some v
 rb:W.heap[w.heap.size+1]?=some (.cells z5 25 (0,0))
theorem ExC.keep {b:Bdy} {L:List Value} {w W W':World} {sA:Option Addr} {sc:Nat} {s:List (Int × Int)} {gf:Nat} {A0:Option Addr} {c0:Nat} {ls:List Ln} {A1:Option Addr} {c1:Nat} {E:List (Int × Int)} (h:ExC b L w sA sc s gf A0 c0 ls A1 c1 E W) (hb:Below W.heap.size W W'):ExC b L w sA sc s gf A0 c0 ls A1 c1 E W':=
 ⟨(hb.block _ (Array.getElem?_eq_some_iff.1 h.box).1).trans h.box,h.ln.keep RLn.keeps hb,h.eq,h.srt,h.ed.keep RPr.keeps hb,h.li.keep RPr.keeps hb,h.low.trans (hb.mono h.low.size),h.gt,fun i v hv=>cQ hb (h.bx i v hv),(hb.block _ (Array.getElem?_eq_some_iff.1 h.rb).1).trans h.rb⟩
theorem ExC.make {b:Bdy} {L:List Value} {w W W9:World} {sA:Option Addr} {sc:Nat} {s:List (Int × Int)} {gf:Nat} {A0:Option Addr} {c0:Nat} {ls:List Ln} {A1:Option Addr} {c1:Nat} {E:List (Int × Int)} (hg:W.heap[gf]?=some (.cells z5 25 (0,0))) (h1:Slc 5 RLn W A0 c0 ls) (h2:ls=lnU b.blocks (cntB b.blocks)) (h3:Srt2 E (fun z=>folP b.blocks z.1 z.2)) (h4:Slc 2 RPr W A1 c1 E) (h5:Slc 2 RPr W sA sc s) (h6:Below w.heap.size w W) (h7:w.heap.size+1<gf) (h8:∀i v,L[i]?=some v->W.cell? ⟨w.heap.size,i,none⟩=some v) (h9:W.heap[w.heap.size+1]?=some (.cells z5 25 (0,0)))
 (hW:((((W.setCell ⟨gf,0,none⟩ (.slice A0 ls.length c0)).setCell ⟨gf,1,none⟩ (.slice A1 E.length c1)).setCell ⟨gf,2,none⟩ (.slice none 0 0)).setCell ⟨gf,3,none⟩ (.slice none 0 0)).setCell ⟨gf,4,none⟩ (.slice sA s.length sc)=W9):ExC b L w sA sc s gf A0 c0 ls A1 c1 E W9:=by
 obtain ⟨e1,e2,e3⟩:=st5 hg _ _ _ _ _ hW;refine ⟨e1,mU e2 hg noZ5 h1,h2,h3,gM e2 hg noZ5 h4,gM e2 hg noZ5 h5,e3 _ _ (by omega) h6,h7,fun i v hv=>?_,(e2.keep _ (Array.getElem?_eq_some_iff.1 h9).1 (by omega)).trans h9⟩;have hc:=h8 i v hv;exact (World.cell?_of_block (a:=⟨w.heap.size,i,none⟩) (e2.keep w.heap.size (cF _ _ hc) (by omega))).trans hc
theorem ExW.fin {b:Bdy} {L:List Value} {w W0 W W9:World} {sA:Option Addr} {sc:Nat} {s:List (Int × Int)} {gf:Nat} {A0:Option Addr} {c0:Nat} {ls:List Ln} {A1:Option Addr} {c1:Nat} {E:List (Int × Int)} (hC:ExC b L w sA sc s gf A0 c0 ls A1 c1 E W0) {KS IS:List (Int × Int)} {A2 A3:Option Addr} {c2 c3:Nat} (h:ExW W0 gf (.slice A0 ls.length c0) (.slice A1 E.length c1) (.slice sA s.length sc) KS IS (.slice A2 KS.length c2) (.slice A3 IS.length c3) W)
 (hW:((((W.setCell ⟨w.heap.size+1,0,none⟩ (.slice A0 ls.length c0)).setCell ⟨w.heap.size+1,1,none⟩ (.slice A1 E.length c1)).setCell ⟨w.heap.size+1,2,none⟩ (.slice A2 KS.length c2)).setCell ⟨w.heap.size+1,3,none⟩ (.slice A3 IS.length c3)).setCell ⟨w.heap.size+1,4,none⟩ (.slice sA s.length sc)=W9):
 W9.heap[w.heap.size+1]?=some (.cells #[.slice A0 ls.length c0,.slice A1 E.length c1,.slice A2 KS.length c2,.slice A3 IS.length c3,.slice sA s.length sc] 25 (0,0))/\FcAt W9 ⟨ls,E,KS,IS,s⟩ ⟨A0,c0,A1,c1,A2,c2,A3,c3,sA,sc⟩/\Below w.heap.size w W9:=by
 have hg:=hC.gt;have hr:W.heap[w.heap.size+1]?=some (.cells z5 25 (0,0)):=(h.eb.keep _ (Array.getElem?_eq_some_iff.1 hC.rb).1 (by omega)).trans hC.rb;obtain ⟨e1,e2,e3⟩:=st5 hr _ _ _ _ _ hW;obtain ⟨B2,d2,f2,g2⟩:=kQ h.ki rfl;obtain ⟨B3,d3,f3,g3⟩:=kQ h.iv rfl;injection f2 with f2 _ f2'
 injection f3 with f3 _ f3'
 subst f2 f2' f3 f3';exact ⟨e1,⟨mU e2 hr noZ5 (mU h.eb hC.box (gK _ _ _ _ _ _ _ _ _ _ _ _ _ _ _) hC.ln),gM e2 hr noZ5 (gM h.eb hC.box (gK _ _ _ _ _ _ _ _ _ _ _ _ _ _ _) hC.ed),gM e2 hr noZ5 g2,gM e2 hr noZ5 g3,gM e2 hr noZ5 (gM h.eb hC.box (gK _ _ _ _ _ _ _ _ _ _ _ _ _ _ _) hC.li)⟩,e3 _ _ (by omega) (h.eb.below hC.low (by omega))⟩
theorem ExW.lt2 {W0 W:World} {gf:Nat} {v0 v1 v4 v2 v3:Value} {KS IS:List (Int × Int)} (h:ExW W0 gf v0 v1 v4 KS IS v2 v3 W):∃cs z,W.heap[gf]?=some (.cells cs 25 z):=⟨_,_,h.box⟩
theorem kB (W:World) (a b:Int):∀j u,(prC (a,b))[j]?=some u->(W.alloc (.cells #[.int .i64 a,.int .i64 b] 42)).cell? ((⟨W.heap.size,0,none⟩:Addr).add j)=some u:=fun j u hj=>by
 rw [add0];exact fR W (prC (a,b)) 42 j u hj
theorem rX {W W7:World} {L gf base m j:Nat} {cs:Array Value} {z:Nat × Nat} {v v0:Value} {xs:List Value} (h:W.heap[L]?=some (.cells cs 38 z)) (ho:W.ownsRow base 42 2 v0 m xs) (hg:W.grownBy W7 v0.ownBlock) (_:True) (hf:∃cs z,W.heap[gf]?=some (.cells cs 25 z)):(W7.setCell ⟨gf,j,none⟩ v).heap[L]?=some (.cells cs 38 z):=by
 have hne:L≠gf:=fun e=>by
  subst e;obtain ⟨cs',z',h'⟩:=hf;rw [h] at h';injection h' with h'
  injection h' with _ h' _
  exact absurd h' (by decide)
 refine (bJ W7 ⟨gf,j,none⟩ v L hne).trans ((hg.block _ (Array.getElem?_eq_some_iff.1 h).1 (fun e=>?_)).trans h);rcases ho.2 with ⟨h1,_⟩ | ⟨g,cap,cur,h1,_,h2,_⟩
 ·rw [h1] at e;cases e
 ·rw [h1] at e;injection e with e
  rw [e,h2] at h;injection h with h
  injection h with _ h _
  exact absurd h (by decide)
end
section
open Go Go.RowKit
def LocIn (b:Bdy) (x:Int):Prop:=0<=x/\x<(b.locals.length:Int)
theorem gE {b:Bdy}:∀{l:List Opd} {fs:List Int},opsE b l fs=0->∀o∈l,opE b o=0
 | [],_,_=>by simp
 | x :: r,[],h=>by
   rw [opsE] at h;split at h
   ·rename_i he;intro o ho;rcases List.mem_cons.1 ho with rfl | ho
    ·exact he
    ·exact gE h o ho
   ·exact absurd h ‹_›
 | x :: r,f :: fs,h=>by
   rw [opsE] at h;split at h
   ·rename_i he;split at h
    ·intro o ho;rcases List.mem_cons.1 ho with rfl | ho
     ·exact he
     ·exact gE h o ho
    ·cases h
   ·exact absurd h ‹_›
theorem oO {b:Bdy} {p:Plc} (h:(tyB b p).2=0):LocIn b p.loc:=(oD h).2
theorem xEO {b:Bdy} {o:Opd} (h:opE b o=0) (hk:o.kind=0\/o.kind=1):LocIn b o.place.loc:=by
 unfold opE at h;split at h
 ·cases h
 split at h
 ·cases h
 split at h
 ·cases h
 rw [bB (by omega)] at h;split at h
 ·exact absurd h ‹_›
 ·exact oO (Decidable.not_not.1 ‹_›)
theorem iR {b:Bdy} {l:List Opd} (h:∀o∈l,opE b o=0):∀x∈opU l,LocIn b x:=fun x hx=>by
 obtain ⟨o,ho,rfl⟩:=List.mem_map.1 hx;rw [List.mem_filter,decide_eq_true_eq] at ho;exact xEO (h o ho.1) ho.2
theorem lT {c:Prop} [Decidable c] {x y:Int}:y∈ifU c x↔c/\y=x:=by
 unfold ifU;split <;> simp_all
theorem xED {b:Bdy} {r:Rvl} {t:Int} (ht:∃ty,b.types[t.toNat]?=some ty) (h:rvE b r t=0):(∀x∈opU r.args,LocIn b x)/\(r.kind=1->LocIn b r.place.loc):=by
 unfold rvE at h;split at h
 ·cases h
 rename_i h1;split at h
 ·cases h
 rename_i h2;split at h
 ·exact ⟨iR (gE h),fun e=>by omega⟩
 split at h
 ·rename_i hk;rw [Bool.not_eq_false] at h2;unfold unusedR at h2;simp only [hk,Int.reduceEq,if_false,if_true,bR,decide_eq_true_eq] at h2;have h3:=bW h2.2;refine ⟨by rw [h3];simp [opU],fun _=>?_⟩;unfold borE at h;split at h
  ·exact absurd h ‹_›
  ·exact oO (Decidable.not_not.1 ‹_›)
 have key:∀{tab:List (Int × Int)},operE b r t tab=0->∀o∈r.args,opE b o=0:=fun h=>by
  unfold operE at h;split at h
  ·cases h
  split at h
  ·exact absurd h ‹_›
  ·exact gE (Decidable.not_not.1 ‹_›)
 split at h
 ·exact ⟨iR (key h),fun e=>by omega⟩
 split at h
 ·exact ⟨iR (key h),fun e=>by omega⟩
 obtain ⟨ty,ht⟩:=ht;rw [ht] at h;simp only at h;split at h
 ·cases h
 ·exact ⟨iR (gE h),fun e=>by omega⟩
theorem qQ {b:Bdy} {p:Plc} (h:writE b p=0):(tyB b p).2=0:=by
 unfold writE at h;split at h
 ·exact absurd h ‹_›
 ·exact Decidable.not_not.1 ‹_›
theorem xEA {b:Bdy} (hok:Okay b.types b.locals) {s:Stm} (h:stE b s=0):∀x∈usS s,LocIn b x:=by
 unfold usS;unfold stE at h;split
 ·rename_i hk;rw [bD hk] at h;split at h
  ·cases h
  split at h
  ·exact absurd h ‹_›
  rename_i hw;have hp:=qQ (Decidable.not_not.1 hw);obtain ⟨t0,t1⟩:=kP hok hp;obtain ⟨h1,h2⟩:=xED (b:=b) ⟨_,bF (show (tyOf b.types b.locals s.place.loc s.place.proj).1.toNat<b.types.length by omega)⟩ h;intro x hx;rcases List.mem_append.1 hx with hx | hx
  ·rcases List.mem_append.1 hx with hx | hx
   ·exact h1 x hx
   ·obtain ⟨e1,rfl⟩:=lT.1 hx;exact h2 e1
  ·obtain ⟨_,rfl⟩:=lT.1 hx;exact oO hp
 ·simp
theorem xDX {b:Bdy} {t:Trm} (h:tmE b t=0):∀x∈usT t,LocIn b x:=by
 unfold tmE at h;split at h
 ·cases h
 rename_i h1;split at h
 ·cases h
 rename_i h2;rw [Bool.not_eq_false] at h2;unfold fieldsT at h2;split at h
 ·cases h
 unfold usT;intro x hx;have hk:t.kind=0\/t.kind=1\/t.kind=2\/t.kind=3\/t.kind=4\/t.kind=5:=by omega
 rcases hk with hk | hk | hk | hk | hk | hk
 ·simp only [hk,if_true,bR,decide_eq_true_eq] at h2;have h3:=bW h2.1.1.2;rw [h3] at hx;simp [opU,ifU,hk] at hx
 ·simp only [hk,Int.reduceEq,if_false,if_true,bR,decide_eq_true_eq] at h2;rw [bD hk] at h;rcases List.mem_append.1 hx with hx | hx
  ·match e:t.args,h2.1.1.2 with
   | [o],_=>
     rw [e] at h hx;simp only at h;split at h
     ·exact absurd h ‹_›
     ·exact iR (fun y hy=>by rw [List.mem_singleton.1 hy];exact Decidable.not_not.1 ‹_›) x hx
  ·obtain ⟨e,_⟩:=lT.1 hx;omega
 ·simp only [hk,Int.reduceEq,if_false,bR,decide_eq_true_eq] at h2;have h3:=bW h2.1.1.2;rw [h3] at hx;simp [opU,ifU,hk] at hx
 ·rw [bB (by omega),bD hk] at h;split at h
  ·cases h
  split at h
  ·cases h
  split at h
  ·exact absurd h ‹_›
  rename_i h4;rcases List.mem_append.1 hx with hx | hx
  ·exact iR (gE (Decidable.not_not.1 h4)) x hx
  ·obtain ⟨_,rfl⟩:=lT.1 hx;exact oO (qQ h)
 ·simp only [hk,Int.reduceEq,if_false,if_true,bR,decide_eq_true_eq] at h2;have h3:=bW h2.1.2;rw [bB (by omega),bB (by omega),bD hk] at h;rcases List.mem_append.1 hx with hx | hx
  ·rw [h3] at hx;simp [opU] at hx
  ·obtain ⟨_,rfl⟩:=lT.1 hx;split at h
   ·exact absurd h ‹_›
   ·exact oO (Decidable.not_not.1 ‹_›)
 ·simp only [hk,Int.reduceEq,if_false,bR,decide_eq_true_eq] at h2;have h3:=bW h2.1.1.2;rw [h3] at hx;simp [opU,ifU,hk] at hx
theorem tL {b:Bdy} (h:chkB b=0) {p x:Int} (hx:x∈usP b.blocks p):LocIn b x:=by
 unfold usP at hx;split at hx
 ·cases hx
 rename_i i k hl;split at hx
 ·cases hx
 rename_i y hy;obtain ⟨_,h2,h3⟩:=nW (nV (qM h) y (List.mem_of_getElem? hy));unfold usB at hx;split at hx
 ·rename_i s hs;exact xEA (fG (kJ h)).okay (nE h2 s (List.mem_of_getElem? hs)) x hx
 ·exact xDX h3 x hx
theorem lv_in {b:Bdy} (h:chkB b=0) {p x:Int} (hl:Lv b.blocks x p):LocIn b x:=by
 obtain ⟨q,hq⟩:=hl.used;exact tL h hq
end
section
open Go Go.RowKit Go.Maps
theorem zH {xs:List Opd} {m:Nat} {o:Opd} (h:xs[m]?=some o):opU (xs.take (m+1))=opU (xs.take m) ++ ifU (o.kind=0\/o.kind=1) o.place.loc:=by
 unfold opU ifU;rw [List.take_add_one,h];simp only [List.filter_append,bV,Option.toList_some];congr 1
 by_cases e:o.kind=0\/o.kind=1
 ·rw [bD e,List.filter_cons_of_pos (by simp [e])];rfl
 ·rw [bB e,List.filter_cons_of_neg (by simp [e])];rfl
theorem xCP {xs:List Opd} {m:Nat} {z:Int} (h:z∈opU (xs.take m)):z∈opU xs:=by
 unfold opU at h ⊢;rw [cN] at h ⊢;obtain ⟨o,h1,h2⟩:=h;rw [List.mem_filter] at h1;exact ⟨o,List.mem_filter.2 ⟨List.mem_of_mem_take h1.1,h1.2⟩,h2⟩
theorem xCO {w:World} {b o:Nat} {x:Opd} (h:ROp w w.heap.size b o x):∃A c,w.cell? ⟨b,o,none⟩=some (.int .i64 x.kind)/\w.cell? ⟨b,o+1,none⟩=some (.int .i64 x.place.loc)/\w.cell? ⟨b,o+2,none⟩=some (.slice A x.place.proj.length c)/\w.cell? ⟨b,o+3,none⟩=some (.int .i64 x.n)/\Slc 2 RPj w A c x.place.proj:=by
 obtain ⟨k0,⟨p0,A0,c0,p1,p2,p3,p4⟩,n0⟩:=h;exact ⟨A0,c0,k0,p0,p1,n0,⟨p4,p2,p3⟩⟩
def dfV:Option Int->Value
 | none=> .tuple #[.int .i64 0,.bool false]
 | some x=> .tuple #[.int .i64 x,.bool true]
theorem ifU_t {c:Prop} [Decidable c] {x:Int} (h:c):ifU c x=[x]:=by unfold ifU;rw [bD h]
theorem ifU_f {c:Prop} [Decidable c] {x:Int} (h:¬c):ifU c x=[]:=by unfold ifU;rw [bB h]
theorem uK {w:World} {a:Addr} {c:Nat} {s:List Int} (h:Slc 1 RInt w (some a) c s):∀j u,(s.map (Value.int .i64))[j]?=some u->w.cell? (a.add j)=some u:=fun j u hu=>by
 rw [cP] at hu;cases hx:s[j]? with
 | none=>rw [hx] at hu;cases hu
 | some x=>
   rw [hx] at hu;injection hu with hu
   subst hu;have hl:=(List.getElem?_eq_some_iff.1 hx).1;obtain ⟨b,off,hA,_,hall⟩:=h.sl (by omega);injection hA with hA
   subst hA;have:=hall j x hx;unfold RInt at this;rw [Nat.mul_one] at this;rw [<- this];congr 1
   unfold Addr.add;split <;> simp_all
theorem yV {w:World} {c:Nat} {s:List Int} (h:Slc 1 RInt w none c s):s=[]:=by
 cases s with
 | nil=>rfl
 | cons x r=>obtain ⟨_,_,hA,_⟩:=h.sl (by simp);cases hA
end
end Go.Proofs.YtkaigkfbkpinlaaGreatDoor
