/-
  Parts of the proof: V37 Open V42D V42L V42 V43 V38.
-/
import Derived.Test.YtmknfbfppmkcfaaGreatDoorPI0
import Derived.Test.YtmknfbfppmkcfaaGreatDoorPI8
import Derived.Test.YtmknfbfppmkcfaaGreatDoorPI6
import Derived.Test.YtmknfbfppmkcfaaGreatDoorRows
import Derived.Test.YtmknfbfppmkcfaaGreatDoorPI1
import Derived.Test.YtmknfbfppmkcfaaGreatDoorPI9
import Derived.ProofKit
import Derived.Below
import Derived.Deep.Slices
import Derived.Deep.Fields
import Derived.Lib.SmallJoins
import Derived.OpenShut
import Derived.LaidMore
import Derived.Stop.Joined
import Derived.Stop.LaidErr
import Derived.Lay
import Derived.SevenTiedAt
namespace Go.Proofs.YtmknfbfppmkcfaaGreatDoor
set_option maxRecDepth 100000
set_option maxHeartbeats 16000000
section
open Go Go.RowKit Go.Maps
structure TabsOk (w:World):Prop where
 un:Slc 2 RPr w (some ⟨0,0,none⟩) 2 hO
 bi:Slc 2 RPr w (some ⟨1,0,none⟩) 6 fY
theorem TabsOk.keep {w w':World} (h:TabsOk w) (hb:Below w.heap.size w w'):TabsOk w':=⟨h.un.keep RPr.keeps hb,h.bi.keep RPr.keeps hb⟩
theorem xBL (W:World) (x:Int) (T:TypeId) (k:Nat) (hk:k=W.heap.size):Slc 1 RInt (W.alloc (.cells #[.int .i64 x] T)) (some ⟨k,0,none⟩) 1 [x]:=by
 subst hk;refine ⟨fun _=>⟨_,_,rfl,by simp,fun i q hi=>?_⟩,by simp,by omega⟩;show (W.alloc _).cell? ⟨W.heap.size,0+i * 1,none⟩=_;rw [World.cell?_alloc_at _ _ _ _ (by simp),Nat.zero_add,Nat.mul_one];match i,hi with
 | 0,hi=>simp at hi;subst hi;rfl
 | i+1,hi=>simp at hi
theorem uS {b:Bdy} {bh:BH} {r:Nat} {w:World} (H:Ck w b bh r) (hT:TabsOk w) (rv:Rvl) (t:Nat) (ht:t<b.types.length) (A B:Option Addr) (c d:Nat) (hp:Slc 2 RPj w A c rv.place.proj) (hl:Slc 4 ROp w B d rv.args):
 Calls Tryz.prog 117 #[.agg (ckC b bh r).toArray,.agg (rvC rv A c B d).toArray,.int .i64 t] w fun e' w'=>e' = .returned (.int .i64 (rvE b rv t))/\Below w.heap.size w w':=by
 have HU:=aF (fun W=>uJ rv A B c d W);obtain ⟨R,hR⟩:∃R,rvE b rv t=R:=⟨_,rfl⟩;rw [hR]
 have HR:Hid (R=if rv.kind<0\/4<rv.kind then 14 else if unusedR rv=false then 2 else if rv.kind=0 then opsE b rv.args [(t:Int)] else if rv.kind=1 then borE b rv t else if rv.kind=2 then operE b rv t hO else if rv.kind=3 then operE b rv t fY else if b.types[t].kind≠4\/b.types[t].flds.length≠rv.args.length then 22 else opsE b rv.args b.types[t].flds):=aF (by
  rw [<- hR,rvE];simp only [bW]
  rw [bD ht])
 have HH:=aF H;have HT:=aF hT;have HL:=aF hl;have HP:=aF hp;have hle:=hl.le;have hbig:=hl.big;clear hR H hT hl hp;unfold ckC;by_cases h0:rv.kind<0\/4<rv.kind
 ·have HF:Hid (R=14):=aF (by rw [HR.out,bA h0]);clear HR HU;unfold rvC;go_enter Tryz.func117,Tryz.ntmps117
  go_wp2_with fail
  all_goals first
   | (exfalso;omega)
   | (go_ret;exact ⟨by rw [HF.out];rfl,aH⟩)
 obtain ⟨u,hu⟩:∃u,unusedR rv=u:=⟨_,rfl⟩;rw [hu] at HU HR;cases u
 ·have HF:Hid (R=2):=aF (by rw [HR.out,aZ h0,bA rfl]);have h1:¬rv.kind<0:=by omega
  have h2:¬4<rv.kind:=by omega
  clear HR h0;unfold rvC at HU ⊢;go_enter Tryz.func117,Tryz.ntmps117
  go_wp2_with (go_at_call 150;refine (HU.out _).mono ?_;rintro e' w1 ⟨rfl,hb1⟩;have HB:=aF ((bel2 _ _ _).trans (hb1.mono (bel2 _ _ _).size));obtain ⟨y,z⟩:=cT hb1;have HY:=aF y;have HZ:=aF z;obtain ⟨y0,y1,y2,y3,y4,y5,y6,y7⟩:=aT HY.out;obtain ⟨z0,z1,z2,z3,z4,z5,z6⟩:=aS HZ.out;have hlw:=hb1.size;simp only [bI] at hlw;have hlw1:w.heap.size+1<w1.heap.size:=hlw;have hlw0:w.heap.size<w1.heap.size:=cC hlw;clear y z hb1)
  all_goals first
   | (exfalso;omega)
   | (go_ret;exact ⟨by rw [HF.out];rfl,HB.out⟩)
 have HR2:Hid (R=if rv.kind=0 then opsE b rv.args [(t:Int)] else if rv.kind=1 then borE b rv t else if rv.kind=2 then operE b rv t hO else if rv.kind=3 then operE b rv t fY else if b.types[t].kind≠4\/b.types[t].flds.length≠rv.args.length then 22 else opsE b rv.args b.types[t].flds):=aF (by rw [HR.out,aZ h0,aZ (by simp)]);clear HR;rcases (show rv.kind=0\/rv.kind=1\/rv.kind=2\/rv.kind=3\/rv.kind=4 by omega) with hk | hk | hk | hk | hk
 ·have HF:Hid (R=opsE b rv.args [(t:Int)]):=aF (by rw [HR2.out,bA hk]);have HC:=aF (fun (W:World) (hb:Below w.heap.size w W) (C:Option Addr) (f:Nat) (hf:Slc 1 RInt W C f [(t:Int)])=>fK (HH.out.keep hb) rv.args [(t:Int)] B C d f (HL.out.keep ROp.keeps hb) hf (by simp;omega));clear HR2 hu h0;unfold rvC at HU ⊢;unfold ckC at HC;rw [hk] at HU ⊢;go_enter Tryz.func117,Tryz.ntmps117
  go_wp2_with (first | (go_at_call 150;refine (HU.out _).mono ?_;rintro e' w1 ⟨rfl,hb1⟩;have HB:=aF ((bel2 _ _ _).trans (hb1.mono (bel2 _ _ _).size));obtain ⟨y,z⟩:=cT hb1;have HY:=aF y;have HZ:=aF z;obtain ⟨y0,y1,y2,y3,y4,y5,y6,y7⟩:=aT HY.out;obtain ⟨z0,z1,z2,z3,z4,z5,z6⟩:=aS HZ.out;have hlw:=hb1.size;simp only [bI] at hlw;have hlw1:w.heap.size+1<w1.heap.size:=hlw;have hlw0:w.heap.size<w1.heap.size:=cC hlw;clear y z hb1) | (go_at_call 122;refine (HC.out _ (HB.out.alloc HB.out.size _) _ _ (xBL _ _ _ _ rfl)).mono ?_;rintro e' w2 ⟨rfl,hb2⟩;have HB2:=aF ((HB.out.alloc HB.out.size _).trans (hb2.mono (HB.out.alloc HB.out.size _).size));clear hb2))
  go_ret;exact ⟨by rw [HF.out];rfl,HB2.out⟩
 ·have HF:Hid (R=borE b rv t):=aF (by rw [HR2.out,aZ (by omega),bA hk]);have HC:=aF (fun (W:World) (hb:Below w.heap.size w W)=>wE (HH.out.keep hb) rv t ht A B c d (HP.out.keep RPj.keeps hb));clear HR2 hu h0;unfold rvC at HU HC ⊢;unfold ckC at HC;rw [hk] at HU HC ⊢;go_enter Tryz.func117,Tryz.ntmps117
  go_wp2_with (first | (go_at_call 150;refine (HU.out _).mono ?_;rintro e' w1 ⟨rfl,hb1⟩;have HB:=aF ((bel2 _ _ _).trans (hb1.mono (bel2 _ _ _).size));obtain ⟨y,z⟩:=cT hb1;have HY:=aF y;have HZ:=aF z;obtain ⟨y0,y1,y2,y3,y4,y5,y6,y7⟩:=aT HY.out;obtain ⟨z0,z1,z2,z3,z4,z5,z6⟩:=aS HZ.out;have hlw:=hb1.size;simp only [bI] at hlw;have hlw1:w.heap.size+1<w1.heap.size:=hlw;have hlw0:w.heap.size<w1.heap.size:=cC hlw;clear y z hb1) | (go_at_call 151;refine (HC.out _ HB.out).mono ?_;rintro e' w2 ⟨rfl,hb2⟩;have HB2:=aF (HB.out.trans (hb2.mono HB.out.size));clear hb2))
  go_ret;exact ⟨by rw [HF.out];rfl,HB2.out⟩
 ·have HF:Hid (R=operE b rv t hO):=aF (by rw [HR2.out,aZ (by omega),aZ (by omega),bA hk]);have HC:=aF (fun (W:World) (hb:Below w.heap.size w W)=>iI (HH.out.keep hb) rv t ht hO A B _ c d 2 (HL.out.keep ROp.keeps hb) (HT.out.keep hb).un);clear HR2 hu h0;unfold rvC at HU HC ⊢;unfold ckC at HC;rw [hk] at HU HC ⊢;go_enter Tryz.func117,Tryz.ntmps117
  go_wp2_with (go_at_call 150;refine (HU.out _).mono ?_;rintro e' w1 ⟨rfl,hb1⟩;have HB:=aF ((bel2 _ _ _).trans (hb1.mono (bel2 _ _ _).size));obtain ⟨y,z⟩:=cT hb1;have HY:=aF y;have HZ:=aF z;obtain ⟨y0,y1,y2,y3,y4,y5,y6,y7⟩:=aT HY.out;obtain ⟨z0,z1,z2,z3,z4,z5,z6⟩:=aS HZ.out;have hlw:=hb1.size;simp only [bI] at hlw;have hlw1:w.heap.size+1<w1.heap.size:=hlw;have hlw0:w.heap.size<w1.heap.size:=cC hlw;clear y z hb1)
  clear y0 y1 y2 y3 y4 y5 y6 y7 z0 z1 z2 z3 z4 z5 z6;have hS:(aA (bdH b bh [.pointer (some ⟨r,0,none⟩)]) w1.drew w.heap.size)/\(aA [Value.int .i64 2,.int .i64 rv.op,.int .i64 rv.reg,.bool rv.mu,.int .i64 rv.place.loc,.slice A rv.place.proj.length c,.slice B rv.args.length d] w1.drew (w.heap.size+1)):=⟨HY.out,HZ.out⟩;refine cO (S:=fun X=>(aA (bdH b bh [.pointer (some ⟨r,0,none⟩)]) X w.heap.size)/\(aA [Value.int .i64 2,.int .i64 rv.op,.int .i64 rv.reg,.bool rv.mu,.int .i64 rv.place.loc,.slice A rv.place.proj.length c,.slice B rv.args.length d] X (w.heap.size+1))) [0,1,2,3,4,5] (by kernel_rfl) ?_;(iterate 4 (refine cP (v:=?_) ?_ hS ?_;rotate_left;(next=>(rintro X ⟨hX,hY⟩;obtain ⟨s0,s1,s2,s3,s4,s5,s6,s7⟩:=aT hX;obtain ⟨u0,u1,u2,u3,u4,u5,u6⟩:=aS hY;(try simp only [aI]);go_simp;rfl));simp only [aM]));(refine cS (fun K1 hK1=>?_);simp only [aM];rw [bA (by rfl)];go_simp);refine (HC.out _ HB.out.drew).mono ?_;rintro e' w2 ⟨rfl,hb⟩;replace hS:=bJ (cN hS.1 hb) (cN hS.2 hb);have HB2:=aF (HB.out.drew.trans (hb.mono HB.out.size));clear hb;refine hK1.out _ _ (fun _=>hS) ?_;((refine cP (v:=?_) ?_ hS ?_;rotate_left;(next=>(rintro X -;(try simp only [aI]);go_simp;rfl));simp only [aM]))
  refine cZ ?_;go_wp2_with fail
  go_ret;exact ⟨by rw [HF.out];rfl,HB2.out⟩
 ·have HF:Hid (R=operE b rv t fY):=aF (by rw [HR2.out,aZ (by omega),aZ (by omega),aZ (by omega),bA hk]);have HC:=aF (fun (W:World) (hb:Below w.heap.size w W)=>iI (HH.out.keep hb) rv t ht fY A B _ c d 6 (HL.out.keep ROp.keeps hb) (HT.out.keep hb).bi);clear HR2 hu h0;unfold rvC at HU HC ⊢;unfold ckC at HC;rw [hk] at HU HC ⊢;go_enter Tryz.func117,Tryz.ntmps117
  go_wp2_with (go_at_call 150;refine (HU.out _).mono ?_;rintro e' w1 ⟨rfl,hb1⟩;have HB:=aF ((bel2 _ _ _).trans (hb1.mono (bel2 _ _ _).size));obtain ⟨y,z⟩:=cT hb1;have HY:=aF y;have HZ:=aF z;obtain ⟨y0,y1,y2,y3,y4,y5,y6,y7⟩:=aT HY.out;obtain ⟨z0,z1,z2,z3,z4,z5,z6⟩:=aS HZ.out;have hlw:=hb1.size;simp only [bI] at hlw;have hlw1:w.heap.size+1<w1.heap.size:=hlw;have hlw0:w.heap.size<w1.heap.size:=cC hlw;clear y z hb1)
  clear y0 y1 y2 y3 y4 y5 y6 y7 z0 z1 z2 z3 z4 z5 z6;have hS:(aA (bdH b bh [.pointer (some ⟨r,0,none⟩)]) w1.drew w.heap.size)/\(aA [Value.int .i64 3,.int .i64 rv.op,.int .i64 rv.reg,.bool rv.mu,.int .i64 rv.place.loc,.slice A rv.place.proj.length c,.slice B rv.args.length d] w1.drew (w.heap.size+1)):=⟨HY.out,HZ.out⟩;refine cO (S:=fun X=>(aA (bdH b bh [.pointer (some ⟨r,0,none⟩)]) X w.heap.size)/\(aA [Value.int .i64 3,.int .i64 rv.op,.int .i64 rv.reg,.bool rv.mu,.int .i64 rv.place.loc,.slice A rv.place.proj.length c,.slice B rv.args.length d] X (w.heap.size+1))) [0,1,2,3,4,5] (by kernel_rfl) ?_;(iterate 4 (refine cP (v:=?_) ?_ hS ?_;rotate_left;(next=>(rintro X ⟨hX,hY⟩;obtain ⟨s0,s1,s2,s3,s4,s5,s6,s7⟩:=aT hX;obtain ⟨u0,u1,u2,u3,u4,u5,u6⟩:=aS hY;(try simp only [aI]);go_simp;rfl));simp only [aM]));(refine cS (fun K1 hK1=>?_);simp only [aM];rw [bA (by rfl)];go_simp);refine (HC.out _ HB.out.drew).mono ?_;rintro e' w2 ⟨rfl,hb⟩;replace hS:=bJ (cN hS.1 hb) (cN hS.2 hb);have HB2:=aF (HB.out.drew.trans (hb.mono HB.out.size));clear hb;refine hK1.out _ _ (fun _=>hS) ?_;((refine cP (v:=?_) ?_ hS ?_;rotate_left;(next=>(rintro X -;(try simp only [aI]);go_simp;rfl));simp only [aM]))
  refine cZ ?_;go_wp2_with fail
  go_ret;exact ⟨by rw [HF.out];rfl,HB2.out⟩
 ·obtain ⟨bb,oo,hA3,hbb,hxx⟩:=HH.out.at_.typ.sl.at_ ht;have hgd:=HH.out.ok.tyok t ht;obtain ⟨ty,hty⟩:∃ty,b.types[t]=ty:=⟨_,rfl⟩;have hle3:=HH.out.at_.typ.le;have hbig3:=HH.out.at_.typ.big;rw [hty] at hxx hgd HR2;obtain ⟨q0,q1,q2,q3,A5,c5,q4,q6,q7,q8⟩:=hxx;have HFS:Hid (Slc 1 RInt w A5 c5 ty.flds):=aF ⟨q8,q6,q7⟩;have HF0:Hid (R=if ty.kind≠4\/ty.flds.length≠rv.args.length then 22 else opsE b rv.args ty.flds):=aF (by rw [HR2.out,aZ (by omega),aZ (by omega),aZ (by omega),aZ (by omega)]);have HC:=aF (fun (W:World) (hb:Below w.heap.size w W)=>fK (HH.out.keep hb) rv.args ty.flds B A5 d c5 (HL.out.keep ROp.keeps hb) (HFS.out.keep RInt.keeps hb) (fun x hx=>by have:=hgd.2 x hx;omega));obtain ⟨p1,hp1⟩:∃p,(ty.kind != 4)=p:=⟨_,rfl⟩;obtain ⟨p2,hp2⟩:∃p,((ty.flds.length:Int) != (rv.args.length:Int))=p:=⟨_,rfl⟩
  have HF1:Hid (R=if p1=true\/p2=true then 22 else opsE b rv.args ty.flds):=aF (by
   rw [HF0.out,<- hp1,<- hp2]
   simp only [bne_iff_ne,ne_eq,Int.ofNat_inj])
  generalize opsE b rv.args ty.flds=oe at HC HF1;have HF:Hid (R=firstE [fail22 (p1 || p2),oe]):=aF (by rw [HF1.out];cases p1 <;> cases p2 <;> simp [firstE,fail22]);have HP1:=aF hp1;have HP2:=aF hp2;clear HR2 HF0 HF1 hu h0 hty hgd q8;unfold rvC at HU ⊢;unfold ckC at HC;rw [hA3] at HC ⊢;rw [hk] at HU ⊢;go_enter Tryz.func117,Tryz.ntmps117
  go_wp2_with (go_at_call 150;refine (HU.out _).mono ?_;rintro e' w1 ⟨rfl,hb1⟩;have HB:=aF ((bel2 _ _ _).trans (hb1.mono (bel2 _ _ _).size));obtain ⟨y,z⟩:=cT hb1;have HY:=aF y;have HZ:=aF z;obtain ⟨y0,y1,y2,y3,y4,y5,y6,y7⟩:=aT HY.out;obtain ⟨z0,z1,z2,z3,z4,z5,z6⟩:=aS HZ.out;have v0:=cM HB.out q0;have v1:=cM HB.out q1;have v2:=cM HB.out q2;have v3:=cM HB.out q3;have v4:=cM HB.out q4;have hlw:=hb1.size;simp only [bI] at hlw;have hlw1:w.heap.size+1<w1.heap.size:=hlw;have hlw0:w.heap.size<w1.heap.size:=cC hlw;clear y z hb1)
  have HBX:=aF ((HB.out.alloc HB.out.size (.cells (tyL ty A5 c5).toArray 81)).drew)
  have hS:(∀i v,[Value.string b.name,.slice bh.A1 b.regions.length bh.c1,.slice bh.A2 b.outl.length bh.c2,.slice (some ⟨bb,oo,none⟩) b.types.length bh.c3,.slice bh.A4 b.locals.length bh.c4,.int .i64 b.args,.slice bh.A5 b.blocks.length bh.c5,.pointer (some ⟨r,0,none⟩)][i]?=some v->(w1.alloc (.cells (tyL ty A5 c5).toArray 81)).drew.cell? ⟨w.heap.size,i,none⟩=some v)/\(∀i v,[Value.int .i64 4,.int .i64 rv.op,.int .i64 rv.reg,.bool rv.mu,.int .i64 rv.place.loc,.slice A rv.place.proj.length c,.slice B rv.args.length d][i]?=some v->(w1.alloc (.cells (tyL ty A5 c5).toArray 81)).drew.cell? ⟨w.heap.size+1,i,none⟩=some v)/\(∀i v,(tyL ty A5 c5)[i]?=some v->(w1.alloc (.cells (tyL ty A5 c5).toArray 81)).drew.cell? ⟨w1.heap.size,i,none⟩=some v):=
   ⟨fun i v hi=>cM (((aX _ _).alloc (aY _) _).drew) (HY.out i v hi),fun i v hi=>cM (((aX _ _).alloc (aY _) _).drew) (HZ.out i v hi),cU w1 (tyL ty A5 c5) _⟩
  clear y0 y1 y2 y3 y4 y5 y6 y7 z0 z1 z2 z3 z4 z5 z6 v0 v1 v2 v3 v4 q0 q1 q2 q3 q4;refine cO (S:=fun X=>(aA (bdM b bh.A1 bh.c1 bh.A2 bh.c2 (some ⟨bb,oo,none⟩) bh.c3 bh.A4 bh.c4 bh.A5 bh.c5 [.pointer (some ⟨r,0,none⟩)]) X w.heap.size)/\(aA [Value.int .i64 4,.int .i64 rv.op,.int .i64 rv.reg,.bool rv.mu,.int .i64 rv.place.loc,.slice A rv.place.proj.length c,.slice B rv.args.length d] X (w.heap.size+1))/\(aA (tyL ty A5 c5) X w1.heap.size)) [0,1,2,3,4,5,6,7,8,9,10,11,13,14,15,16,17,12,18,19,20,21] (by kernel_rfl) ?_;(iterate 3 (refine cP (v:=?_) ?_ hS ?_;rotate_left;(next=>(rintro X ⟨hX,hY,hZ⟩;have u0:=hZ 0 _ rfl;(try simp only [aI]);go_simp;rfl));simp only [aM]));try rw [HP1.out]
  cases p1
  ·((refine cP (v:=?_) ?_ hS ?_;rotate_left;(next=>(rintro X -;(try simp only [aI]);go_simp;rfl));simp only [aM]))
   (iterate 6 (refine cP (v:=?_) ?_ hS ?_;rotate_left;(next=>(rintro X ⟨hX,hY,hZ⟩;have u4:=hZ 4 _ rfl;have u6:=hY 6 _ rfl;(try simp only [aI]);go_simp;rfl));simp only [aM]));((refine cP (v:=?_) ?_ hS ?_;rotate_left;(next=>(rintro X -;(try simp only [aI]);go_simp;rfl));simp only [aM]))
   try rw [HP2.out]
   ((refine cP (v:=?_) ?_ hS ?_;rotate_left;(next=>(rintro X -;(try simp only [aI]);go_simp;rfl));simp only [aM]))
   (iterate 5 (refine cP (v:=?_) ?_ hS ?_;rotate_left;(next=>(rintro X ⟨hX,hY,hZ⟩;obtain ⟨s0,s1,s2,s3,s4,s5,s6,s7⟩:=aT hX;have u4:=hZ 4 _ rfl;have u6:=hY 6 _ rfl;(try simp only [aI]);go_simp;rfl));simp only [aM]));(refine cS (fun K1 hK1=>?_);simp only [aM];rw [bA (by rfl)];go_simp);refine (dY _ _).mono ?_;rintro e' w3 ⟨rfl,hw⟩;obtain rfl:=hw.symm;refine hK1.out _ _ (fun _=>hS) ?_;clear hK1;(refine cS (fun K1 hK1=>?_);simp only [aM];rw [bA (by rfl)];go_simp);refine (HC.out _ HBX.out).mono ?_;rintro e' w2 ⟨rfl,hb⟩;replace hS:=bJ (cN hS.1 hb) (bJ (cN hS.2.1 hb) (cN hS.2.2 hb));have HB2:=aF (HBX.out.trans (hb.mono HBX.out.size));clear hb;refine hK1.out _ _ (fun _=>hS) ?_;clear hK1;(refine cS (fun K1 hK1=>?_);simp only [aM];rw [bA (by rfl)];go_simp);replace hS:=bJ (fun i v hi=>cM ((aX _ _).alloc (aY _) (.cells #[Value.int .i64 (fail22 p2),.int .i64 oe] 31)) (hS.1 i v hi)) (bJ (fun i v hi=>cM ((aX _ _).alloc (aY _) (.cells #[Value.int .i64 (fail22 p2),.int .i64 oe] 31)) (hS.2.1 i v hi)) (fun i v hi=>cM ((aX _ _).alloc (aY _) (.cells #[Value.int .i64 (fail22 p2),.int .i64 oe] 31)) (hS.2.2 i v hi)));refine hK1.out _ _ (fun _=>hS) ?_;clear hK1;(refine cS (fun K1 hK1=>?_);simp only [aM];rw [bA (by rfl)];go_simp);refine (fP [fail22 p2,oe] _ 2 _ (pF _ _ _ _ _ rfl)).mono ?_;rintro e' w4 ⟨rfl,hw⟩;obtain rfl:=hw.symm;refine hK1.out _ _ (fun _=>hS) ?_;clear hK1;((refine cP (v:=?_) ?_ hS ?_;rotate_left;(next=>(rintro X -;(try simp only [aI]);go_simp;rfl));simp only [aM]))
   refine cZ ?_;go_wp2_with fail
   go_ret;exact ⟨by rw [HF.out];rfl,HB2.out.alloc HB2.out.size _⟩
  ·((refine cP (v:=?_) ?_ hS ?_;rotate_left;(next=>(rintro X -;(try simp only [aI]);go_simp;rfl));simp only [aM]))
   (iterate 7 (refine cY (v:=undef) (by kernel_rfl) (fun _ _ _ h=>h) (Or.inr ⟨by rfl,rfl⟩) hS ?_;simp only [aM]));((refine cP (v:=?_) ?_ hS ?_;rotate_left;(next=>(rintro X -;(try simp only [aI]);go_simp;rfl));simp only [aM]))
   (iterate 5 (refine cP (v:=?_) ?_ hS ?_;rotate_left;(next=>(rintro X ⟨hX,hY,hZ⟩;obtain ⟨s0,s1,s2,s3,s4,s5,s6,s7⟩:=aT hX;have u4:=hZ 4 _ rfl;have u6:=hY 6 _ rfl;(try simp only [aI]);go_simp;rfl));simp only [aM]));(refine cS (fun K1 hK1=>?_);simp only [aM];rw [bA (by rfl)];go_simp);refine (dY _ _).mono ?_;rintro e' w3 ⟨rfl,hw⟩;obtain rfl:=hw.symm;refine hK1.out _ _ (fun _=>hS) ?_;clear hK1;(refine cS (fun K1 hK1=>?_);simp only [aM];rw [bA (by rfl)];go_simp);refine (HC.out _ HBX.out).mono ?_;rintro e' w2 ⟨rfl,hb⟩;replace hS:=bJ (cN hS.1 hb) (bJ (cN hS.2.1 hb) (cN hS.2.2 hb));have HB2:=aF (HBX.out.trans (hb.mono HBX.out.size));clear hb;refine hK1.out _ _ (fun _=>hS) ?_;clear hK1;(refine cS (fun K1 hK1=>?_);simp only [aM];rw [bA (by rfl)];go_simp);replace hS:=bJ (fun i v hi=>cM ((aX _ _).alloc (aY _) (.cells #[Value.int .i64 (fail22 true),.int .i64 oe] 31)) (hS.1 i v hi)) (bJ (fun i v hi=>cM ((aX _ _).alloc (aY _) (.cells #[Value.int .i64 (fail22 true),.int .i64 oe] 31)) (hS.2.1 i v hi)) (fun i v hi=>cM ((aX _ _).alloc (aY _) (.cells #[Value.int .i64 (fail22 true),.int .i64 oe] 31)) (hS.2.2 i v hi)));refine hK1.out _ _ (fun _=>hS) ?_;clear hK1;(refine cS (fun K1 hK1=>?_);simp only [aM];rw [bA (by rfl)];go_simp);refine (fP [fail22 true,oe] _ 2 _ (pF _ _ _ _ _ rfl)).mono ?_;rintro e' w4 ⟨rfl,hw⟩;obtain rfl:=hw.symm;refine hK1.out _ _ (fun _=>hS) ?_;clear hK1;((refine cP (v:=?_) ?_ hS ?_;rotate_left;(next=>(rintro X -;(try simp only [aI]);go_simp;rfl));simp only [aM]))
   refine cZ ?_;go_wp2_with fail
   go_ret;exact ⟨by rw [HF.out];rfl,HB2.out.alloc HB2.out.size _⟩
end
section
open Go Go.ChangeShapes Go.WideShapes Go.ChangeAt Go.RowKit Go.Joins Go.Deep
theorem xFY {α : Type} {n:Nat} {p:Nat-> α -> Prop} (h:∀i,i<n->∃x,p i x):∃xs:List α,xs.length=n/\∀i x,xs[i]?=some x->p i x:=by
 induction n with
 | zero=>exact ⟨[],rfl,by simp⟩
 | succ n ih=>
   obtain ⟨xs,hl,hx⟩:=ih (fun i hi=>h i (by omega));obtain ⟨y,hy⟩:=h n (by omega);refine ⟨xs ++ [y],by simp [hl],fun i x hi=>?_⟩;by_cases hin:i<n
   ·rw [List.getElem?_append_left (by omega)] at hi;exact hx i x hi
   ·have hlt:=(List.getElem?_eq_some_iff.1 hi).1;simp only [bB,cG] at hlt;obtain rfl:i=n:=by omega
    rw [<- hl,List.getElem?_concat_length] at hi;cases hi
    exact hy
theorem uH (b o n:Nat):(⟨b,o,none⟩:Addr).add n=⟨b,o+n,none⟩:=by
 unfold Addr.add;split
 ·next h=>subst h;rfl
 ·rfl
theorem xF {w:World} {a:Addr} {v:Value} (h:w.cell? a=some v):a.spot=none:=by
 cases hs:a.spot with
 | none=>rfl
 | some x=>
   unfold World.cell? at h;rw [hs] at h;split at h
   ·simp at h
   ·cases h
section
variable {H:Type} {enc:TypeId × Value->H} {P:Program} {w:World} {base:Nat} {spare:Nat->Bool} {held:Bool}
theorem yG {α : Type} {k:Nat} {R:Rd α} {t e:TypeId} {fuel:Nat} {cs:List Value} {x:DataW H × List MemPlace} (ht:P.underlying t=some (.slice e)) (hk:P.cellsOf e=k) (hk0:0<k)
 (h:DataW.trod enc P w base spare held fuel t cs=some x)
 (hR:∀(b o n:Nat) (cs':List Value) (y:DataW H × List MemPlace),cs'.length=k->(∀j,j<k->w.cell? ⟨b,o+j,none⟩=cs'[j]?)->DataW.trod enc P w base spare held n e cs'=some y->∃z,R w w.heap.size b o z):
 ∃A c,∃xs:List α,cs=[.slice A xs.length c]/\Slc k R w A c xs:=by
 rcases open_slice ht h with ⟨rfl,_⟩ | ⟨a,len,cap,m,n,D,Pl,rfl,hb,hl,hm,hmm,hx,hi⟩
 ·exact ⟨none,0,[],rfl,Sl.nil,by simp,by omega⟩
 ·obtain ⟨b,off,s⟩:=a;have hlm:len<=m:=by rw [hmm];split <;> omega
  rw [hk] at hi;unfold maxLen at hm;by_cases h0:len=0
  ·subst h0;exact ⟨_,cap,[],rfl,Sl.nil,by simp,hm⟩
  ·have hfirst:∃v,w.cell? ⟨b,off,s⟩=some v:=by
    obtain ⟨cs',hc,_⟩:=hi 0 (by omega);obtain ⟨_,hcl,hat⟩:=World.cells?_some hc;have h1:=hat 0 hk0;rw [bD (by omega)] at h1;simp only [Nat.zero_mul,Addr.add,if_true] at h1;exact ⟨_,h1⟩
   obtain ⟨v,hv⟩:=hfirst;have hs:s=none:=xF hv;subst hs
   obtain ⟨xs,hxl,hxs⟩:=xFY (n:=len) (p:=fun i z=>R w w.heap.size b (off+i * k) z) (fun i hi'=>by
    obtain ⟨cs',hc,ht'⟩:=hi i (by omega);obtain ⟨_,hcl,hat⟩:=World.cells?_some hc;refine hR b (off+i * k) n cs' _ hcl (fun j hj=>?_) ht';have h1:=hat j hj;rw [uH,uH] at h1
    exact h1)
   exact ⟨_,cap,xs,by rw [hxl],⟨fun _=>⟨b,off,rfl,cD _ _ hv,hxs⟩,by omega,hm⟩⟩
theorem zH {e:TypeId} {fs:Array Field} {n:Nat} {cs:List Value} {y:DataW H × List MemPlace} (he:P.underlying e=some (.struct fs)) (hone:oneCellFields P fs=true)
 (h:DataW.trod enc P w base spare held n e cs=some y) (hl:cs.length=fs.size) {j:Nat} {f:Field} (hf:fs[j]?=some f):
 ∃v m y',cs[j]?=some v/\DataW.trod enc P w base spare held m f.type [v]=some y':=by
 obtain ⟨ys,m,_,_,_,hyl,hfl⟩:=DataW.trod_struct he h;have hjl:j<fs.size:=(Array.getElem?_eq_some_iff.1 hf).1;obtain ⟨ho,hk⟩:=hone_of hone j f hf;have h1:=hfl j f hf;rw [ho,hk,cH (show j<cs.length by omega)] at h1;refine ⟨cs[j],m,ys[j],bD _,?_⟩;rw [bD (show j<ys.length by omega)] at h1;exact h1
theorem iB (hl:laidOutB P=true) {W W':World} {sp:Nat->Bool}:∀(ts:List TypeId) (vs:List Value) (ds:List (DataW H)) (ps:List MemPlace),
 (∀t∈ts,P.readableRec t=true/\t<P.types.size)->DataW.TrodAll enc P W 0 (fun _=>true) true ts vs ds ps->(∀p∈ps,W.sameAt W' p)->(∀p∈ps,sp p.block=true)->DataW.TrodAll enc P W' 0 sp true ts vs ds ps
 | [],[],[],_,_,h,_,_=>h
 | t :: ts,v :: vs,d :: ds,ps,hr,h,hs,hp=>by
   obtain ⟨p,q,h1,h2,rfl⟩:=h
   exact ⟨p,q,WideElems.Trod_stays hl (hr t (by simp)).1 (hr t (by simp)).2 h1 (fun x hx=>hs x (by simp [hx])) (fun x hx=>hp x (by simp [hx])),
    iB hl ts vs ds q (fun t' ht=>hr t' (by simp [ht])) h2 (fun x hx=>hs x (by simp [hx])) (fun x hx=>hp x (by simp [hx])),rfl⟩
 | [],[],_ :: _,_,_,h,_,_=>h.elim
 | [],_ :: _,_,_,_,h,_,_=>h.elim
 | _ :: _,[],_,_,_,h,_,_=>h.elim
 | _ :: _,_ :: _,[],_,_,h,_,_=>h.elim
theorem xCP {f:Func} {s:ChangeSpec} {apart fresh handsOn:Bool} {W W':World} {args:Array Value} {ds:List (DataW H)} {before:List MemPlace} {tb:TypeId}
 (hl:laidOutB P=true) (hvars:s.vars=[]) (hrt:f.resultTypes = #[tb]) (htb:P.underlying tb=some .bool)
 (hfn:s.fn H ds={ results:=[.lit (.bool true)],args:=ds }) (hrd:∀t∈f.params.toList,P.readableRec t=true/\t<P.types.size)
 (hW:DataW.Whole enc P f.params.toList s.vars apart W args.toList ds [] before) (hb:Below W.heap.size W W'):
 s.post enc P f apart fresh handsOn false W args (.bool true) W':=by
 have hlt:∀p∈before,p.block<W.heap.size:=fun p hp=>hW.lt p hp
 have hW2:=hW;obtain ⟨p,q,hA,hV,hbe,_,_⟩:=hW2;rw [hvars] at hV;obtain ⟨_,rfl⟩:=trodVars_none hV;rw [List.append_nil] at hbe;subst hbe;refine ⟨ds,[],before,[],before,[],hW,?_,?_,?_,World.keptBut_mono (fun p hp=>⟨hp,Or.inr (Or.inl hp)⟩) (hb.frame (· ∈ before)),fun h=>by cases h⟩
 ·rw [List.append_nil,hfn,hrt];exact trodAll_mk1 (shut_bool htb true)
 ·rw [List.append_nil,hfn];exact iB hl _ _ _ _ hrd hA (fun x hx=>hb.same (hlt x hx)) (fun x hx=>by simpa using hlt x hx)
 ·rw [List.append_nil,hfn,hvars];rfl
end
theorem Tryz.own:ownKnob Tryz.prog.godebug=none:=by kernel_rfl
theorem Tryz.laidOut:laidOutB Tryz.prog=true:=by kernel_rfl
section
variable {H:Type} {enc:TypeId × Value->H} {w:World} {base:Nat} {spare:Nat->Bool} {held:Bool}
end
theorem yO {α : Type}:∀{l:List α},l.length=2->∃a b,l=[a,b]
 | [a,b],_=>⟨a,b,rfl⟩
section
variable {H:Type} {enc:TypeId × Value->H} {P:Program} {w:World} {base:Nat} {spare:Nat->Bool} {held:Bool}
theorem yE {e:TypeId} {f0 f1:Field} {m:Nat} {cs:List Value} {a b:Int} {x:DataW H × List MemPlace} (he:P.underlying e=some (.struct #[f0,f1])) (hone:oneCellFields P #[f0,f1]=true) (hC:P.cellsOf e=2)
 (hf0:P.underlying f0.type=some (.int .i64)) (hf1:P.underlying f1.type=some (.int .i64))
 (h:DataW.trod enc P w base spare held m e cs=some x) (hx1:x.1 = .agg [.lit (.int .i64 a),.lit (.int .i64 b)]):cs[0]?=some (.int .i64 a)/\cs[1]?=some (.int .i64 b):=by
 obtain ⟨ys,n,_,rfl,hcl,hyl,hfl⟩:=DataW.trod_struct he h;obtain ⟨y0,y1,rfl⟩:=yO (show ys.length=2 from hyl);obtain ⟨c0,c1,rfl⟩:=yO (hcl.trans hC);obtain ⟨o0,k0⟩:=hone_of hone 0 f0 rfl;obtain ⟨o1,k1⟩:=hone_of hone 1 f1 rfl;have g0:=hfl 0 f0 rfl;have g1:=hfl 1 f1 rfl;rw [o0,k0] at g0;rw [o1,k1] at g1;obtain ⟨n0,e0,z0,_⟩:=DataW.trod_int (k:= .i64) (x:=y0) hf0 g0;obtain ⟨n1,e1,z1,_⟩:=DataW.trod_int (k:= .i64) (x:=y1) hf1 g1;simp only [cJ,cK,z0,z1,DataW.agg.injEq,List.cons.injEq,DataW.lit.injEq,Lit.int.injEq,and_true,true_and] at hx1;obtain ⟨rfl,rfl⟩:=hx1;simp at e0 e1;subst e0 e1;exact ⟨rfl,rfl⟩
theorem vP {t e:TypeId} {n:Nat} {f0 f1:Field} {m:Nat} {cs:List Value} {l:List (Int × Int)} {x:DataW H × List MemPlace} (ht:P.underlying t=some (.array n e)) (he:P.underlying e=some (.struct #[f0,f1])) (hone:oneCellFields P #[f0,f1]=true) (hC:P.cellsOf e=2)
 (hf0:P.underlying f0.type=some (.int .i64)) (hf1:P.underlying f1.type=some (.int .i64))
 (h:DataW.trod enc P w base spare held m t cs=some x) (hx:x.1 = .agg (l.map fun p=> .agg [.lit (.int .i64 p.1),.lit (.int .i64 p.2)])) (i:Nat) (p:Int × Int) (hi:l[i]?=some p):
 cs[i * 2]?=some (.int .i64 p.1)/\cs[i * 2+1]?=some (.int .i64 p.2):=by
 obtain ⟨xs,k,_,rfl,hcl,hxl,hel⟩:=DataW.trod_array ht h;have hm:xs.map (·.1)=l.map fun p=> .agg [.lit (.int .i64 p.1),.lit (.int .i64 p.2)]:=by simpa using hx
 have hll:xs.length=l.length:=by simpa using congrArg List.length hm
 have hil:=(List.getElem?_eq_some_iff.1 hi).1;have h1:=hel i (by omega);rw [hC,bD (show i<xs.length by omega)] at h1
 have hx1:xs[i].1 = .agg [.lit (.int .i64 p.1),.lit (.int .i64 p.2)]:=by
  have:=congrArg (fun z=>z[i]?) hm;simp only [cL,hi,bD (show i<xs.length by omega),Option.map_some,cI] at this;exact this
 obtain ⟨q0,q1⟩:=yE he hone hC hf0 hf1 h1 hx1;simp only [List.getElem?_take,List.getElem?_drop,Nat.add_zero] at q0 q1;rw [bA (by omega)] at q0 q1;exact ⟨q0,q1⟩
end
theorem gUn : Tryz.prog.globalNamed "mirtower/valid.unary" = some 0 := by kernel_rfl
theorem gUnT:(Tryz.prog.globals[0]?).map (·.type)=some 214:=by kernel_rfl
theorem gBi : Tryz.prog.globalNamed "mirtower/valid.binary" = some 1 := by kernel_rfl
theorem gBiT:(Tryz.prog.globals[1]?).map (·.type)=some 215:=by kernel_rfl
theorem xDF:Tryz.prog.cellsOf 213=2:=by kernel_rfl
theorem nG {n:String} {g:Nat} {tid:TypeId} {k:Nat} {l:List (Int × Int)} {r:List (String × DataW Unit)} {w:World} (hg:Tryz.prog.globalNamed n=some g) (ht:(Tryz.prog.globals[g]?).map (·.type)=some tid) (hu:Tryz.prog.underlying tid=some (.array k 213)) (hk:l.length=k) (hk0:0<k) (hkm:k<=1000)
 (h:laidMet Tryz.prog ((n,.agg (l.map fun p=> .agg [.lit (.int .i64 p.1),.lit (.int .i64 p.2)])) :: r) w):Slc 2 RPr w (some ⟨g,0,none⟩) k l:=by
 subst hk;obtain ⟨ps,⟨g0,t0,cs0,f0,p0,q0,hg0,ht0,hv0,hd0,_,e0⟩,_,_⟩:=h;obtain rfl:=Option.some.inj (hg.symm.trans hg0);obtain rfl:=Option.some.inj (ht.symm.trans ht0);have hc:=fun i p hi=>vP hu Tryz.underlying213 (by kernel_rfl) xDF Tryz.underlying3 Tryz.underlying3 hd0 rfl i p hi
 have hcell:=fun i=>World.var?_cell hg0 hv0 i
 refine ⟨fun _=>⟨g,0,rfl,?_,fun i p hi=>?_⟩,aY _,by omega⟩
 ·obtain ⟨p,hp⟩:∃p,l[0]?=some p:=⟨_,bD hk0⟩;have h1:=(hc 0 p hp).1;have h2:=hcell 0;rw [show cs0[0]?=cs0.toList[0]? from (Array.getElem?_toList ..).symm,show cs0.toList[0]?=_ from h1] at h2;exact cD _ _ h2
 ·have h1:=hc i p hi;have h2:=hcell (i * 2);have h3:=hcell (i * 2+1);rw [<- Array.getElem?_toList,h1.1] at h2;rw [<- Array.getElem?_toList,h1.2] at h3;refine ⟨?_,?_⟩
  ·rw [Nat.zero_add];exact h2
  ·rw [Nat.zero_add];exact h3
end
section
open Go Go.RowKit Go.Maps
theorem xK (b:Bdy) (hok:DeclOk b) (m:Nat) (HREC0:∀(s t:Int),s.toNat+t.toNat<m->∀(A D:Option Addr) (c d:Nat) (w:World),Slc 5 RTy w A c b.types->Slc 2 RPr w D d b.outl->Calls Tryz.prog 172 #[.slice D b.outl.length d,.int .i64 b.regions.length,.slice A b.types.length c,.int .i64 s,.int .i64 t] w fun e' w'=>e' = .returned (.bool (subB b s t))/\Below w.heap.size w w') (i j0:Nat) (hm:(i:Int).toNat+(j0:Int).toNat<m+1) (hi:i<b.types.length) (hj0:j0<b.types.length) (A D:Option Addr) (c d:Nat) (w:World) (hs:Slc 5 RTy w A c b.types) (hd:Slc 2 RPr w D d b.outl) (hcase:((b.types[i].kind != b.types[j0].kind) || (b.types[i].mu != b.types[j0].mu) || ((b.types[i].flds.length:Int) != (b.types[j0].flds.length:Int)))=true):
 Calls Tryz.prog 172 #[.slice D b.outl.length d,.int .i64 b.regions.length,.slice A b.types.length c,.int .i64 i,.int .i64 j0] w fun e' w'=>e' = .returned (.bool (subB b i j0))/\Below w.heap.size w w':=by
 have hle:=hs.le;have hbig:=hs.big;have HREC:=aF (fun (x y:Int) (h:x.toNat+y.toNat<m) W (hb:Below w.heap.size w W)=>HREC0 x y h A D c d W (hs.keep RTy.keeps hb) (hd.keep RPr.keeps hb));have HO:=aF (fun (x y:Int) W (hb:Below w.heap.size w W)=>iF b.outl b.regions.length x y D d W (hd.keep RPr.keeps hb) hok.pairs (by have:=hok.nreg;omega));have h1:¬(i:Int)<0:=by omega
 have h2:¬(b.types.length:Int)<=(i:Int):=by omega
 have h3:¬(j0:Int)<0:=by omega
 have h4:¬(b.types.length:Int)<=(j0:Int):=by omega
 have HSB:=aF (iU hok.tyok hi hj0);have HOKS:=aF (hok.tyok i hi);have HOKT:=aF (hok.tyok j0 hj0);obtain ⟨bb,oo,hA,hbb,hxs⟩:=hs.sl.at_ hi;obtain ⟨b2,o2,hA2,hbb2,hxt⟩:=hs.sl.at_ hj0;have hAA:some (⟨bb,oo,none⟩:Addr)=some ⟨b2,o2,none⟩:=hA.symm.trans hA2;simp only [cI,Addr.mk.injEq,and_true] at hAA;obtain ⟨rfl,rfl⟩:=hAA;clear hA2 hbb2;obtain ⟨ta,hta⟩:∃x,b.types[i]=x:=⟨_,rfl⟩;obtain ⟨tb,htb⟩:∃x,b.types[j0]=x:=⟨_,rfl⟩;rw [hta] at hxs HSB HOKS hcase;rw [htb] at hxt HSB HOKT hcase;obtain ⟨r0,r1,r2,r3,A2,c2,r4,r6,r7,r8⟩:=hxs;obtain ⟨q0,q1,q2,q3,B2,d2,q4,q6,q7,q8⟩:=hxt;have HFA:Hid (Slc 1 RInt w A2 c2 ta.flds):=aF ⟨r8,r6,r7⟩;have HFB:Hid (Slc 1 RInt w B2 d2 tb.flds):=aF ⟨q8,q6,q7⟩;subst hA;simp only [bW] at hm;have HCALL:Hid (∀(x y:Int),((0<=x/\x<i/\0<=y/\y<j0)\/(0<=x/\x<j0/\0<=y/\y<i))->∀W,Below w.heap.size w W->_):=aF (fun x y h W hb=>HREC.out x y (by omega) W hb);clear hs hd r8 q8 hta htb HREC;obtain ⟨ma,hma⟩:∃q,ta.mu=q:=⟨_,rfl⟩;obtain ⟨mb,hmb⟩:∃q,tb.mu=q:=⟨_,rfl⟩;obtain ⟨ka,hka⟩:∃q,ta.kind=q:=⟨_,rfl⟩;obtain ⟨kb,hkb⟩:∃q,tb.kind=q:=⟨_,rfl⟩;obtain ⟨na,hna⟩:∃q,ta.flds.length=q:=⟨_,rfl⟩;obtain ⟨nb,hnb⟩:∃q,tb.flds.length=q:=⟨_,rfl⟩;rw [hma] at r1;rw [hmb] at q1;rw [hka] at r0;rw [hkb] at q0;rw [hna] at r4 r6;rw [hnb] at q4 q6;obtain ⟨p1,hp1⟩:∃q,(ka != kb)=q:=⟨_,rfl⟩;obtain ⟨p2,hp2⟩:∃q,(ma != mb)=q:=⟨_,rfl⟩;obtain ⟨p3,hp3⟩:∃q,((na:Int) != (nb:Int))=q:=⟨_,rfl⟩;rw [hma,hmb,hka,hkb,hna,hnb,hp1,hp2,hp3] at hcase
 have HLAW:Hid (subB b i j0=(!p1 && !p2 && !p3 && (ta.flds.zip tb.flds).all (fun p=>subB b p.1 p.2) && (decide (ta.kind≠3) || (outB b.outl b.regions.length ta.reg tb.reg && subB b ta.elem tb.elem && (!ta.mu || subB b tb.elem ta.elem))))):=aF (by
  rw [HSB.out];unfold subS;have g1:decide (ta.kind=tb.kind) = !p1:=by rw [<- hp1,hka,hkb,bR];simp
  have g2:decide (ta.mu=tb.mu) = !p2:=by rw [<- hp2,hma,hmb];cases ma <;> cases mb <;> rfl
  have g3:decide (ta.flds.length=tb.flds.length) = !p3:=by rw [<- hp3,hna,hnb,bR];simp;omega
  rw [g1,g2,g3])
 clear HSB;have HB0:=aF (fun x y=>bel2 w x y);have HB0:=aF (fun x y=>bel2 w x y);have HF:Hid (subB b i j0=false):=aF (by rw [HLAW.out];revert hcase;cases p1 <;> cases p2 <;> cases p3 <;> simp);rw [HF.out];clear HLAW HCALL HO hma hmb hka hkb hna hnb;rcases (show p1=true\/(p1=false/\p2=true)\/(p1=false/\p2=false/\p3=true) by revert hcase;cases p1 <;> cases p2 <;> cases p3 <;> simp) with rfl | ⟨rfl,rfl⟩ | ⟨rfl,rfl,rfl⟩
 ·clear hcase hp2 hp3;go_enter Tryz.func172,Tryz.ntmps172
  go_wp2_with fail
  all_goals first
   | (exfalso;omega)
   | (go_ret;exact ⟨rfl,HB0.out _ _⟩)
 ·clear hcase hp3;have hmm:(ma=true/\mb=false)\/(ma=false/\mb=true):=by revert hp2;cases ma <;> cases mb <;> simp
  clear hp2;rcases hmm with ⟨rfl,rfl⟩ | ⟨rfl,rfl⟩
  all_goals
   go_enter Tryz.func172,Tryz.ntmps172
   go_wp2_with fail
   all_goals first
    | (exfalso;omega)
    | (go_ret;exact ⟨rfl,HB0.out _ _⟩)
 ·clear hcase;obtain rfl:ma=mb:=by revert hp2;cases ma <;> cases mb <;> simp
  clear hp2;go_enter Tryz.func172,Tryz.ntmps172
  go_wp2_with fail
  all_goals first
   | (exfalso;omega)
   | (go_ret;exact ⟨rfl,HB0.out _ _⟩)
theorem xBS (b:Bdy) (hok:DeclOk b) (m:Nat) (HREC0:∀(s t:Int),s.toNat+t.toNat<m->∀(A D:Option Addr) (c d:Nat) (w:World),Slc 5 RTy w A c b.types->Slc 2 RPr w D d b.outl->Calls Tryz.prog 172 #[.slice D b.outl.length d,.int .i64 b.regions.length,.slice A b.types.length c,.int .i64 s,.int .i64 t] w fun e' w'=>e' = .returned (.bool (subB b s t))/\Below w.heap.size w w') (i j0:Nat) (hm:(i:Int).toNat+(j0:Int).toNat<m+1) (hi:i<b.types.length) (hj0:j0<b.types.length) (A D:Option Addr) (c d:Nat) (w:World) (hs:Slc 5 RTy w A c b.types) (hd:Slc 2 RPr w D d b.outl) (hcase:((b.types[i].kind != b.types[j0].kind) || (b.types[i].mu != b.types[j0].mu) || ((b.types[i].flds.length:Int) != (b.types[j0].flds.length:Int)))=false) (hk:b.types[i].kind≠3):
 Calls Tryz.prog 172 #[.slice D b.outl.length d,.int .i64 b.regions.length,.slice A b.types.length c,.int .i64 i,.int .i64 j0] w fun e' w'=>e' = .returned (.bool (subB b i j0))/\Below w.heap.size w w':=by
 have hle:=hs.le;have hbig:=hs.big;have HREC:=aF (fun (x y:Int) (h:x.toNat+y.toNat<m) W (hb:Below w.heap.size w W)=>HREC0 x y h A D c d W (hs.keep RTy.keeps hb) (hd.keep RPr.keeps hb));have HO:=aF (fun (x y:Int) W (hb:Below w.heap.size w W)=>iF b.outl b.regions.length x y D d W (hd.keep RPr.keeps hb) hok.pairs (by have:=hok.nreg;omega));have h1:¬(i:Int)<0:=by omega
 have h2:¬(b.types.length:Int)<=(i:Int):=by omega
 have h3:¬(j0:Int)<0:=by omega
 have h4:¬(b.types.length:Int)<=(j0:Int):=by omega
 have HSB:=aF (iU hok.tyok hi hj0);have HOKS:=aF (hok.tyok i hi);have HOKT:=aF (hok.tyok j0 hj0);obtain ⟨bb,oo,hA,hbb,hxs⟩:=hs.sl.at_ hi;obtain ⟨b2,o2,hA2,hbb2,hxt⟩:=hs.sl.at_ hj0;have hAA:some (⟨bb,oo,none⟩:Addr)=some ⟨b2,o2,none⟩:=hA.symm.trans hA2;simp only [cI,Addr.mk.injEq,and_true] at hAA;obtain ⟨rfl,rfl⟩:=hAA;clear hA2 hbb2;obtain ⟨ta,hta⟩:∃x,b.types[i]=x:=⟨_,rfl⟩;obtain ⟨tb,htb⟩:∃x,b.types[j0]=x:=⟨_,rfl⟩;rw [hta] at hxs HSB HOKS hcase hk;rw [htb] at hxt HSB HOKT hcase;obtain ⟨r0,r1,r2,r3,A2,c2,r4,r6,r7,r8⟩:=hxs;obtain ⟨q0,q1,q2,q3,B2,d2,q4,q6,q7,q8⟩:=hxt;have HFA:Hid (Slc 1 RInt w A2 c2 ta.flds):=aF ⟨r8,r6,r7⟩;have HFB:Hid (Slc 1 RInt w B2 d2 tb.flds):=aF ⟨q8,q6,q7⟩;subst hA;simp only [bW] at hm;have HCALL:Hid (∀(x y:Int),((0<=x/\x<i/\0<=y/\y<j0)\/(0<=x/\x<j0/\0<=y/\y<i))->∀W,Below w.heap.size w W->_):=aF (fun x y h W hb=>HREC.out x y (by omega) W hb);clear hs hd r8 q8 hta htb HREC;obtain ⟨ma,hma⟩:∃q,ta.mu=q:=⟨_,rfl⟩;obtain ⟨mb,hmb⟩:∃q,tb.mu=q:=⟨_,rfl⟩;obtain ⟨ka,hka⟩:∃q,ta.kind=q:=⟨_,rfl⟩;obtain ⟨kb,hkb⟩:∃q,tb.kind=q:=⟨_,rfl⟩;obtain ⟨na,hna⟩:∃q,ta.flds.length=q:=⟨_,rfl⟩;obtain ⟨nb,hnb⟩:∃q,tb.flds.length=q:=⟨_,rfl⟩;rw [hma] at r1;rw [hmb] at q1;rw [hka] at r0;rw [hkb] at q0;rw [hna] at r4 r6;rw [hnb] at q4 q6;obtain ⟨p1,hp1⟩:∃q,(ka != kb)=q:=⟨_,rfl⟩;obtain ⟨p2,hp2⟩:∃q,(ma != mb)=q:=⟨_,rfl⟩;obtain ⟨p3,hp3⟩:∃q,((na:Int) != (nb:Int))=q:=⟨_,rfl⟩;rw [hma,hmb,hka,hkb,hna,hnb,hp1,hp2,hp3] at hcase
 have HLAW:Hid (subB b i j0=(!p1 && !p2 && !p3 && (ta.flds.zip tb.flds).all (fun p=>subB b p.1 p.2) && (decide (ta.kind≠3) || (outB b.outl b.regions.length ta.reg tb.reg && subB b ta.elem tb.elem && (!ta.mu || subB b tb.elem ta.elem))))):=aF (by
  rw [HSB.out];unfold subS;have g1:decide (ta.kind=tb.kind) = !p1:=by rw [<- hp1,hka,hkb,bR];simp
  have g2:decide (ta.mu=tb.mu) = !p2:=by rw [<- hp2,hma,hmb];cases ma <;> cases mb <;> rfl
  have g3:decide (ta.flds.length=tb.flds.length) = !p3:=by rw [<- hp3,hna,hnb,bR];simp;omega
  rw [g1,g2,g3])
 clear HSB;have HB0:=aF (fun x y=>bel2 w x y);have HB0:=aF (fun x y=>bel2 w x y);obtain ⟨rfl,rfl,rfl⟩:p1=false/\p2=false/\p3=false:=by revert hcase;cases p1 <;> cases p2 <;> cases p3 <;> simp
 obtain rfl:ma=mb:=by revert hp2;cases ma <;> cases mb <;> simp
 obtain rfl:ka=kb:=by simpa using hp1
 obtain rfl:na=nb:=by have h5:(na:Int)=nb:=by simpa using hp3
                      omega
 clear hp1 hp2 hp3 hmb;have HMA:=aF hma;have HKA:=aF hka;have HKB:=aF hkb;have HNA:=aF hna;have HNB:=aF hnb;clear hma hka hkb hna hnb;obtain ⟨EE,hEE⟩:∃EE,(decide (ta.kind≠3) || (outB b.outl b.regions.length ta.reg tb.reg && subB b ta.elem tb.elem && (!ta.mu || subB b tb.elem ta.elem)))=EE:=⟨_,rfl⟩;have HE:=aF hEE;have HL2:Hid (subB b i j0=(((ta.flds.drop 0).zip (tb.flds.drop 0)).all (fun p=>subB b p.1 p.2) && EE)):=aF (by rw [HLAW.out,hEE,bX,bX];simp only [Bool.not_false,Bool.true_and]);generalize subB b (i:Int) (j0:Int)=R at HL2 ⊢;clear hcase HLAW hEE;have HAC:=aF (fun k v (hk:([Value.int .i64 ka,.bool ma,.int .i64 ta.reg,.int .i64 ta.elem,.slice A2 na c2]:List Value)[k]?=some v)=>(cM ((aX _ _).alloc (aY _) (.cells ([Value.int .i64 ka,.bool ma,.int .i64 tb.reg,.int .i64 tb.elem,.slice B2 na d2]:List Value).toArray 81)) (cU w [Value.int .i64 ka,.bool ma,.int .i64 ta.reg,.int .i64 ta.elem,.slice A2 na c2] 81 k v hk)));have HBC0:=aF (cU (w.alloc (.cells ([Value.int .i64 ka,.bool ma,.int .i64 ta.reg,.int .i64 ta.elem,.slice A2 na c2]:List Value).toArray 81)) [Value.int .i64 ka,.bool ma,.int .i64 tb.reg,.int .i64 tb.elem,.slice B2 na d2] 81);rw [bI] at HBC0;go_enter Tryz.func172,Tryz.ntmps172
 go_wp2_with fail
 all_goals try (exfalso;omega)
 all_goals try (exfalso;simp_all;done)
 go_loopg [13] na (fun gk v wr=>∃j:Nat,gk=na - j/\j<=na/\v = .int .i64 j/\Hid (Below w.heap.size w wr)/\Hid (aA [Value.int .i64 ka,.bool ma,.int .i64 ta.reg,.int .i64 ta.elem,.slice A2 na c2] wr w.heap.size)/\Hid (aA [Value.int .i64 ka,.bool ma,.int .i64 tb.reg,.int .i64 tb.elem,.slice B2 na d2] wr (w.heap.size+1))/\Hid (R=(((ta.flds.drop j).zip (tb.flds.drop j)).all (fun p=>subB b p.1 p.2) && EE)))
 case atStart=>exact ⟨0,by omega,by omega,rfl,aF (HB0.out _ _),HAC,HBC0,HL2⟩
 case round=>
  clear HB0 HAC HBC0 HL2 r0 r1 r2 r3 r4 q0 q1 q2 q3 q4;obtain ⟨j,hgk,hj,rfl,HBL,HA,HBC,HV⟩:=hrel;obtain ⟨ca0,ca1,ca2,ca3,ca4⟩:=aQ HA.out;obtain ⟨cb0,cb1,cb2,cb3,cb4⟩:=aQ HBC.out;by_cases hltn:j<na
  ·have hlt:j<ta.flds.length:=by rw [HNA.out];exact hltn
   have hlt2:j<tb.flds.length:=by rw [HNB.out];exact hltn
   obtain ⟨ba,oa,rfl,hba,hxa⟩:=HFA.out.sl.at_ hlt;obtain ⟨b8,o8,rfl,hb8,hxb⟩:=HFB.out.sl.at_ hlt2;have h5:=HOKS.out.2 ta.flds[j] (bN hlt);have h6:=HOKT.out.2 tb.flds[j] (bN hlt2);have HV2:Hid (R=(subB b ta.flds[j] tb.flds[j] && (((ta.flds.drop (j+1)).zip (tb.flds.drop (j+1))).all (fun p=>subB b p.1 p.2) && EE))):=aF (by rw [HV.out,cV hlt,cV hlt2,List.zip_cons_cons,cB,Bool.and_assoc]);obtain ⟨x,hxx⟩:∃x,ta.flds[j]=x:=⟨_,rfl⟩;obtain ⟨y,hyy⟩:∃y,tb.flds[j]=y:=⟨_,rfl⟩;rw [hxx] at hxa h5 HV2;rw [hyy] at hxb h6 HV2;have xa:w.cell? ⟨ba,oa+j,none⟩=some (.int .i64 x):=by simpa [RInt] using hxa
   have xb:w.cell? ⟨b8,o8+j,none⟩=some (.int .i64 y):=by simpa [RInt] using hxb
   have HCX:=aF (HCALL.out x y (Or.inl ⟨h5.1,h5.2,h6.1,h6.2⟩));have XA:=aF xa;have XB:=aF xb;clear hxa hxb h5 h6 hxx hyy HV xa xb;go_wp2_with fail
   have hS:Below w.heap.size w wr.drew/\(aA [Value.int .i64 ka,.bool ma,.int .i64 ta.reg,.int .i64 ta.elem,.slice (some ⟨ba,oa,none⟩) na c2] wr.drew w.heap.size)/\(aA [Value.int .i64 ka,.bool ma,.int .i64 tb.reg,.int .i64 tb.elem,.slice (some ⟨b8,o8,none⟩) na d2] wr.drew (w.heap.size+1)):=⟨HBL.out.drew,HA.out,HBC.out⟩;clear ca0 ca1 ca2 ca3 ca4 cb0 cb1 cb2 cb3 cb4;refine cO (S:=fun X=>Below w.heap.size w X/\(aA [Value.int .i64 ka,.bool ma,.int .i64 ta.reg,.int .i64 ta.elem,.slice (some ⟨ba,oa,none⟩) na c2] X w.heap.size)/\(aA [Value.int .i64 ka,.bool ma,.int .i64 tb.reg,.int .i64 tb.elem,.slice (some ⟨b8,o8,none⟩) na d2] X (w.heap.size+1))) [0,1,2,3,4,5,6,7,8,9,10,11,12,13,14] (by kernel_rfl) ?_;(iterate 13 (refine cP (v:=?_) ?_ hS ?_;rotate_left;(next=>(rintro X ⟨hZ,hX,hY⟩;have s4:=hX 4 _ rfl;have u4:=hY 4 _ rfl;have v1:=cM hZ XA.out;have v2:=cM hZ XB.out;(try simp only [aI]);go_simp;rfl));simp only [aM]));(refine cS (fun K1 hK1=>?_);simp only [aM];rw [bA (by rfl)];go_simp);refine (HCX.out _ hS.1).mono ?_;rintro e' w2 ⟨rfl,hb⟩;replace hS:=bJ (hS.1.trans (hb.mono hS.1.size)) (bJ (cN hS.2.1 hb) (cN hS.2.2 hb));clear hb;refine hK1.out _ _ (fun _=>hS) ?_;clear hK1;have HS2:=aF hS;generalize subB b x y=sb at HV2;((refine cP (v:=?_) ?_ hS ?_;rotate_left;(next=>(rintro X -;(try simp only [aI]);go_simp;rfl));simp only [aM]))
   refine cZ ?_;clear hS;cases sb
   ·have HF:Hid (R=false):=aF (by rw [HV2.out];rfl);go_wp2_with fail
    go_ret;exact ⟨by rw [HF.out];rfl,HS2.out.1⟩
   ·have HF:Hid (R=(((ta.flds.drop (j+1)).zip (tb.flds.drop (j+1))).all (fun p=>subB b p.1 p.2) && EE)):=aF (by rw [HV2.out,Bool.true_and]);go_wp2_with fail
    go_roundg (na - (j+1))
    case measure=>omega
    case rel=>exact ⟨j+1,rfl,by omega,by go_num,aF HS2.out.1,aF HS2.out.2.1,aF HS2.out.2.2,HF⟩
  ·have HR:Hid (R=EE):=aF (by rw [HV.out,bE (by rw [HNA.out];omega:ta.flds.length<=j)];rfl);have e0:¬((j:Int)<(na:Int)):=by omega
   clear HV;have e3:(ka != 3)=true:=by rw [<- HKA.out];simp [hk]
   have HF:Hid (R=true):=aF (by rw [HR.out,<- HE.out];simp [hk]);go_wp2_with fail
   go_ret;exact ⟨by rw [HF.out];rfl,HBL.out⟩
theorem sU (b:Bdy) (hok:DeclOk b):∀(m:Nat) (s t:Int),s.toNat+t.toNat<m->∀(A D:Option Addr) (c d:Nat) (w:World),Slc 5 RTy w A c b.types->Slc 2 RPr w D d b.outl->
 Calls Tryz.prog 172 #[.slice D b.outl.length d,.int .i64 b.regions.length,.slice A b.types.length c,.int .i64 s,.int .i64 t] w fun e' w'=>e' = .returned (.bool (subB b s t))/\Below w.heap.size w w'
 | 0,_,_,h=>absurd h (by omega)
 | m+1,s,t,hm=>by
   intro A D c d w hs hd;have HR:=sU b hok m;have hle:=hs.le;have hbig:=hs.big;by_cases hr:0<=s/\s<(b.types.length:Int)/\0<=t/\t<(b.types.length:Int)
   case neg=>
    rw [sO (by omega)];clear hs hd HR;go_enter Tryz.func172,Tryz.ntmps172
    go_wp2_with fail
    all_goals first
     | (exfalso;omega)
     | (go_ret;exact ⟨rfl,aH⟩)
   case pos=>
   obtain ⟨i,rfl⟩:=bG hr.1;obtain ⟨j0,rfl⟩:=bG hr.2.2.1;have hi:i<b.types.length:=by omega
   have hj0:j0<b.types.length:=by omega
   obtain ⟨p,hp⟩:∃p,((b.types[i].kind != b.types[j0].kind) || (b.types[i].mu != b.types[j0].mu) || ((b.types[i].flds.length:Int) != (b.types[j0].flds.length:Int)))=p:=⟨_,rfl⟩;cases p
   ·by_cases hk:b.types[i].kind=3
    ·exact xBR b hok m HR i j0 hm hi hj0 A D c d w hs hd hp hk
    ·exact xBS b hok m HR i j0 hm hi hj0 A D c d w hs hd hp hk
   ·exact xK b hok m HR i j0 hm hi hj0 A D c d w hs hd hp
structure Rk (w:World) (b:Bdy) (bh:BH):Prop where
 at_:BdAt w b bh
 ok:DeclOk b
theorem Rk.keep {w w':World} {b:Bdy} {bh:BH} (h:Rk w b bh) (hb:Below w.heap.size w w'):Rk w' b bh:=⟨h.at_.keep hb,h.ok⟩
theorem dI {b:Bdy} {bh:BH} {w:World} (H:Rk w b bh) (o:Opd) (A:Option Addr) (c:Nat) (hp:Slc 2 RPj w A c o.place.proj):
 Calls Tryz.prog 100 #[.agg (bdC b bh).toArray,.agg (opC o A c).toArray] w fun e' w'=>e' = .returned (.int .i64 (opE b o))/\Below w.heap.size w w':=by
 have HT:=aF (fun W (hb:Below w.heap.size w W)=>eC b bh o.place A c W (H.keep hb).at_ (hp.keep RPj.keeps hb) H.ok.okay);have HZ:=aF (fun W=>dQ o.place A c W);have HD:=aF (fun W (hb:Below w.heap.size w W)=>pQ o.place 0 A c W (hp.keep RPj.keeps hb));have HC:=aF (fun W (hb:Below w.heap.size w W) (i:Int)=>sY b.types H.ok.tyok (i.toNat+1) i (by omega) bh.A3 bh.c3 W (H.keep hb).at_.typ);have HQ:Hid (opE b o=if o.kind<0\/4<o.kind then 14 else if (o.kind≠2/\o.kind≠3/\o.n≠0)\/(1<o.kind/\zeroP o.place=false) then 2 else if o.kind=3/\o.n≠0/\o.n≠1 then 3 else if 1<o.kind then 0 else if (tyB b o.place).2≠0 then (tyB b o.place).2 else if o.kind=0 then fail22 (!copB b.types (tyB b o.place).1) else fail22 (hasD o.place.proj 0)):=aF rfl;generalize opE b o=q at HQ ⊢;generalize zeroP o.place=z at HZ HQ;generalize hasD o.place.proj 0=hd at HD HQ;generalize tyB b o.place=t at HT HQ;obtain ⟨t,e⟩:=t;simp only at HQ;obtain ⟨cp,hcp⟩:∃cp,copB b.types t=cp:=⟨_,rfl⟩;rw [hcp] at HQ;have HCP:=aF hcp;obtain ⟨k,pl,n⟩:=o;simp only at HQ HT HZ HD;clear H hp hcp;unfold bdC at *;unfold opC;simp only;by_cases h0:k<0\/4<k
 ·have HF:Hid (q=14):=aF (by rw [HQ.out,bA h0]);clear HQ HT HZ HD HC;go_enter Tryz.func100,Tryz.ntmps100
  go_wp2_with fail
  all_goals first
   | (exfalso;omega)
   | (go_ret;exact ⟨by rw [HF.out];rfl,aH⟩)
 rcases (show k=0\/k=1\/k=2\/k=3\/k=4 by omega) with rfl | rfl | rfl | rfl | rfl
 ·by_cases hn:n=0
  ·subst hn;by_cases he:e=0
   ·subst he;have HF:Hid (q=fail22 (!cp)):=aF (by rw [HQ.out];simp);clear HQ HZ HD h0;cases cp
    all_goals
     go_enter Tryz.func100,Tryz.ntmps100
     go_wp2_with (first | (go_at_call 95;refine (HT.out _ (bel2 _ _ _)).mono ?_;rintro e' w1 ⟨rfl,hb1⟩;have HB:=aF ((bel2 _ _ _).trans (hb1.mono (bel2 _ _ _).size));obtain ⟨z,y⟩:=cT hb1;have z3:=z 3 _ rfl;obtain ⟨y0,y1,y2,y3⟩:=aP y;clear z y hb1) | (go_at_call 144;refine (HC.out _ HB.out _).mono ?_;rintro e' w2 ⟨rfl,hw⟩;obtain rfl:=hw.symm;rw [HCP.out]))
     go_ret;exact ⟨by rw [HF.out];rfl,HB.out⟩
   ·have HF:Hid (q=e):=aF (by rw [HQ.out];simp [he]);have e5:(e != 0)=true:=by simp [he]
    clear HQ HZ HD h0 HC he;go_enter Tryz.func100,Tryz.ntmps100
    go_wp2_with (go_at_call 95;refine (HT.out _ (bel2 _ _ _)).mono ?_;rintro e' w1 ⟨rfl,hb1⟩;have HB:=aF ((bel2 _ _ _).trans (hb1.mono (bel2 _ _ _).size));obtain ⟨z,y⟩:=cT hb1;have z3:=z 3 _ rfl;obtain ⟨y0,y1,y2,y3⟩:=aP y;clear z y hb1)
    go_ret;exact ⟨by rw [HF.out];rfl,HB.out⟩
  ·have HF:Hid (q=2):=aF (by rw [HQ.out];simp [hn]);have e5:(n != 0)=true:=by simp [hn]
   clear HQ HZ HD h0 HC HT hn;go_enter Tryz.func100,Tryz.ntmps100
   go_wp2_with fail
   go_ret;exact ⟨by rw [HF.out];rfl,aH⟩
 ·by_cases hn:n=0
  ·subst hn;by_cases he:e=0
   ·subst he;have HF:Hid (q=fail22 hd):=aF (by rw [HQ.out];simp);clear HQ HZ HC h0;cases hd
    all_goals
     go_enter Tryz.func100,Tryz.ntmps100
     go_wp2_with (first | (go_at_call 95;refine (HT.out _ (bel2 _ _ _)).mono ?_;rintro e' w1 ⟨rfl,hb1⟩;have HB:=aF ((bel2 _ _ _).trans (hb1.mono (bel2 _ _ _).size));obtain ⟨z,y⟩:=cT hb1;have z3:=z 3 _ rfl;obtain ⟨y0,y1,y2,y3⟩:=aP y;clear z y hb1) | (go_at_call 102;refine (HD.out _ HB.out).mono ?_;rintro e' w2 ⟨rfl,hb2⟩;have HB2:=aF (HB.out.trans (hb2.mono HB.out.size));clear hb2))
     go_ret;exact ⟨by rw [HF.out];rfl,HB2.out⟩
   ·have HF:Hid (q=e):=aF (by rw [HQ.out];simp [he]);have e5:(e != 0)=true:=by simp [he]
    clear HQ HZ HD h0 HC he;go_enter Tryz.func100,Tryz.ntmps100
    go_wp2_with (go_at_call 95;refine (HT.out _ (bel2 _ _ _)).mono ?_;rintro e' w1 ⟨rfl,hb1⟩;have HB:=aF ((bel2 _ _ _).trans (hb1.mono (bel2 _ _ _).size));obtain ⟨z,y⟩:=cT hb1;have z3:=z 3 _ rfl;obtain ⟨y0,y1,y2,y3⟩:=aP y;clear z y hb1)
    go_ret;exact ⟨by rw [HF.out];rfl,HB.out⟩
  ·have HF:Hid (q=2):=aF (by rw [HQ.out];simp [hn]);have e5:(n != 0)=true:=by simp [hn]
   clear HQ HZ HD h0 HC HT hn;go_enter Tryz.func100,Tryz.ntmps100
   go_wp2_with fail
   go_ret;exact ⟨by rw [HF.out];rfl,aH⟩
 ·have HF:Hid (q=if z=false then 2 else 0):=aF (by rw [HQ.out];simp);clear HQ HT HD HC h0;cases z
  all_goals
   go_enter Tryz.func100,Tryz.ntmps100
   go_wp2_with (go_at_call 98;refine (HZ.out _).mono ?_;rintro e' w1 ⟨rfl,hb1⟩;have HB:=aF ((bel2 _ _ _).trans (hb1.mono (bel2 _ _ _).size));obtain ⟨z,y⟩:=cT hb1;obtain ⟨y0,y1,y2,y3⟩:=aP y;clear z y hb1)
   all_goals
    go_ret;exact ⟨by rw [HF.out];rfl,HB.out⟩
 ·cases z
  ·have HF:Hid (q=2):=aF (by rw [HQ.out];simp);clear HQ HT HD HC h0;go_enter Tryz.func100,Tryz.ntmps100
   go_wp2_with (go_at_call 98;refine (HZ.out _).mono ?_;rintro e' w1 ⟨rfl,hb1⟩;have HB:=aF ((bel2 _ _ _).trans (hb1.mono (bel2 _ _ _).size));obtain ⟨z,y⟩:=cT hb1;obtain ⟨y0,y1,y2,y3⟩:=aP y;clear z y hb1)
   all_goals
    go_ret;exact ⟨by rw [HF.out];rfl,HB.out⟩
  ·by_cases hn0:n=0
   ·have HF:Hid (q=0):=aF (by rw [HQ.out];simp [hn0]);subst hn0;clear HQ HT HD HC h0;go_enter Tryz.func100,Tryz.ntmps100
    go_wp2_with (go_at_call 98;refine (HZ.out _).mono ?_;rintro e' w1 ⟨rfl,hb1⟩;have HB:=aF ((bel2 _ _ _).trans (hb1.mono (bel2 _ _ _).size));obtain ⟨z,y⟩:=cT hb1;obtain ⟨y0,y1,y2,y3⟩:=aP y;clear z y hb1)
    all_goals
     go_ret;exact ⟨by rw [HF.out];rfl,HB.out⟩
   ·have e5:(n != 0)=true:=by simp [hn0]
    by_cases hn1:n=1
    ·have HF:Hid (q=0):=aF (by rw [HQ.out];simp [hn1]);subst hn1;clear HQ HT HD HC h0 e5;go_enter Tryz.func100,Tryz.ntmps100
     go_wp2_with (go_at_call 98;refine (HZ.out _).mono ?_;rintro e' w1 ⟨rfl,hb1⟩;have HB:=aF ((bel2 _ _ _).trans (hb1.mono (bel2 _ _ _).size));obtain ⟨z,y⟩:=cT hb1;obtain ⟨y0,y1,y2,y3⟩:=aP y;clear z y hb1)
     all_goals
      go_ret;exact ⟨by rw [HF.out];rfl,HB.out⟩
    ·have HF:Hid (q=3):=aF (by rw [HQ.out];simp [hn0,hn1]);have e6:(n != 1)=true:=by simp [hn1]
     clear HQ HT HD HC h0 hn0 hn1;go_enter Tryz.func100,Tryz.ntmps100
     go_wp2_with (go_at_call 98;refine (HZ.out _).mono ?_;rintro e' w1 ⟨rfl,hb1⟩;have HB:=aF ((bel2 _ _ _).trans (hb1.mono (bel2 _ _ _).size));obtain ⟨z,y⟩:=cT hb1;obtain ⟨y0,y1,y2,y3⟩:=aP y;clear z y hb1)
     all_goals
      go_ret;exact ⟨by rw [HF.out];rfl,HB.out⟩
 ·by_cases hn:n=0
  ·subst hn;have HF:Hid (q=if z=false then 2 else 0):=aF (by rw [HQ.out];simp);clear HQ HT HD HC h0;cases z
   all_goals
    go_enter Tryz.func100,Tryz.ntmps100
    go_wp2_with (go_at_call 98;refine (HZ.out _).mono ?_;rintro e' w1 ⟨rfl,hb1⟩;have HB:=aF ((bel2 _ _ _).trans (hb1.mono (bel2 _ _ _).size));obtain ⟨z,y⟩:=cT hb1;obtain ⟨y0,y1,y2,y3⟩:=aP y;clear z y hb1)
    all_goals
     go_ret;exact ⟨by rw [HF.out];rfl,HB.out⟩
  ·have HF:Hid (q=2):=aF (by rw [HQ.out];simp [hn]);have e5:(n != 0)=true:=by simp [hn]
   clear HQ HZ HD h0 HC HT hn;go_enter Tryz.func100,Tryz.ntmps100
   go_wp2_with fail
   go_ret;exact ⟨by rw [HF.out];rfl,aH⟩
def stC (s:Stm) (A0:Option Addr) (c0:Nat) (A:Option Addr) (c:Nat) (B:Option Addr) (d:Nat):List Value:=[.int .i64 s.kind,.int .i64 s.place.loc,.slice A0 s.place.proj.length c0,.int .i64 s.rv.kind,.int .i64 s.rv.op,.int .i64 s.rv.reg,.bool s.rv.mu,.int .i64 s.rv.place.loc,.slice A s.rv.place.proj.length c,.slice B s.rv.args.length d,.int .i64 s.loc]
theorem bel3 (w:World) (x y z:Obj):Below w.heap.size w (((w.alloc x).alloc y).alloc z):=aH
theorem dJ {w w1:World} {l1 l2 l3:List Value} {t1 t2 t3:TypeId} (hb:Below (((w.alloc (.cells l1.toArray t1)).alloc (.cells l2.toArray t2)).alloc (.cells l3.toArray t3)).heap.size (((w.alloc (.cells l1.toArray t1)).alloc (.cells l2.toArray t2)).alloc (.cells l3.toArray t3)) w1):
 (∀i v,l1[i]?=some v->w1.cell? ⟨w.heap.size,i,none⟩=some v)/\(∀i v,l2[i]?=some v->w1.cell? ⟨w.heap.size+1,i,none⟩=some v)/\(∀i v,l3[i]?=some v->w1.cell? ⟨w.heap.size+1+1,i,none⟩=some v):=by
 refine ⟨fun i v hi=>cM hb ?_,fun i v hi=>cM hb ?_,fun i v hi=>cM hb ?_⟩
 ·exact cM (((aX _ _).alloc (aY _) _).alloc (by simp) _) (cU w l1 t1 i v hi)
 ·have:=cU (w.alloc (.cells l1.toArray t1)) l2 t2 i v hi;rw [bI] at this;exact cM ((aX _ _).alloc (aY _) _) this
 ·have:=cU ((w.alloc (.cells l1.toArray t1)).alloc (.cells l2.toArray t2)) l3 t3 i v hi;simp only [bI] at this;exact this
end
end Go.Proofs.YtmknfbfppmkcfaaGreatDoor
