/-
  Parts of the proof: V37 V38 V38A V38B V38C V38D V38N V38O V38E V39A V39D.
-/
import Derived.Test.YtmknfbfppmkcfaaGreatDoorPP0
import Derived.Test.YtmknfbfppmkcfaaGreatDoorPP7
import Derived.Test.YtmknfbfppmkcfaaGreatDoorPP6
namespace Go.Proofs.YtmknfbfppmkcfaaGreatDoor
set_option maxRecDepth 100000
set_option maxHeartbeats 16000000
section
open Go Go.RowKit Go.Maps
structure TabsOk (w:World):Prop where
 un:Slc 2 RPr w (some ⟨0,0,none⟩) 2 gU
 bi:Slc 2 RPr w (some ⟨1,0,none⟩) 6 fM
theorem TabsOk.keep {w w':World} (h:TabsOk w) (hb:Below w.heap.size w w'):TabsOk w':=⟨h.un.keep RPr.keeps hb,h.bi.keep RPr.keeps hb⟩
theorem uO (W:World) (x:Int) (T:TypeId) (k:Nat) (hk:k=W.heap.size):Slc 1 RInt (W.alloc (.cells #[.int .i64 x] T)) (some ⟨k,0,none⟩) 1 [x]:=by
 subst hk;refine ⟨fun _=>⟨_,_,rfl,by simp,fun i q hi=>?_⟩,by simp,by omega⟩;show (W.alloc _).cell? ⟨W.heap.size,0+i * 1,none⟩=_;rw [World.cell?_alloc_at _ _ _ _ (by simp),Nat.zero_add,Nat.mul_one];match i,hi with
 | 0,hi=>simp at hi;subst hi;rfl
 | i+1,hi=>simp at hi
theorem pD {b:Bdy} {bh:BH} {r:Nat} {w:World} (H:Ck w b bh r) (hT:TabsOk w) (rv:Rvl) (t:Nat) (ht:t<b.types.length) (A B:Option Addr) (c d:Nat) (hp:Slc 2 RPj w A c rv.place.proj) (hl:Slc 4 ROp w B d rv.args):
 Calls Tryz.prog 117 #[.agg (ckC b bh r).toArray,.agg (rvC rv A c B d).toArray,.int .i64 t] w fun e' w'=>e' = .returned (.int .i64 (rvE b rv t))/\Below w.heap.size w w':=by
 have HU:=aF (fun W=>oX rv A B c d W);obtain ⟨R,hR⟩:∃R,rvE b rv t=R:=⟨_,rfl⟩;rw [hR]
 have HR:Hid (R=if rv.kind<0\/4<rv.kind then 14 else if unusedR rv=false then 2 else if rv.kind=0 then opsE b rv.args [(t:Int)] else if rv.kind=1 then borE b rv t else if rv.kind=2 then operE b rv t gU else if rv.kind=3 then operE b rv t fM else if b.types[t].kind≠4\/b.types[t].flds.length≠rv.args.length then 22 else opsE b rv.args b.types[t].flds):=aF (by
  rw [<- hR,rvE];simp only [bW]
  rw [bD ht])
 have HH:=aF H;have HT:=aF hT;have HL:=aF hl;have HP:=aF hp;have hle:=hl.le;have hbig:=hl.big;clear hR H hT hl hp;unfold ckC;by_cases h0:rv.kind<0\/4<rv.kind
 ·have HF:Hid (R=14):=aF (by rw [HR.out,bA h0]);clear HR HU;unfold rvC;go_enter Tryz.func117,Tryz.ntmps117
  go_wp2_with fail
  all_goals first
   | (exfalso;omega)
   | (go_ret;exact ⟨by rw [HF.out];rfl,aH⟩)
 obtain ⟨u,hu⟩:∃u,unusedR rv=u:=⟨_,rfl⟩;rw [hu] at HU HR;cases u
 ·have HF:Hid (R=2):=aF (by rw [HR.out,aZ h0,bA rfl]);have h1:¬rv.kind<0:=by omega
  have h2:¬4<rv.kind:=by omega
  clear HR h0;unfold rvC at HU ⊢;go_enter Tryz.func117,Tryz.ntmps117
  go_wp2_with (go_at_call 150;refine (HU.out _).mono ?_;rintro e' w1 ⟨rfl,hb1⟩;have HB:=aF ((bel2 _ _ _).trans (hb1.mono (bel2 _ _ _).size));obtain ⟨y,z⟩:=cT hb1;have HY:=aF y;have HZ:=aF z;obtain ⟨y0,y1,y2,y3,y4,y5,y6,y7⟩:=aT HY.out;obtain ⟨z0,z1,z2,z3,z4,z5,z6⟩:=aS HZ.out;have hlw:=hb1.size;simp only [bI] at hlw;have hlw1:w.heap.size+1<w1.heap.size:=hlw;have hlw0:w.heap.size<w1.heap.size:=cC hlw;clear y z hb1)
  all_goals first
   | (exfalso;omega)
   | (go_ret;exact ⟨by rw [HF.out];rfl,HB.out⟩)
 have HR2:Hid (R=if rv.kind=0 then opsE b rv.args [(t:Int)] else if rv.kind=1 then borE b rv t else if rv.kind=2 then operE b rv t gU else if rv.kind=3 then operE b rv t fM else if b.types[t].kind≠4\/b.types[t].flds.length≠rv.args.length then 22 else opsE b rv.args b.types[t].flds):=aF (by rw [HR.out,aZ h0,aZ (by simp)]);clear HR;rcases (show rv.kind=0\/rv.kind=1\/rv.kind=2\/rv.kind=3\/rv.kind=4 by omega) with hk | hk | hk | hk | hk
 ·have HF:Hid (R=opsE b rv.args [(t:Int)]):=aF (by rw [HR2.out,bA hk]);have HC:=aF (fun (W:World) (hb:Below w.heap.size w W) (C:Option Addr) (f:Nat) (hf:Slc 1 RInt W C f [(t:Int)])=>eQ (HH.out.keep hb) rv.args [(t:Int)] B C d f (HL.out.keep ROp.keeps hb) hf (by simp;omega));clear HR2 hu h0;unfold rvC at HU ⊢;unfold ckC at HC;rw [hk] at HU ⊢;go_enter Tryz.func117,Tryz.ntmps117
  go_wp2_with (first | (go_at_call 150;refine (HU.out _).mono ?_;rintro e' w1 ⟨rfl,hb1⟩;have HB:=aF ((bel2 _ _ _).trans (hb1.mono (bel2 _ _ _).size));obtain ⟨y,z⟩:=cT hb1;have HY:=aF y;have HZ:=aF z;obtain ⟨y0,y1,y2,y3,y4,y5,y6,y7⟩:=aT HY.out;obtain ⟨z0,z1,z2,z3,z4,z5,z6⟩:=aS HZ.out;have hlw:=hb1.size;simp only [bI] at hlw;have hlw1:w.heap.size+1<w1.heap.size:=hlw;have hlw0:w.heap.size<w1.heap.size:=cC hlw;clear y z hb1) | (go_at_call 122;refine (HC.out _ (HB.out.alloc HB.out.size _) _ _ (uO _ _ _ _ rfl)).mono ?_;rintro e' w2 ⟨rfl,hb2⟩;have HB2:=aF ((HB.out.alloc HB.out.size _).trans (hb2.mono (HB.out.alloc HB.out.size _).size));clear hb2))
  go_ret;exact ⟨by rw [HF.out];rfl,HB2.out⟩
 ·have HF:Hid (R=borE b rv t):=aF (by rw [HR2.out,aZ (by omega),bA hk]);have HC:=aF (fun (W:World) (hb:Below w.heap.size w W)=>qC (HH.out.keep hb) rv t ht A B c d (HP.out.keep RPj.keeps hb));clear HR2 hu h0;unfold rvC at HU HC ⊢;unfold ckC at HC;rw [hk] at HU HC ⊢;go_enter Tryz.func117,Tryz.ntmps117
  go_wp2_with (first | (go_at_call 150;refine (HU.out _).mono ?_;rintro e' w1 ⟨rfl,hb1⟩;have HB:=aF ((bel2 _ _ _).trans (hb1.mono (bel2 _ _ _).size));obtain ⟨y,z⟩:=cT hb1;have HY:=aF y;have HZ:=aF z;obtain ⟨y0,y1,y2,y3,y4,y5,y6,y7⟩:=aT HY.out;obtain ⟨z0,z1,z2,z3,z4,z5,z6⟩:=aS HZ.out;have hlw:=hb1.size;simp only [bI] at hlw;have hlw1:w.heap.size+1<w1.heap.size:=hlw;have hlw0:w.heap.size<w1.heap.size:=cC hlw;clear y z hb1) | (go_at_call 151;refine (HC.out _ HB.out).mono ?_;rintro e' w2 ⟨rfl,hb2⟩;have HB2:=aF (HB.out.trans (hb2.mono HB.out.size));clear hb2))
  go_ret;exact ⟨by rw [HF.out];rfl,HB2.out⟩
 ·have HF:Hid (R=operE b rv t gU):=aF (by rw [HR2.out,aZ (by omega),aZ (by omega),bA hk]);have HC:=aF (fun (W:World) (hb:Below w.heap.size w W)=>fS (HH.out.keep hb) rv t ht gU A B _ c d 2 (HL.out.keep ROp.keeps hb) (HT.out.keep hb).un);clear HR2 hu h0;unfold rvC at HU HC ⊢;unfold ckC at HC;rw [hk] at HU HC ⊢;go_enter Tryz.func117,Tryz.ntmps117
  go_wp2_with (go_at_call 150;refine (HU.out _).mono ?_;rintro e' w1 ⟨rfl,hb1⟩;have HB:=aF ((bel2 _ _ _).trans (hb1.mono (bel2 _ _ _).size));obtain ⟨y,z⟩:=cT hb1;have HY:=aF y;have HZ:=aF z;obtain ⟨y0,y1,y2,y3,y4,y5,y6,y7⟩:=aT HY.out;obtain ⟨z0,z1,z2,z3,z4,z5,z6⟩:=aS HZ.out;have hlw:=hb1.size;simp only [bI] at hlw;have hlw1:w.heap.size+1<w1.heap.size:=hlw;have hlw0:w.heap.size<w1.heap.size:=cC hlw;clear y z hb1)
  clear y0 y1 y2 y3 y4 y5 y6 y7 z0 z1 z2 z3 z4 z5 z6;have hS:(aA (bdH b bh [.pointer (some ⟨r,0,none⟩)]) w1.drew w.heap.size)/\(aA [Value.int .i64 2,.int .i64 rv.op,.int .i64 rv.reg,.bool rv.mu,.int .i64 rv.place.loc,.slice A rv.place.proj.length c,.slice B rv.args.length d] w1.drew (w.heap.size+1)):=⟨HY.out,HZ.out⟩;refine cQ (S:=fun X=>(aA (bdH b bh [.pointer (some ⟨r,0,none⟩)]) X w.heap.size)/\(aA [Value.int .i64 2,.int .i64 rv.op,.int .i64 rv.reg,.bool rv.mu,.int .i64 rv.place.loc,.slice A rv.place.proj.length c,.slice B rv.args.length d] X (w.heap.size+1))) [0,1,2,3,4,5] (by kernel_rfl) ?_;(iterate 4 (refine cR (v:=?_) ?_ hS ?_;rotate_left;(next=>(rintro X ⟨hX,hY⟩;obtain ⟨s0,s1,s2,s3,s4,s5,s6,s7⟩:=aT hX;obtain ⟨u0,u1,u2,u3,u4,u5,u6⟩:=aS hY;(try simp only [aI]);go_simp;rfl));simp only [aM]));(refine cM (fun K1 hK1=>?_);simp only [aM];rw [bA (by rfl)];go_simp);refine (HC.out _ HB.out.drew).mono ?_;rintro e' w2 ⟨rfl,hb⟩;replace hS:=bJ (cK hS.1 hb) (cK hS.2 hb);have HB2:=aF (HB.out.drew.trans (hb.mono HB.out.size));clear hb;refine hK1.out _ _ (fun _=>hS) ?_;((refine cR (v:=?_) ?_ hS ?_;rotate_left;(next=>(rintro X -;(try simp only [aI]);go_simp;rfl));simp only [aM]))
  refine cV ?_;go_wp2_with fail
  go_ret;exact ⟨by rw [HF.out];rfl,HB2.out⟩
 ·have HF:Hid (R=operE b rv t fM):=aF (by rw [HR2.out,aZ (by omega),aZ (by omega),aZ (by omega),bA hk]);have HC:=aF (fun (W:World) (hb:Below w.heap.size w W)=>fS (HH.out.keep hb) rv t ht fM A B _ c d 6 (HL.out.keep ROp.keeps hb) (HT.out.keep hb).bi);clear HR2 hu h0;unfold rvC at HU HC ⊢;unfold ckC at HC;rw [hk] at HU HC ⊢;go_enter Tryz.func117,Tryz.ntmps117
  go_wp2_with (go_at_call 150;refine (HU.out _).mono ?_;rintro e' w1 ⟨rfl,hb1⟩;have HB:=aF ((bel2 _ _ _).trans (hb1.mono (bel2 _ _ _).size));obtain ⟨y,z⟩:=cT hb1;have HY:=aF y;have HZ:=aF z;obtain ⟨y0,y1,y2,y3,y4,y5,y6,y7⟩:=aT HY.out;obtain ⟨z0,z1,z2,z3,z4,z5,z6⟩:=aS HZ.out;have hlw:=hb1.size;simp only [bI] at hlw;have hlw1:w.heap.size+1<w1.heap.size:=hlw;have hlw0:w.heap.size<w1.heap.size:=cC hlw;clear y z hb1)
  clear y0 y1 y2 y3 y4 y5 y6 y7 z0 z1 z2 z3 z4 z5 z6;have hS:(aA (bdH b bh [.pointer (some ⟨r,0,none⟩)]) w1.drew w.heap.size)/\(aA [Value.int .i64 3,.int .i64 rv.op,.int .i64 rv.reg,.bool rv.mu,.int .i64 rv.place.loc,.slice A rv.place.proj.length c,.slice B rv.args.length d] w1.drew (w.heap.size+1)):=⟨HY.out,HZ.out⟩;refine cQ (S:=fun X=>(aA (bdH b bh [.pointer (some ⟨r,0,none⟩)]) X w.heap.size)/\(aA [Value.int .i64 3,.int .i64 rv.op,.int .i64 rv.reg,.bool rv.mu,.int .i64 rv.place.loc,.slice A rv.place.proj.length c,.slice B rv.args.length d] X (w.heap.size+1))) [0,1,2,3,4,5] (by kernel_rfl) ?_;(iterate 4 (refine cR (v:=?_) ?_ hS ?_;rotate_left;(next=>(rintro X ⟨hX,hY⟩;obtain ⟨s0,s1,s2,s3,s4,s5,s6,s7⟩:=aT hX;obtain ⟨u0,u1,u2,u3,u4,u5,u6⟩:=aS hY;(try simp only [aI]);go_simp;rfl));simp only [aM]));(refine cM (fun K1 hK1=>?_);simp only [aM];rw [bA (by rfl)];go_simp);refine (HC.out _ HB.out.drew).mono ?_;rintro e' w2 ⟨rfl,hb⟩;replace hS:=bJ (cK hS.1 hb) (cK hS.2 hb);have HB2:=aF (HB.out.drew.trans (hb.mono HB.out.size));clear hb;refine hK1.out _ _ (fun _=>hS) ?_;((refine cR (v:=?_) ?_ hS ?_;rotate_left;(next=>(rintro X -;(try simp only [aI]);go_simp;rfl));simp only [aM]))
  refine cV ?_;go_wp2_with fail
  go_ret;exact ⟨by rw [HF.out];rfl,HB2.out⟩
 ·obtain ⟨bb,oo,hA3,hbb,hxx⟩:=HH.out.at_.typ.sl.at_ ht;have hgd:=HH.out.ok.tyok t ht;obtain ⟨ty,hty⟩:∃ty,b.types[t]=ty:=⟨_,rfl⟩;have hle3:=HH.out.at_.typ.le;have hbig3:=HH.out.at_.typ.big;rw [hty] at hxx hgd HR2;obtain ⟨q0,q1,q2,q3,A5,c5,q4,q6,q7,q8⟩:=hxx;have HFS:Hid (Slc 1 RInt w A5 c5 ty.flds):=aF ⟨q8,q6,q7⟩;have HF0:Hid (R=if ty.kind≠4\/ty.flds.length≠rv.args.length then 22 else opsE b rv.args ty.flds):=aF (by rw [HR2.out,aZ (by omega),aZ (by omega),aZ (by omega),aZ (by omega)]);have HC:=aF (fun (W:World) (hb:Below w.heap.size w W)=>eQ (HH.out.keep hb) rv.args ty.flds B A5 d c5 (HL.out.keep ROp.keeps hb) (HFS.out.keep RInt.keeps hb) (fun x hx=>by have:=hgd.2 x hx;omega));obtain ⟨p1,hp1⟩:∃p,(ty.kind != 4)=p:=⟨_,rfl⟩;obtain ⟨p2,hp2⟩:∃p,((ty.flds.length:Int) != (rv.args.length:Int))=p:=⟨_,rfl⟩
  have HF1:Hid (R=if p1=true\/p2=true then 22 else opsE b rv.args ty.flds):=aF (by
   rw [HF0.out,<- hp1,<- hp2]
   simp only [bne_iff_ne,ne_eq,Int.ofNat_inj])
  generalize opsE b rv.args ty.flds=oe at HC HF1;have HF:Hid (R=firstE [fail22 (p1 || p2),oe]):=aF (by rw [HF1.out];cases p1 <;> cases p2 <;> simp [firstE,fail22]);have HP1:=aF hp1;have HP2:=aF hp2;clear HR2 HF0 HF1 hu h0 hty hgd q8;unfold rvC at HU ⊢;unfold ckC at HC;rw [hA3] at HC ⊢;rw [hk] at HU ⊢;go_enter Tryz.func117,Tryz.ntmps117
  go_wp2_with (go_at_call 150;refine (HU.out _).mono ?_;rintro e' w1 ⟨rfl,hb1⟩;have HB:=aF ((bel2 _ _ _).trans (hb1.mono (bel2 _ _ _).size));obtain ⟨y,z⟩:=cT hb1;have HY:=aF y;have HZ:=aF z;obtain ⟨y0,y1,y2,y3,y4,y5,y6,y7⟩:=aT HY.out;obtain ⟨z0,z1,z2,z3,z4,z5,z6⟩:=aS HZ.out;have v0:=cJ HB.out q0;have v1:=cJ HB.out q1;have v2:=cJ HB.out q2;have v3:=cJ HB.out q3;have v4:=cJ HB.out q4;have hlw:=hb1.size;simp only [bI] at hlw;have hlw1:w.heap.size+1<w1.heap.size:=hlw;have hlw0:w.heap.size<w1.heap.size:=cC hlw;clear y z hb1)
  have HBX:=aF ((HB.out.alloc HB.out.size (.cells (tyL ty A5 c5).toArray 81)).drew)
  have hS:(∀i v,[Value.string b.name,.slice bh.A1 b.regions.length bh.c1,.slice bh.A2 b.outl.length bh.c2,.slice (some ⟨bb,oo,none⟩) b.types.length bh.c3,.slice bh.A4 b.locals.length bh.c4,.int .i64 b.args,.slice bh.A5 b.blocks.length bh.c5,.pointer (some ⟨r,0,none⟩)][i]?=some v->(w1.alloc (.cells (tyL ty A5 c5).toArray 81)).drew.cell? ⟨w.heap.size,i,none⟩=some v)/\(∀i v,[Value.int .i64 4,.int .i64 rv.op,.int .i64 rv.reg,.bool rv.mu,.int .i64 rv.place.loc,.slice A rv.place.proj.length c,.slice B rv.args.length d][i]?=some v->(w1.alloc (.cells (tyL ty A5 c5).toArray 81)).drew.cell? ⟨w.heap.size+1,i,none⟩=some v)/\(∀i v,(tyL ty A5 c5)[i]?=some v->(w1.alloc (.cells (tyL ty A5 c5).toArray 81)).drew.cell? ⟨w1.heap.size,i,none⟩=some v):=
   ⟨fun i v hi=>cJ (((aX _ _).alloc (aY _) _).drew) (HY.out i v hi),fun i v hi=>cJ (((aX _ _).alloc (aY _) _).drew) (HZ.out i v hi),cP w1 (tyL ty A5 c5) _⟩
  clear y0 y1 y2 y3 y4 y5 y6 y7 z0 z1 z2 z3 z4 z5 z6 v0 v1 v2 v3 v4 q0 q1 q2 q3 q4;refine cQ (S:=fun X=>(aA (bdM b bh.A1 bh.c1 bh.A2 bh.c2 (some ⟨bb,oo,none⟩) bh.c3 bh.A4 bh.c4 bh.A5 bh.c5 [.pointer (some ⟨r,0,none⟩)]) X w.heap.size)/\(aA [Value.int .i64 4,.int .i64 rv.op,.int .i64 rv.reg,.bool rv.mu,.int .i64 rv.place.loc,.slice A rv.place.proj.length c,.slice B rv.args.length d] X (w.heap.size+1))/\(aA (tyL ty A5 c5) X w1.heap.size)) [0,1,2,3,4,5,6,7,8,9,10,11,13,14,15,16,17,12,18,19,20,21] (by kernel_rfl) ?_;(iterate 3 (refine cR (v:=?_) ?_ hS ?_;rotate_left;(next=>(rintro X ⟨hX,hY,hZ⟩;have u0:=hZ 0 _ rfl;(try simp only [aI]);go_simp;rfl));simp only [aM]));try rw [HP1.out]
  cases p1
  ·((refine cR (v:=?_) ?_ hS ?_;rotate_left;(next=>(rintro X -;(try simp only [aI]);go_simp;rfl));simp only [aM]))
   (iterate 6 (refine cR (v:=?_) ?_ hS ?_;rotate_left;(next=>(rintro X ⟨hX,hY,hZ⟩;have u4:=hZ 4 _ rfl;have u6:=hY 6 _ rfl;(try simp only [aI]);go_simp;rfl));simp only [aM]));((refine cR (v:=?_) ?_ hS ?_;rotate_left;(next=>(rintro X -;(try simp only [aI]);go_simp;rfl));simp only [aM]))
   try rw [HP2.out]
   ((refine cR (v:=?_) ?_ hS ?_;rotate_left;(next=>(rintro X -;(try simp only [aI]);go_simp;rfl));simp only [aM]))
   (iterate 5 (refine cR (v:=?_) ?_ hS ?_;rotate_left;(next=>(rintro X ⟨hX,hY,hZ⟩;obtain ⟨s0,s1,s2,s3,s4,s5,s6,s7⟩:=aT hX;have u4:=hZ 4 _ rfl;have u6:=hY 6 _ rfl;(try simp only [aI]);go_simp;rfl));simp only [aM]));(refine cM (fun K1 hK1=>?_);simp only [aM];rw [bA (by rfl)];go_simp);refine (dL _ _).mono ?_;rintro e' w3 ⟨rfl,hw⟩;obtain rfl:=hw.symm;refine hK1.out _ _ (fun _=>hS) ?_;clear hK1;(refine cM (fun K1 hK1=>?_);simp only [aM];rw [bA (by rfl)];go_simp);refine (HC.out _ HBX.out).mono ?_;rintro e' w2 ⟨rfl,hb⟩;replace hS:=bJ (cK hS.1 hb) (bJ (cK hS.2.1 hb) (cK hS.2.2 hb));have HB2:=aF (HBX.out.trans (hb.mono HBX.out.size));clear hb;refine hK1.out _ _ (fun _=>hS) ?_;clear hK1;(refine cM (fun K1 hK1=>?_);simp only [aM];rw [bA (by rfl)];go_simp);replace hS:=bJ (fun i v hi=>cJ ((aX _ _).alloc (aY _) (.cells #[Value.int .i64 (fail22 p2),.int .i64 oe] 31)) (hS.1 i v hi)) (bJ (fun i v hi=>cJ ((aX _ _).alloc (aY _) (.cells #[Value.int .i64 (fail22 p2),.int .i64 oe] 31)) (hS.2.1 i v hi)) (fun i v hi=>cJ ((aX _ _).alloc (aY _) (.cells #[Value.int .i64 (fail22 p2),.int .i64 oe] 31)) (hS.2.2 i v hi)));refine hK1.out _ _ (fun _=>hS) ?_;clear hK1;(refine cM (fun K1 hK1=>?_);simp only [aM];rw [bA (by rfl)];go_simp);refine (eU [fail22 p2,oe] _ 2 _ (kF _ _ _ _ _ rfl)).mono ?_;rintro e' w4 ⟨rfl,hw⟩;obtain rfl:=hw.symm;refine hK1.out _ _ (fun _=>hS) ?_;clear hK1;((refine cR (v:=?_) ?_ hS ?_;rotate_left;(next=>(rintro X -;(try simp only [aI]);go_simp;rfl));simp only [aM]))
   refine cV ?_;go_wp2_with fail
   go_ret;exact ⟨by rw [HF.out];rfl,HB2.out.alloc HB2.out.size _⟩
  ·((refine cR (v:=?_) ?_ hS ?_;rotate_left;(next=>(rintro X -;(try simp only [aI]);go_simp;rfl));simp only [aM]))
   (iterate 7 (refine cU (v:=undef) (by kernel_rfl) (fun _ _ _ h=>h) (Or.inr ⟨by rfl,rfl⟩) hS ?_;simp only [aM]));((refine cR (v:=?_) ?_ hS ?_;rotate_left;(next=>(rintro X -;(try simp only [aI]);go_simp;rfl));simp only [aM]))
   (iterate 5 (refine cR (v:=?_) ?_ hS ?_;rotate_left;(next=>(rintro X ⟨hX,hY,hZ⟩;obtain ⟨s0,s1,s2,s3,s4,s5,s6,s7⟩:=aT hX;have u4:=hZ 4 _ rfl;have u6:=hY 6 _ rfl;(try simp only [aI]);go_simp;rfl));simp only [aM]));(refine cM (fun K1 hK1=>?_);simp only [aM];rw [bA (by rfl)];go_simp);refine (dL _ _).mono ?_;rintro e' w3 ⟨rfl,hw⟩;obtain rfl:=hw.symm;refine hK1.out _ _ (fun _=>hS) ?_;clear hK1;(refine cM (fun K1 hK1=>?_);simp only [aM];rw [bA (by rfl)];go_simp);refine (HC.out _ HBX.out).mono ?_;rintro e' w2 ⟨rfl,hb⟩;replace hS:=bJ (cK hS.1 hb) (bJ (cK hS.2.1 hb) (cK hS.2.2 hb));have HB2:=aF (HBX.out.trans (hb.mono HBX.out.size));clear hb;refine hK1.out _ _ (fun _=>hS) ?_;clear hK1;(refine cM (fun K1 hK1=>?_);simp only [aM];rw [bA (by rfl)];go_simp);replace hS:=bJ (fun i v hi=>cJ ((aX _ _).alloc (aY _) (.cells #[Value.int .i64 (fail22 true),.int .i64 oe] 31)) (hS.1 i v hi)) (bJ (fun i v hi=>cJ ((aX _ _).alloc (aY _) (.cells #[Value.int .i64 (fail22 true),.int .i64 oe] 31)) (hS.2.1 i v hi)) (fun i v hi=>cJ ((aX _ _).alloc (aY _) (.cells #[Value.int .i64 (fail22 true),.int .i64 oe] 31)) (hS.2.2 i v hi)));refine hK1.out _ _ (fun _=>hS) ?_;clear hK1;(refine cM (fun K1 hK1=>?_);simp only [aM];rw [bA (by rfl)];go_simp);refine (eU [fail22 true,oe] _ 2 _ (kF _ _ _ _ _ rfl)).mono ?_;rintro e' w4 ⟨rfl,hw⟩;obtain rfl:=hw.symm;refine hK1.out _ _ (fun _=>hS) ?_;clear hK1;((refine cR (v:=?_) ?_ hS ?_;rotate_left;(next=>(rintro X -;(try simp only [aI]);go_simp;rfl));simp only [aM]))
   refine cV ?_;go_wp2_with fail
   go_ret;exact ⟨by rw [HF.out];rfl,HB2.out.alloc HB2.out.size _⟩
def stC (s:Stm) (A0:Option Addr) (c0:Nat) (A:Option Addr) (c:Nat) (B:Option Addr) (d:Nat):List Value:=[.int .i64 s.kind,.int .i64 s.place.loc,.slice A0 s.place.proj.length c0,.int .i64 s.rv.kind,.int .i64 s.rv.op,.int .i64 s.rv.reg,.bool s.rv.mu,.int .i64 s.rv.place.loc,.slice A s.rv.place.proj.length c,.slice B s.rv.args.length d,.int .i64 s.loc]
theorem bel3 (w:World) (x y z:Obj):Below w.heap.size w (((w.alloc x).alloc y).alloc z):=aH
theorem dY {w w1:World} {l1 l2 l3:List Value} {t1 t2 t3:TypeId} (hb:Below (((w.alloc (.cells l1.toArray t1)).alloc (.cells l2.toArray t2)).alloc (.cells l3.toArray t3)).heap.size (((w.alloc (.cells l1.toArray t1)).alloc (.cells l2.toArray t2)).alloc (.cells l3.toArray t3)) w1):
 (∀i v,l1[i]?=some v->w1.cell? ⟨w.heap.size,i,none⟩=some v)/\(∀i v,l2[i]?=some v->w1.cell? ⟨w.heap.size+1,i,none⟩=some v)/\(∀i v,l3[i]?=some v->w1.cell? ⟨w.heap.size+1+1,i,none⟩=some v):=by
 refine ⟨fun i v hi=>cJ hb ?_,fun i v hi=>cJ hb ?_,fun i v hi=>cJ hb ?_⟩
 ·exact cJ (((aX _ _).alloc (aY _) _).alloc (by simp) _) (cP w l1 t1 i v hi)
 ·have:=cP (w.alloc (.cells l1.toArray t1)) l2 t2 i v hi;rw [bI] at this;exact cJ ((aX _ _).alloc (aY _) _) this
 ·have:=cP ((w.alloc (.cells l1.toArray t1)).alloc (.cells l2.toArray t2)) l3 t3 i v hi;simp only [bI] at this;exact this
theorem uJ {b:Bdy} {bh:BH} {r:Nat} {w:World} (H:Ck w b bh r) (hT:TabsOk w) (s:Stm) (A0 A B:Option Addr) (c0 c d:Nat) (hp0:Slc 2 RPj w A0 c0 s.place.proj) (hp:Slc 2 RPj w A c s.rv.place.proj) (hl:Slc 4 ROp w B d s.rv.args) (hk:s.kind=0) (hloc:s.loc≠0):
 Calls Tryz.prog 71 #[.agg (ckC b bh r).toArray,.agg (stC s A0 c0 A c B d).toArray] w fun e' w'=>e' = .returned (.int .i64 (stE b s))/\Below w.heap.size w w':=by
 have HZZ:=aF eH;have HH:=aF H;have HT:=aF hT;have HP0:=aF hp0;have HP:=aF hp;have HL:=aF hl;have hle:=hl.le;have hbig:=hl.big;have hlocl:=H.at_.loc.le;have hlocb:=H.at_.loc.big;obtain ⟨R,hR⟩:∃R,stE b s=R:=⟨_,rfl⟩;rw [hR];have HR:=aF hR;obtain ⟨q1,hq1⟩:∃q,zeroP s.place=q:=⟨_,rfl⟩;obtain ⟨q2,hq2⟩:∃q,(s.rv.kind == 0)=q:=⟨_,rfl⟩;obtain ⟨q3,hq3⟩:∃q,(s.rv.op == 0)=q:=⟨_,rfl⟩;obtain ⟨q4,hq4⟩:∃q,((s.rv.args.length:Int) == 0)=q:=⟨_,rfl⟩;obtain ⟨q5,hq5⟩:∃q,(s.rv.reg == 0)=q:=⟨_,rfl⟩;obtain ⟨q6,hq6⟩:∃q,s.rv.mu=q:=⟨_,rfl⟩;obtain ⟨q7,hq7⟩:∃q,zeroP s.rv.place=q:=⟨_,rfl⟩
 have HBL:Hid (dM s.rv=(q2 && q3 && q4 && q5 && !q6 && q7)):=aF (by
  unfold dM;rw [<- hq2,<- hq3,<- hq4,<- hq5,<- hq6,<- hq7,eR]
  rfl)
 have HQ1:=aF hq1;have HQ7:=aF hq7;have HQ2:=aF hq2;have HQ3:=aF hq3;have HQ4:=aF hq4;have HQ5:=aF hq5;have HQ6:=aF hq6;clear hq1 hq2 hq3 hq4 hq5 hq7;have HF:Hid (R=2):=aF (by rw [<- HR.out,stE,bA hk,bA hloc]);have e1:(s.loc != 0)=true:=by simp [hloc]
 clear HBL;clear HR hR H hT hp0 hp hl;clear hloc;rcases (show q1=false\/(q1=true/\q2=false)\/(q1=true/\q2=true/\q3=false)\/(q1=true/\q2=true/\q3=true/\q4=false)\/(q1=true/\q2=true/\q3=true/\q4=true/\q5=false)\/(q1=true/\q2=true/\q3=true/\q4=true/\q5=true/\q6=true)\/(q1=true/\q2=true/\q3=true/\q4=true/\q5=true/\q6=false) by cases q1 <;> cases q2 <;> cases q3 <;> cases q4 <;> cases q5 <;> cases q6 <;> simp) with rfl | ⟨rfl,rfl⟩ | ⟨rfl,rfl,rfl⟩ | ⟨rfl,rfl,rfl,rfl⟩ | ⟨rfl,rfl,rfl,rfl,rfl⟩ | ⟨rfl,rfl,rfl,rfl,rfl,rfl⟩ | ⟨rfl,rfl,rfl,rfl,rfl,rfl⟩
 all_goals
  have g2:=HQ2.out;have g3:=HQ3.out;have g4:=HQ4.out;have g5:=HQ5.out;have g6:=HQ6.out;unfold ckC at *;unfold stC;rw [hk];go_enter Tryz.func71,Tryz.ntmps71
  go_wp2_with (first | (go_at_call 115;refine (HZZ.out _ _ _ _).mono ?_;rintro e' w2 ⟨rfl,hb2⟩;rw [HQ7.out];have HB2:=aF (HB.out.trans (hb2.mono HB.out.size));have HY2:=aF (cK HY.out hb2);have HZ3:=aF (cK HZ.out hb2);have HU2:=aF (cK HU.out hb2);clear y0 y1 y2 y3 y4 y5 y6 y7 z0 z1 z2 z10 u0 u1 u2 u3 u4 u5 u6 HY HZ HU HB;have HB:=HB2;have HY:=HY2;have HZ:=HZ3;have HU:=HU2;obtain ⟨y0,y1,y2,y3,y4,y5,y6,y7⟩:=aT HY.out;obtain ⟨z0,z1,z2,-,-,-,-,-,-,-,z10⟩:=aW HZ.out;obtain ⟨u0,u1,u2,u3,u4,u5,u6⟩:=aS HU.out;clear hb2 HB2 HY2 HZ3 HU2) | (go_at_call 115;refine (HZZ.out _ _ _ _).mono ?_;rintro e' w1 ⟨rfl,hb1⟩;rw [HQ1.out];have HB:=aF ((bel3 _ _ _ _).trans (hb1.mono (bel3 _ _ _ _).size));obtain ⟨y,z,u⟩:=dY hb1;have HY:=aF y;have HZ:=aF z;have HU:=aF u;obtain ⟨y0,y1,y2,y3,y4,y5,y6,y7⟩:=aT HY.out;obtain ⟨z0,z1,z2,-,-,-,-,-,-,-,z10⟩:=aW HZ.out;obtain ⟨u0,u1,u2,u3,u4,u5,u6⟩:=aS HU.out;clear y z u hb1))
  all_goals first
   | (exfalso;omega)
   | (go_ret;exact ⟨by rw [HF.out];rfl,by first | exact HBW2.out | exact HBW.out | exact HB.out⟩)
theorem uG {b:Bdy} {bh:BH} {r:Nat} {w:World} (H:Ck w b bh r) (hT:TabsOk w) (s:Stm) (A0 A B:Option Addr) (c0 c d:Nat) (hp0:Slc 2 RPj w A0 c0 s.place.proj) (hp:Slc 2 RPj w A c s.rv.place.proj) (hl:Slc 4 ROp w B d s.rv.args) (hk:s.kind=0) (hloc:s.loc=0) (hw:writE b s.place≠0):
 Calls Tryz.prog 71 #[.agg (ckC b bh r).toArray,.agg (stC s A0 c0 A c B d).toArray] w fun e' w'=>e' = .returned (.int .i64 (stE b s))/\Below w.heap.size w w':=by
 have HZZ:=aF eH;have HH:=aF H;have HT:=aF hT;have HP0:=aF hp0;have HP:=aF hp;have HL:=aF hl;have hle:=hl.le;have hbig:=hl.big;have hlocl:=H.at_.loc.le;have hlocb:=H.at_.loc.big;obtain ⟨R,hR⟩:∃R,stE b s=R:=⟨_,rfl⟩;rw [hR];have HR:=aF hR;obtain ⟨q1,hq1⟩:∃q,zeroP s.place=q:=⟨_,rfl⟩;obtain ⟨q2,hq2⟩:∃q,(s.rv.kind == 0)=q:=⟨_,rfl⟩;obtain ⟨q3,hq3⟩:∃q,(s.rv.op == 0)=q:=⟨_,rfl⟩;obtain ⟨q4,hq4⟩:∃q,((s.rv.args.length:Int) == 0)=q:=⟨_,rfl⟩;obtain ⟨q5,hq5⟩:∃q,(s.rv.reg == 0)=q:=⟨_,rfl⟩;obtain ⟨q6,hq6⟩:∃q,s.rv.mu=q:=⟨_,rfl⟩;obtain ⟨q7,hq7⟩:∃q,zeroP s.rv.place=q:=⟨_,rfl⟩
 have HBL:Hid (dM s.rv=(q2 && q3 && q4 && q5 && !q6 && q7)):=aF (by
  unfold dM;rw [<- hq2,<- hq3,<- hq4,<- hq5,<- hq6,<- hq7,eR]
  rfl)
 have HQ1:=aF hq1;have HQ7:=aF hq7;have HQ2:=aF hq2;have HQ3:=aF hq3;have HQ4:=aF hq4;have HQ5:=aF hq5;have HQ6:=aF hq6;clear hq1 hq2 hq3 hq4 hq5 hq7;have HF:Hid (R=writE b s.place):=aF (by rw [<- HR.out,stE,bA hk,aZ (by simp [hloc]),bA hw]);have e1:(s.loc != 0)=false:=by simp [hloc]
 have HW:=aF (fun (W:World) (hb:Below w.heap.size w W)=>eZ b bh r s.place A0 c0 W (HH.out.keep hb).at_ (HP0.out.keep RPj.keeps hb) HH.out.ok.okay);generalize writE b s.place=we at HF HW hw;have e2:(we != 0)=true:=by simp [hw]
 clear HBL hloc hw;clear HR hR H hT hp0 hp hl;rcases (show q1=false\/(q1=true/\q2=false)\/(q1=true/\q2=true/\q3=false)\/(q1=true/\q2=true/\q3=true/\q4=false)\/(q1=true/\q2=true/\q3=true/\q4=true/\q5=false)\/(q1=true/\q2=true/\q3=true/\q4=true/\q5=true/\q6=true)\/(q1=true/\q2=true/\q3=true/\q4=true/\q5=true/\q6=false) by cases q1 <;> cases q2 <;> cases q3 <;> cases q4 <;> cases q5 <;> cases q6 <;> simp) with rfl | ⟨rfl,rfl⟩ | ⟨rfl,rfl,rfl⟩ | ⟨rfl,rfl,rfl,rfl⟩ | ⟨rfl,rfl,rfl,rfl,rfl⟩ | ⟨rfl,rfl,rfl,rfl,rfl,rfl⟩ | ⟨rfl,rfl,rfl,rfl,rfl,rfl⟩
 all_goals
  have g2:=HQ2.out;have g3:=HQ3.out;have g4:=HQ4.out;have g5:=HQ5.out;have g6:=HQ6.out;unfold ckC at *;unfold stC;rw [hk];go_enter Tryz.func71,Tryz.ntmps71
  go_wp2_with (first | (go_at_call 115;refine (HZZ.out _ _ _ _).mono ?_;rintro e' w2 ⟨rfl,hb2⟩;rw [HQ7.out];have HB2:=aF (HB.out.trans (hb2.mono HB.out.size));have HY2:=aF (cK HY.out hb2);have HZ3:=aF (cK HZ.out hb2);have HU2:=aF (cK HU.out hb2);clear y0 y1 y2 y3 y4 y5 y6 y7 z0 z1 z2 z10 u0 u1 u2 u3 u4 u5 u6 HY HZ HU HB;have HB:=HB2;have HY:=HY2;have HZ:=HZ3;have HU:=HU2;obtain ⟨y0,y1,y2,y3,y4,y5,y6,y7⟩:=aT HY.out;obtain ⟨z0,z1,z2,-,-,-,-,-,-,-,z10⟩:=aW HZ.out;obtain ⟨u0,u1,u2,u3,u4,u5,u6⟩:=aS HU.out;clear hb2 HB2 HY2 HZ3 HU2) | (go_at_call 115;refine (HZZ.out _ _ _ _).mono ?_;rintro e' w1 ⟨rfl,hb1⟩;rw [HQ1.out];have HB:=aF ((bel3 _ _ _ _).trans (hb1.mono (bel3 _ _ _ _).size));obtain ⟨y,z,u⟩:=dY hb1;have HY:=aF y;have HZ:=aF z;have HU:=aF u;obtain ⟨y0,y1,y2,y3,y4,y5,y6,y7⟩:=aT HY.out;obtain ⟨z0,z1,z2,-,-,-,-,-,-,-,z10⟩:=aW HZ.out;obtain ⟨u0,u1,u2,u3,u4,u5,u6⟩:=aS HU.out;clear y z u hb1) | (go_at_call 116;refine (HW.out _ HB.out).mono ?_;rintro e' w3 ⟨rfl,hb3⟩;have HBW:=aF (HB.out.trans (hb3.mono HB.out.size));have HY3:=aF (cK HY.out hb3);have HU3:=aF (cK HU.out hb3);clear y0 y1 y2 y3 y4 y5 y6 y7 u0 u1 u2 u3 u4 u5 u6;obtain ⟨y0,y1,y2,y3,y4,y5,y6,y7⟩:=aT HY3.out;obtain ⟨u0,u1,u2,u3,u4,u5,u6⟩:=aS HU3.out;clear hb3))
  all_goals first
   | (exfalso;omega)
   | (go_ret;exact ⟨by rw [HF.out];rfl,by first | exact HBW2.out | exact HBW.out | exact HB.out⟩)
theorem uK {b:Bdy} {bh:BH} {r:Nat} {w:World} (H:Ck w b bh r) (hT:TabsOk w) (s:Stm) (A0 A B:Option Addr) (c0 c d:Nat) (hp0:Slc 2 RPj w A0 c0 s.place.proj) (hp:Slc 2 RPj w A c s.rv.place.proj) (hl:Slc 4 ROp w B d s.rv.args) (hk:s.kind=0) (hloc:s.loc=0) (hw:writE b s.place=0):
 Calls Tryz.prog 71 #[.agg (ckC b bh r).toArray,.agg (stC s A0 c0 A c B d).toArray] w fun e' w'=>e' = .returned (.int .i64 (stE b s))/\Below w.heap.size w w':=by
 have HZZ:=aF eH;have HH:=aF H;have HT:=aF hT;have HP0:=aF hp0;have HP:=aF hp;have HL:=aF hl;have hle:=hl.le;have hbig:=hl.big;have hlocl:=H.at_.loc.le;have hlocb:=H.at_.loc.big;obtain ⟨R,hR⟩:∃R,stE b s=R:=⟨_,rfl⟩;rw [hR];have HR:=aF hR;obtain ⟨q1,hq1⟩:∃q,zeroP s.place=q:=⟨_,rfl⟩;obtain ⟨q2,hq2⟩:∃q,(s.rv.kind == 0)=q:=⟨_,rfl⟩;obtain ⟨q3,hq3⟩:∃q,(s.rv.op == 0)=q:=⟨_,rfl⟩;obtain ⟨q4,hq4⟩:∃q,((s.rv.args.length:Int) == 0)=q:=⟨_,rfl⟩;obtain ⟨q5,hq5⟩:∃q,(s.rv.reg == 0)=q:=⟨_,rfl⟩;obtain ⟨q6,hq6⟩:∃q,s.rv.mu=q:=⟨_,rfl⟩;obtain ⟨q7,hq7⟩:∃q,zeroP s.rv.place=q:=⟨_,rfl⟩
 have HBL:Hid (dM s.rv=(q2 && q3 && q4 && q5 && !q6 && q7)):=aF (by
  unfold dM;rw [<- hq2,<- hq3,<- hq4,<- hq5,<- hq6,<- hq7,eR]
  rfl)
 have HQ1:=aF hq1;have HQ7:=aF hq7;have HQ2:=aF hq2;have HQ3:=aF hq3;have HQ4:=aF hq4;have HQ5:=aF hq5;have HQ6:=aF hq6;clear hq1 hq2 hq3 hq4 hq5 hq7;have HF:Hid (R=rvE b s.rv (tyB b s.place).1):=aF (by rw [<- HR.out,stE,bA hk,aZ (by simp [hloc]),aZ (by simp [hw])]);have e1:(s.loc != 0)=false:=by simp [hloc]
 have HW:=aF (fun (W:World) (hb:Below w.heap.size w W)=>eZ b bh r s.place A0 c0 W (HH.out.keep hb).at_ (HP0.out.keep RPj.keeps hb) HH.out.ok.okay)
 have hte:(tyB b s.place).2=0:=by
  unfold writE at hw;by_cases h:(tyB b s.place).2≠0
  ·rw [bA h] at hw;exact hw
  ·simpa using h
 have hin:=fZ H.ok.okay (l:=s.place.loc) (ps:=s.place.proj) hte;change 0<=(tyB b s.place).1/\(tyB b s.place).1<b.types.length at hin;rw [hw] at HW;obtain ⟨t,htt⟩:=bG hin.1;have hin2:=hin.2;rw [htt] at HF HW hin2;have HRV0:=aF (fun (W:World) (hb:Below w.heap.size w W)=>pD (HH.out.keep hb) (HT.out.keep hb) s.rv t (by omega) A B c d (HP.out.keep RPj.keeps hb) (HL.out.keep ROp.keeps hb));unfold rvC at HRV0;rw [hq6] at HRV0;have HRV:=HRV0;clear HBL hloc hw hte hin hin2 htt HRV0;clear HR hR H hT hp0 hp hl;rcases (show q1=false\/(q1=true/\q2=false)\/(q1=true/\q2=true/\q3=false)\/(q1=true/\q2=true/\q3=true/\q4=false)\/(q1=true/\q2=true/\q3=true/\q4=true/\q5=false)\/(q1=true/\q2=true/\q3=true/\q4=true/\q5=true/\q6=true)\/(q1=true/\q2=true/\q3=true/\q4=true/\q5=true/\q6=false) by cases q1 <;> cases q2 <;> cases q3 <;> cases q4 <;> cases q5 <;> cases q6 <;> simp) with rfl | ⟨rfl,rfl⟩ | ⟨rfl,rfl,rfl⟩ | ⟨rfl,rfl,rfl,rfl⟩ | ⟨rfl,rfl,rfl,rfl,rfl⟩ | ⟨rfl,rfl,rfl,rfl,rfl,rfl⟩ | ⟨rfl,rfl,rfl,rfl,rfl,rfl⟩
 all_goals
  have g2:=HQ2.out;have g3:=HQ3.out;have g4:=HQ4.out;have g5:=HQ5.out;have g6:=HQ6.out;unfold ckC at *;unfold stC;rw [hk];go_enter Tryz.func71,Tryz.ntmps71
  go_wp2_with (first | (go_at_call 115;refine (HZZ.out _ _ _ _).mono ?_;rintro e' w2 ⟨rfl,hb2⟩;rw [HQ7.out];have HB2:=aF (HB.out.trans (hb2.mono HB.out.size));have HY2:=aF (cK HY.out hb2);have HZ3:=aF (cK HZ.out hb2);have HU2:=aF (cK HU.out hb2);clear y0 y1 y2 y3 y4 y5 y6 y7 z0 z1 z2 z10 u0 u1 u2 u3 u4 u5 u6 HY HZ HU HB;have HB:=HB2;have HY:=HY2;have HZ:=HZ3;have HU:=HU2;obtain ⟨y0,y1,y2,y3,y4,y5,y6,y7⟩:=aT HY.out;obtain ⟨z0,z1,z2,-,-,-,-,-,-,-,z10⟩:=aW HZ.out;obtain ⟨u0,u1,u2,u3,u4,u5,u6⟩:=aS HU.out;clear hb2 HB2 HY2 HZ3 HU2) | (go_at_call 115;refine (HZZ.out _ _ _ _).mono ?_;rintro e' w1 ⟨rfl,hb1⟩;rw [HQ1.out];have HB:=aF ((bel3 _ _ _ _).trans (hb1.mono (bel3 _ _ _ _).size));obtain ⟨y,z,u⟩:=dY hb1;have HY:=aF y;have HZ:=aF z;have HU:=aF u;obtain ⟨y0,y1,y2,y3,y4,y5,y6,y7⟩:=aT HY.out;obtain ⟨z0,z1,z2,-,-,-,-,-,-,-,z10⟩:=aW HZ.out;obtain ⟨u0,u1,u2,u3,u4,u5,u6⟩:=aS HU.out;clear y z u hb1) | (go_at_call 116;refine (HW.out _ HB.out).mono ?_;rintro e' w3 ⟨rfl,hb3⟩;have HBW:=aF (HB.out.trans (hb3.mono HB.out.size));have HY3:=aF (cK HY.out hb3);have HU3:=aF (cK HU.out hb3);clear y0 y1 y2 y3 y4 y5 y6 y7 u0 u1 u2 u3 u4 u5 u6;obtain ⟨y0,y1,y2,y3,y4,y5,y6,y7⟩:=aT HY3.out;obtain ⟨u0,u1,u2,u3,u4,u5,u6⟩:=aS HU3.out;clear hb3) | (go_at_call 117;refine (HRV.out _ HBW.out).mono ?_;rintro e' w4 ⟨rfl,hb4⟩;have HBW2:=aF (HBW.out.trans (hb4.mono HBW.out.size));clear hb4))
  all_goals first
   | (exfalso;omega)
   | (go_ret;exact ⟨by rw [HF.out];rfl,by first | exact HBW2.out | exact HBW.out | exact HB.out⟩)
theorem qX {b:Bdy} {bh:BH} {r:Nat} {w:World} (H:Ck w b bh r) (hT:TabsOk w) (s:Stm) (A0 A B:Option Addr) (c0 c d:Nat) (hp0:Slc 2 RPj w A0 c0 s.place.proj) (hp:Slc 2 RPj w A c s.rv.place.proj) (hl:Slc 4 ROp w B d s.rv.args) (hk:s.kind=1):
 Calls Tryz.prog 71 #[.agg (ckC b bh r).toArray,.agg (stC s A0 c0 A c B d).toArray] w fun e' w'=>e' = .returned (.int .i64 (stE b s))/\Below w.heap.size w w':=by
 have HZZ:=aF eH;have HH:=aF H;have HT:=aF hT;have HP0:=aF hp0;have HP:=aF hp;have HL:=aF hl;have hle:=hl.le;have hbig:=hl.big;have hlocl:=H.at_.loc.le;have hlocb:=H.at_.loc.big;obtain ⟨R,hR⟩:∃R,stE b s=R:=⟨_,rfl⟩;rw [hR];have HR:=aF hR;obtain ⟨q1,hq1⟩:∃q,zeroP s.place=q:=⟨_,rfl⟩;obtain ⟨q2,hq2⟩:∃q,(s.rv.kind == 0)=q:=⟨_,rfl⟩;obtain ⟨q3,hq3⟩:∃q,(s.rv.op == 0)=q:=⟨_,rfl⟩;obtain ⟨q4,hq4⟩:∃q,((s.rv.args.length:Int) == 0)=q:=⟨_,rfl⟩;obtain ⟨q5,hq5⟩:∃q,(s.rv.reg == 0)=q:=⟨_,rfl⟩;obtain ⟨q6,hq6⟩:∃q,s.rv.mu=q:=⟨_,rfl⟩;obtain ⟨q7,hq7⟩:∃q,zeroP s.rv.place=q:=⟨_,rfl⟩
 have HBL:Hid (dM s.rv=(q2 && q3 && q4 && q5 && !q6 && q7)):=aF (by
  unfold dM;rw [<- hq2,<- hq3,<- hq4,<- hq5,<- hq6,<- hq7,eR]
  rfl)
 have HQ1:=aF hq1;have HQ7:=aF hq7;have HQ2:=aF hq2;have HQ3:=aF hq3;have HQ4:=aF hq4;have HQ5:=aF hq5;have HQ6:=aF hq6;clear hq1 hq2 hq3 hq4 hq5 hq7;have HF0:Hid (R=if q1=false\/(q2 && q3 && q4 && q5 && !q6 && q7)=false then 2 else if s.loc<0\/(b.locals.length:Int)<=s.loc then 3 else 0):=aF (by rw [<- HR.out,stE,aZ (by omega),bA hk,HBL.out,HQ1.out]);clear HBL;clear HR hR H hT hp0 hp hl;by_cases hall:q1=true/\q2=true/\q3=true/\q4=true/\q5=true/\q6=false
 case' neg=>
  have HF:Hid (R=2):=aF (by rw [HF0.out,bA];revert hall;cases q1 <;> cases q2 <;> cases q3 <;> cases q4 <;> cases q5 <;> cases q6 <;> simp);clear HF0;rcases (show q1=false\/(q1=true/\q2=false)\/(q1=true/\q2=true/\q3=false)\/(q1=true/\q2=true/\q3=true/\q4=false)\/(q1=true/\q2=true/\q3=true/\q4=true/\q5=false)\/(q1=true/\q2=true/\q3=true/\q4=true/\q5=true/\q6=true) by revert hall;cases q1 <;> cases q2 <;> cases q3 <;> cases q4 <;> cases q5 <;> cases q6 <;> simp) with rfl | ⟨rfl,rfl⟩ | ⟨rfl,rfl,rfl⟩ | ⟨rfl,rfl,rfl,rfl⟩ | ⟨rfl,rfl,rfl,rfl,rfl⟩ | ⟨rfl,rfl,rfl,rfl,rfl,rfl⟩
  all_goals
   clear hall
 case' pos=>
  obtain ⟨rfl,rfl,rfl,rfl,rfl,rfl⟩:=hall;cases q7
  case' false=>
   have HF:Hid (R=2):=aF (by rw [HF0.out];simp);clear HF0
  case' true=>
   by_cases hlo:s.loc<0\/(b.locals.length:Int)<=s.loc
   case' pos=>
    have HF:Hid (R=3):=aF (by rw [HF0.out];simp [hlo];try omega);skip;clear HF0
   case' neg=>
    have HF:Hid (R=0):=aF (by rw [HF0.out];simp [hlo];try omega);have e5:¬s.loc<0:=(by omega);have e6:¬(b.locals.length:Int)<=s.loc:=(by omega);clear hlo;clear HF0
 all_goals
  have g2:=HQ2.out;have g3:=HQ3.out;have g4:=HQ4.out;have g5:=HQ5.out;have g6:=HQ6.out;unfold ckC at *;unfold stC;rw [hk];go_enter Tryz.func71,Tryz.ntmps71
  go_wp2_with (first | (go_at_call 115;refine (HZZ.out _ _ _ _).mono ?_;rintro e' w2 ⟨rfl,hb2⟩;rw [HQ7.out];have HB2:=aF (HB.out.trans (hb2.mono HB.out.size));have HY2:=aF (cK HY.out hb2);have HZ3:=aF (cK HZ.out hb2);have HU2:=aF (cK HU.out hb2);clear y0 y1 y2 y3 y4 y5 y6 y7 z0 z1 z2 z10 u0 u1 u2 u3 u4 u5 u6 HY HZ HU HB;have HB:=HB2;have HY:=HY2;have HZ:=HZ3;have HU:=HU2;obtain ⟨y0,y1,y2,y3,y4,y5,y6,y7⟩:=aT HY.out;obtain ⟨z0,z1,z2,-,-,-,-,-,-,-,z10⟩:=aW HZ.out;obtain ⟨u0,u1,u2,u3,u4,u5,u6⟩:=aS HU.out;clear hb2 HB2 HY2 HZ3 HU2) | (go_at_call 115;refine (HZZ.out _ _ _ _).mono ?_;rintro e' w1 ⟨rfl,hb1⟩;rw [HQ1.out];have HB:=aF ((bel3 _ _ _ _).trans (hb1.mono (bel3 _ _ _ _).size));obtain ⟨y,z,u⟩:=dY hb1;have HY:=aF y;have HZ:=aF z;have HU:=aF u;obtain ⟨y0,y1,y2,y3,y4,y5,y6,y7⟩:=aT HY.out;obtain ⟨z0,z1,z2,-,-,-,-,-,-,-,z10⟩:=aW HZ.out;obtain ⟨u0,u1,u2,u3,u4,u5,u6⟩:=aS HU.out;clear y z u hb1))
  all_goals first
   | (exfalso;omega)
   | (go_ret;exact ⟨by rw [HF.out];rfl,HB.out⟩)
theorem uI {b:Bdy} {bh:BH} {r:Nat} {w:World} (H:Ck w b bh r) (hT:TabsOk w) (s:Stm) (A0 A B:Option Addr) (c0 c d:Nat) (hp0:Slc 2 RPj w A0 c0 s.place.proj) (hp:Slc 2 RPj w A c s.rv.place.proj) (hl:Slc 4 ROp w B d s.rv.args) (hk:s.kind=2):
 Calls Tryz.prog 71 #[.agg (ckC b bh r).toArray,.agg (stC s A0 c0 A c B d).toArray] w fun e' w'=>e' = .returned (.int .i64 (stE b s))/\Below w.heap.size w w':=by
 have HZZ:=aF eH;have HH:=aF H;have HT:=aF hT;have HP0:=aF hp0;have HP:=aF hp;have HL:=aF hl;have hle:=hl.le;have hbig:=hl.big;have hlocl:=H.at_.loc.le;have hlocb:=H.at_.loc.big;obtain ⟨R,hR⟩:∃R,stE b s=R:=⟨_,rfl⟩;rw [hR];have HR:=aF hR;obtain ⟨q1,hq1⟩:∃q,zeroP s.place=q:=⟨_,rfl⟩;obtain ⟨q2,hq2⟩:∃q,(s.rv.kind == 0)=q:=⟨_,rfl⟩;obtain ⟨q3,hq3⟩:∃q,(s.rv.op == 0)=q:=⟨_,rfl⟩;obtain ⟨q4,hq4⟩:∃q,((s.rv.args.length:Int) == 0)=q:=⟨_,rfl⟩;obtain ⟨q5,hq5⟩:∃q,(s.rv.reg == 0)=q:=⟨_,rfl⟩;obtain ⟨q6,hq6⟩:∃q,s.rv.mu=q:=⟨_,rfl⟩;obtain ⟨q7,hq7⟩:∃q,zeroP s.rv.place=q:=⟨_,rfl⟩
 have HBL:Hid (dM s.rv=(q2 && q3 && q4 && q5 && !q6 && q7)):=aF (by
  unfold dM;rw [<- hq2,<- hq3,<- hq4,<- hq5,<- hq6,<- hq7,eR]
  rfl)
 have HQ1:=aF hq1;have HQ7:=aF hq7;have HQ2:=aF hq2;have HQ3:=aF hq3;have HQ4:=aF hq4;have HQ5:=aF hq5;have HQ6:=aF hq6;clear hq1 hq2 hq3 hq4 hq5 hq7;have HF0:Hid (R=if q1=false\/(q2 && q3 && q4 && q5 && !q6 && q7)=false\/s.loc≠0 then 2 else 0):=aF (by rw [<- HR.out,stE,aZ (by omega),aZ (by omega),bA hk,HBL.out,HQ1.out]);clear HBL;clear HR hR H hT hp0 hp hl;by_cases hall:q1=true/\q2=true/\q3=true/\q4=true/\q5=true/\q6=false
 case' neg=>
  have HF:Hid (R=2):=aF (by rw [HF0.out,bA];revert hall;cases q1 <;> cases q2 <;> cases q3 <;> cases q4 <;> cases q5 <;> cases q6 <;> simp);clear HF0;rcases (show q1=false\/(q1=true/\q2=false)\/(q1=true/\q2=true/\q3=false)\/(q1=true/\q2=true/\q3=true/\q4=false)\/(q1=true/\q2=true/\q3=true/\q4=true/\q5=false)\/(q1=true/\q2=true/\q3=true/\q4=true/\q5=true/\q6=true) by revert hall;cases q1 <;> cases q2 <;> cases q3 <;> cases q4 <;> cases q5 <;> cases q6 <;> simp) with rfl | ⟨rfl,rfl⟩ | ⟨rfl,rfl,rfl⟩ | ⟨rfl,rfl,rfl,rfl⟩ | ⟨rfl,rfl,rfl,rfl,rfl⟩ | ⟨rfl,rfl,rfl,rfl,rfl,rfl⟩
  all_goals
   clear hall
 case' pos=>
  obtain ⟨rfl,rfl,rfl,rfl,rfl,rfl⟩:=hall;cases q7
  case' false=>
   have HF:Hid (R=2):=aF (by rw [HF0.out];simp);clear HF0
  case' true=>
   by_cases hlo:s.loc≠0
   case' pos=>
    have HF:Hid (R=2):=aF (by rw [HF0.out];simp [hlo];try omega);have e5:(s.loc != 0)=true:=by simp [hlo]
    clear HF0
   case' neg=>
    have HF:Hid (R=0):=aF (by rw [HF0.out];simp [hlo];try omega);have e5:(s.loc != 0)=false:=by simpa using hlo
    clear HF0
 all_goals
  have g2:=HQ2.out;have g3:=HQ3.out;have g4:=HQ4.out;have g5:=HQ5.out;have g6:=HQ6.out;unfold ckC at *;unfold stC;rw [hk];go_enter Tryz.func71,Tryz.ntmps71
  go_wp2_with (first | (go_at_call 115;refine (HZZ.out _ _ _ _).mono ?_;rintro e' w2 ⟨rfl,hb2⟩;rw [HQ7.out];have HB2:=aF (HB.out.trans (hb2.mono HB.out.size));have HY2:=aF (cK HY.out hb2);have HZ3:=aF (cK HZ.out hb2);have HU2:=aF (cK HU.out hb2);clear y0 y1 y2 y3 y4 y5 y6 y7 z0 z1 z2 z10 u0 u1 u2 u3 u4 u5 u6 HY HZ HU HB;have HB:=HB2;have HY:=HY2;have HZ:=HZ3;have HU:=HU2;obtain ⟨y0,y1,y2,y3,y4,y5,y6,y7⟩:=aT HY.out;obtain ⟨z0,z1,z2,-,-,-,-,-,-,-,z10⟩:=aW HZ.out;obtain ⟨u0,u1,u2,u3,u4,u5,u6⟩:=aS HU.out;clear hb2 HB2 HY2 HZ3 HU2) | (go_at_call 115;refine (HZZ.out _ _ _ _).mono ?_;rintro e' w1 ⟨rfl,hb1⟩;rw [HQ1.out];have HB:=aF ((bel3 _ _ _ _).trans (hb1.mono (bel3 _ _ _ _).size));obtain ⟨y,z,u⟩:=dY hb1;have HY:=aF y;have HZ:=aF z;have HU:=aF u;obtain ⟨y0,y1,y2,y3,y4,y5,y6,y7⟩:=aT HY.out;obtain ⟨z0,z1,z2,-,-,-,-,-,-,-,z10⟩:=aW HZ.out;obtain ⟨u0,u1,u2,u3,u4,u5,u6⟩:=aS HU.out;clear y z u hb1))
  all_goals first
   | (exfalso;omega)
   | (go_ret;exact ⟨by rw [HF.out];rfl,HB.out⟩)
theorem uH {b:Bdy} {bh:BH} {r:Nat} {w:World} (H:Ck w b bh r) (hT:TabsOk w) (s:Stm) (A0 A B:Option Addr) (c0 c d:Nat) (hp0:Slc 2 RPj w A0 c0 s.place.proj) (hp:Slc 2 RPj w A c s.rv.place.proj) (hl:Slc 4 ROp w B d s.rv.args) (hk0:s.kind≠0) (hk1:s.kind≠1) (hk2:s.kind≠2):
 Calls Tryz.prog 71 #[.agg (ckC b bh r).toArray,.agg (stC s A0 c0 A c B d).toArray] w fun e' w'=>e' = .returned (.int .i64 (stE b s))/\Below w.heap.size w w':=by
 have HZZ:=aF eH;have HH:=aF H;have HT:=aF hT;have HP0:=aF hp0;have HP:=aF hp;have HL:=aF hl;have hle:=hl.le;have hbig:=hl.big;have hlocl:=H.at_.loc.le;have hlocb:=H.at_.loc.big;obtain ⟨R,hR⟩:∃R,stE b s=R:=⟨_,rfl⟩;rw [hR];have HR:=aF hR;obtain ⟨q1,hq1⟩:∃q,zeroP s.place=q:=⟨_,rfl⟩;obtain ⟨q2,hq2⟩:∃q,(s.rv.kind == 0)=q:=⟨_,rfl⟩;obtain ⟨q3,hq3⟩:∃q,(s.rv.op == 0)=q:=⟨_,rfl⟩;obtain ⟨q4,hq4⟩:∃q,((s.rv.args.length:Int) == 0)=q:=⟨_,rfl⟩;obtain ⟨q5,hq5⟩:∃q,(s.rv.reg == 0)=q:=⟨_,rfl⟩;obtain ⟨q6,hq6⟩:∃q,s.rv.mu=q:=⟨_,rfl⟩;obtain ⟨q7,hq7⟩:∃q,zeroP s.rv.place=q:=⟨_,rfl⟩
 have HBL:Hid (dM s.rv=(q2 && q3 && q4 && q5 && !q6 && q7)):=aF (by
  unfold dM;rw [<- hq2,<- hq3,<- hq4,<- hq5,<- hq6,<- hq7,eR]
  rfl)
 have HQ1:=aF hq1;have HQ7:=aF hq7;have HQ2:=aF hq2;have HQ3:=aF hq3;have HQ4:=aF hq4;have HQ5:=aF hq5;have HQ6:=aF hq6;clear hq1 hq2 hq3 hq4 hq5 hq7;have HF:Hid (R=14):=aF (by rw [<- HR.out,stE,aZ hk0,aZ hk1,aZ hk2]);have e0:(s.kind == 0)=false:=by simp [hk0]
 have e1:(s.kind == 1)=false:=by simp [hk1]
 have e2:(s.kind == 2)=false:=by simp [hk2]
 clear HBL hk0 hk1 hk2;have hk:True:=trivial;clear HR hR H hT hp0 hp hl;rcases (show q1=false\/(q1=true/\q2=false)\/(q1=true/\q2=true/\q3=false)\/(q1=true/\q2=true/\q3=true/\q4=false)\/(q1=true/\q2=true/\q3=true/\q4=true/\q5=false)\/(q1=true/\q2=true/\q3=true/\q4=true/\q5=true/\q6=true)\/(q1=true/\q2=true/\q3=true/\q4=true/\q5=true/\q6=false) by cases q1 <;> cases q2 <;> cases q3 <;> cases q4 <;> cases q5 <;> cases q6 <;> simp) with rfl | ⟨rfl,rfl⟩ | ⟨rfl,rfl,rfl⟩ | ⟨rfl,rfl,rfl,rfl⟩ | ⟨rfl,rfl,rfl,rfl,rfl⟩ | ⟨rfl,rfl,rfl,rfl,rfl,rfl⟩ | ⟨rfl,rfl,rfl,rfl,rfl,rfl⟩
 all_goals
  have g2:=HQ2.out;have g3:=HQ3.out;have g4:=HQ4.out;have g5:=HQ5.out;have g6:=HQ6.out;unfold ckC at *;unfold stC;go_enter Tryz.func71,Tryz.ntmps71
  go_wp2_with (first | (go_at_call 115;refine (HZZ.out _ _ _ _).mono ?_;rintro e' w2 ⟨rfl,hb2⟩;rw [HQ7.out];have HB2:=aF (HB.out.trans (hb2.mono HB.out.size));have HY2:=aF (cK HY.out hb2);have HZ3:=aF (cK HZ.out hb2);have HU2:=aF (cK HU.out hb2);clear y0 y1 y2 y3 y4 y5 y6 y7 z0 z1 z2 z10 u0 u1 u2 u3 u4 u5 u6 HY HZ HU HB;have HB:=HB2;have HY:=HY2;have HZ:=HZ3;have HU:=HU2;obtain ⟨y0,y1,y2,y3,y4,y5,y6,y7⟩:=aT HY.out;obtain ⟨z0,z1,z2,-,-,-,-,-,-,-,z10⟩:=aW HZ.out;obtain ⟨u0,u1,u2,u3,u4,u5,u6⟩:=aS HU.out;clear hb2 HB2 HY2 HZ3 HU2) | (go_at_call 115;refine (HZZ.out _ _ _ _).mono ?_;rintro e' w1 ⟨rfl,hb1⟩;rw [HQ1.out];have HB:=aF ((bel3 _ _ _ _).trans (hb1.mono (bel3 _ _ _ _).size));obtain ⟨y,z,u⟩:=dY hb1;have HY:=aF y;have HZ:=aF z;have HU:=aF u;obtain ⟨y0,y1,y2,y3,y4,y5,y6,y7⟩:=aT HY.out;obtain ⟨z0,z1,z2,-,-,-,-,-,-,-,z10⟩:=aW HZ.out;obtain ⟨u0,u1,u2,u3,u4,u5,u6⟩:=aS HU.out;clear y z u hb1))
  all_goals first
   | (exfalso;omega)
   | (go_ret;exact ⟨by rw [HF.out];rfl,by first | exact HBW2.out | exact HBW.out | exact HB.out⟩)
theorem uL {b:Bdy} {bh:BH} {r:Nat} {w:World} (H:Ck w b bh r) (hT:TabsOk w) (s:Stm) (A0 A B:Option Addr) (c0 c d:Nat) (hp0:Slc 2 RPj w A0 c0 s.place.proj) (hp:Slc 2 RPj w A c s.rv.place.proj) (hl:Slc 4 ROp w B d s.rv.args):
 Calls Tryz.prog 71 #[.agg (ckC b bh r).toArray,.agg (stC s A0 c0 A c B d).toArray] w fun e' w'=>e' = .returned (.int .i64 (stE b s))/\Below w.heap.size w w':=by
 by_cases h0:s.kind=0
 ·by_cases hl0:s.loc=0
  ·by_cases hw:writE b s.place=0
   ·exact uK H hT s A0 A B c0 c d hp0 hp hl h0 hl0 hw
   ·exact uG H hT s A0 A B c0 c d hp0 hp hl h0 hl0 hw
  ·exact uJ H hT s A0 A B c0 c d hp0 hp hl h0 hl0
 by_cases h1:s.kind=1
 ·exact qX H hT s A0 A B c0 c d hp0 hp hl h1
 by_cases h2:s.kind=2
 ·exact uI H hT s A0 A B c0 c d hp0 hp hl h2
 exact uH H hT s A0 A B c0 c d hp0 hp hl h0 h1 h2
theorem nO {b:Bdy} {bh:BH} {r:Nat} {w:World} (H:Ck w b bh r) (t:Trm) (A B C:Option Addr) (c d f:Nat) (ht:Slc 1 RInt w A c t.targets) (hl:Slc 4 ROp w B d t.args) (hp:Slc 2 RPj w C f t.place.proj) (hk:(t.kind<0\/5<t.kind)\/(¬(t.kind<0\/5<t.kind)/\fieldsT t=false)):
 Calls Tryz.prog 72 #[.agg (ckC b bh r).toArray,.agg (tmC t A c B d C f).toArray] w fun e' w'=>e' = .returned (.int .i64 (tmE b t))/\Below w.heap.size w w':=by
 have HFD:=aF (fun W=>eV t A B C c d f W);have HH:=aF H;have HTG:=aF ht;have HL:=aF hl;have HP:=aF hp;have hle:=hl.le;have hbig:=hl.big;have hle2:=ht.le;have hbig2:=ht.big;have hblkl:=H.at_.blk.le;have hblkb:=H.at_.blk.big;obtain ⟨R,hR⟩:∃R,tmE b t=R:=⟨_,rfl⟩;rw [hR];have HR:=aF hR;clear hR H ht hl hp;rcases hk with h0 | ⟨h0,hfd⟩
 ·have HF:Hid (R=14):=aF (by rw [<- HR.out,tmE,bA h0]);clear HR HFD;unfold ckC tmC;go_enter Tryz.func72,Tryz.ntmps72
  go_wp2_with fail
  all_goals first
   | (exfalso;omega)
   | (go_ret;exact ⟨by rw [HF.out];rfl,aH⟩)
 ·have HF:Hid (R=2):=aF (by rw [<- HR.out,tmE,aZ h0,bA hfd]);rw [hfd] at HFD;clear HR hfd;unfold ckC;unfold tmC at *;go_enter Tryz.func72,Tryz.ntmps72
  go_wp2_with (go_at_call 118;refine (HFD.out _).mono ?_;rintro e' w1 ⟨rfl,hb1⟩;have HB:=aF ((bel2 _ _ _).trans (hb1.mono (bel2 _ _ _).size));obtain ⟨y,z⟩:=cT hb1;have HY:=aF y;have HZ:=aF z;obtain ⟨y0,y1,y2,y3,y4,y5,y6,y7⟩:=aT HY.out;obtain ⟨z0,z1,z2,z3,z4,z5⟩:=aR HZ.out;clear y z hb1)
  all_goals first
   | (exfalso;omega)
   | (go_ret;exact ⟨by rw [HF.out];rfl,HB.out⟩)
theorem qS {b:Bdy} {bh:BH} {r:Nat} {w:World} (H:Ck w b bh r) (t:Trm) (A B C:Option Addr) (c d f:Nat) (ht:Slc 1 RInt w A c t.targets) (hl:Slc 4 ROp w B d t.args) (hp:Slc 2 RPj w C f t.place.proj) (hk:t.kind=4) (hfd:fieldsT t=true):
 Calls Tryz.prog 72 #[.agg (ckC b bh r).toArray,.agg (tmC t A c B d C f).toArray] w fun e' w'=>e' = .returned (.int .i64 (tmE b t))/\Below w.heap.size w w':=by
 have HFD:=aF (fun W=>eV t A B C c d f W);have HH:=aF H;have HTG:=aF ht;have HL:=aF hl;have HP:=aF hp;have hle:=hl.le;have hbig:=hl.big;have hle2:=ht.le;have hbig2:=ht.big;have hblkl:=H.at_.blk.le;have hblkb:=H.at_.blk.big;obtain ⟨R,hR⟩:∃R,tmE b t=R:=⟨_,rfl⟩;rw [hR];have HR:=aF hR;clear hR H ht hl hp;obtain ⟨Q,hQ⟩:∃Q,(if (tyB b t.place).2≠0 then (tyB b t.place).2 else fail22 (hasD t.place.proj 0))=Q:=⟨_,rfl⟩;have HQ:=aF hQ
 have HF:Hid (R=if t.targets.all (fun k=>decide (0<=k/\k<(b.blocks.length:Int)))=true then Q else 3):=aF (by
  rw [<- HR.out,tmE,aZ (by omega),aZ (by rw [hfd];simp)];rw [<- HQ.out];cases t.targets.all (fun k=>decide (0<=k/\k<(b.blocks.length:Int)))
  ·simp
  ·simp [hk])
 rw [hfd] at HFD;have HTT:=aF (fun (W:World) (hb:Below w.heap.size w W)=>dX b bh r t.place C f W (HH.out.keep hb).at_ (HP.out.keep RPj.keeps hb) HH.out.ok.okay);have HHD:=aF (fun (W:World) (hb:Below w.heap.size w W)=>oM t.place 0 C f W (HP.out.keep RPj.keeps hb));generalize hasD t.place.proj 0=hdd at HHD hQ HQ;generalize tyB b t.place=q at HTT hQ HQ;obtain ⟨ti,te⟩:=q;simp only at hQ HQ HTT;have HQF:Hid (Q=firstE [te,fail22 hdd]):=aF (by rw [<- HQ.out];simp only [firstE];by_cases h:te=0 <;> simp [h]);clear HR hQ hfd;unfold ckC at *;unfold tmC at *;rw [hk] at HFD ⊢;go_enter Tryz.func72,Tryz.ntmps72
 go_wp2_with (go_at_call 118;refine (HFD.out _).mono ?_;rintro e' w1 ⟨rfl,hb1⟩;have HB:=aF ((bel2 _ _ _).trans (hb1.mono (bel2 _ _ _).size));obtain ⟨y,z⟩:=cT hb1;have HY:=aF y;have HZ:=aF z;obtain ⟨y0,y1,y2,y3,y4,y5,y6,y7⟩:=aT HY.out;obtain ⟨z0,z1,z2,z3,z4,z5⟩:=aR HZ.out;clear y z hb1)
 all_goals try (exfalso;omega)
 go_loop [27] (fun v=>∃k:Nat,k<=t.targets.length/\v = .int .i64 k/\Hid (R=if (t.targets.drop k).all (fun k=>decide (0<=k/\k<(b.blocks.length:Int)))=true then Q else 3)) (fun v=>t.targets.length - (intOf v).toNat)
 case atStart=>exact ⟨0,by omega,rfl,HF⟩
 case round=>
  clear HF;obtain ⟨k,hk2,rfl,hr⟩:=hrel;by_cases hlt:k<t.targets.length
  ·have hd:=cS hlt;obtain ⟨b5,o5,rfl,hb5,hx⟩:=HTG.out.sl.at_ hlt;obtain ⟨x,hxx⟩:∃x,t.targets[k]=x:=⟨_,rfl⟩;rw [hxx] at hd hx;have x0:w1.cell? ⟨b5,o5+k,none⟩=some (.int .i64 x):=cJ HB.out (by simpa [RInt] using hx);by_cases hin:0<=x/\x<(b.blocks.length:Int)
   ·have HF2:Hid (R=if (t.targets.drop (k+1)).all (fun k=>decide (0<=k/\k<(b.blocks.length:Int)))=true then Q else 3):=aF (by rw [hr.out,hd,cB];simp [hin]);have e1:¬x<0:=(by omega);have e2:¬(b.blocks.length:Int)<=x:=(by omega);clear hd hx hxx hr hin;go_wp2_with fail
    all_goals try (exfalso;omega)
    go_round
    case rel=>exact ⟨k+1,by omega,by go_num,HF2⟩
    case measure=>simp [intOf];omega
   ·have HF2:Hid (R=3):=aF (by rw [hr.out,hd,cB];simp;intro h1 h2;exact absurd ⟨h1,h2⟩ hin);clear hd hx hxx hr;go_wp2_with fail
    all_goals first
     | (exfalso;omega)
     | (go_ret;exact ⟨by rw [HF2.out];rfl,HB.out⟩)
  ·have HF2:Hid (R=Q):=aF (by rw [hr.out,bE (by omega:t.targets.length<=k)];rfl);clear hr;go_wp2_with (first | (go_at_call 123;refine (HTT.out _ HB.out).mono ?_;rintro e' w2 ⟨rfl,hb⟩;have HB2:=aF (HB.out.trans (hb.mono HB.out.size));have HY2:=aF (cK HY.out hb);have HZ2:=aF (cK HZ.out hb);clear y0 y1 y2 y3 y4 y5 y6 y7 z0 z1 z2 z3 z4 z5;obtain ⟨y0,y1,y2,y3,y4,y5,y6,y7⟩:=aT HY2.out;obtain ⟨z0,z1,z2,z3,z4,z5⟩:=aR HZ2.out;clear hb) | (go_at_call 124;refine (HHD.out _ HB2.out).mono ?_;rintro e' w3 ⟨rfl,hb⟩;have HB3:=aF (HB2.out.trans (hb.mono HB2.out.size));have HY3:=aF (cK HY2.out hb);have HZ3:=aF (cK HZ2.out hb);clear y0 y1 y2 y3 y4 y5 y6 y7 z0 z1 z2 z3 z4 z5;obtain ⟨y0,y1,y2,y3,y4,y5,y6,y7⟩:=aT HY3.out;obtain ⟨z0,z1,z2,z3,z4,z5⟩:=aR HZ3.out;clear hb) | (go_at_call 120;refine (dL _ _).mono ?_;rintro e' w4 ⟨rfl,hw⟩;obtain rfl:=hw.symm) | (go_at_call 109;refine (eU [te,fail22 hdd] _ 2 _ (kF _ _ _ _ _ rfl)).mono ?_;rintro e' w5 ⟨rfl,hw⟩;obtain rfl:=hw.symm))
   go_ret;exact ⟨by rw [HF2.out,HQF.out];rfl,HB3.out.alloc HB3.out.size _⟩
end
end Go.Proofs.YtmknfbfppmkcfaaGreatDoor
