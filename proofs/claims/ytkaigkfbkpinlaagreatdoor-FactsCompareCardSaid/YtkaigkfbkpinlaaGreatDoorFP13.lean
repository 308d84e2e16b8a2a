/-
  Parts of the proof: V37 V38 V38A V38B V38C V38D V38N V38O V38E V39A V39C.
-/
import Derived.Sort.WalkA
import Derived.Test.YtkaigkfbkpinlaaGreatDoorFP0
import Derived.Test.YtkaigkfbkpinlaaGreatDoorFP12
import Derived.Test.YtkaigkfbkpinlaaGreatDoorFP11
import Derived.Test.YtkaigkfbkpinlaaGreatDoorFP9
namespace Go.Proofs.YtkaigkfbkpinlaaGreatDoor
set_option maxRecDepth 100000
set_option maxHeartbeats 16000000
section
open Go Go.RowKit Go.Maps
structure TabsOk (w:World):Prop where
 un:Slc 2 RPr w (some ⟨0,0,none⟩) 2 kN
 bi:Slc 2 RPr w (some ⟨1,0,none⟩) 6 gW
theorem TabsOk.keep {w w':World} (h:TabsOk w) (hb:Below w.heap.size w w'):TabsOk w':=⟨h.un.keep RPr.keeps hb,h.bi.keep RPr.keeps hb⟩
theorem yW (W:World) (x:Int) (T:TypeId) (k:Nat) (hk:k=W.heap.size):Slc 1 RInt (W.alloc (.cells #[.int .i64 x] T)) (some ⟨k,0,none⟩) 1 [x]:=by
 subst hk;refine ⟨fun _=>⟨_,_,rfl,by simp,fun i q hi=>?_⟩,by simp,by omega⟩;show (W.alloc _).cell? ⟨W.heap.size,0+i * 1,none⟩=_;rw [World.cell?_alloc_at _ _ _ _ (by simp),Nat.zero_add,Nat.mul_one];match i,hi with
 | 0,hi=>simp at hi;subst hi;rfl
 | i+1,hi=>simp at hi
theorem sM {b:Bdy} {bh:BH} {r:Nat} {w:World} (H:Ck w b bh r) (hT:TabsOk w) (rv:Rvl) (t:Nat) (ht:t<b.types.length) (A B:Option Addr) (c d:Nat) (hp:Slc 2 RPj w A c rv.place.proj) (hl:Slc 4 ROp w B d rv.args):
 Calls Tryz.prog 119 #[.agg (ckC b bh r).toArray,.agg (rvC rv A c B d).toArray,.int .i64 t] w fun e' w'=>e' = .returned (.int .i64 (rvE b rv t))/\Below w.heap.size w w':=by
 have HU:=aH (fun W=>sI rv A B c d W);obtain ⟨R,hR⟩:∃R,rvE b rv t=R:=⟨_,rfl⟩;rw [hR]
 have HR:Hid (R=if rv.kind<0\/4<rv.kind then 14 else if unusedR rv=false then 2 else if rv.kind=0 then opsE b rv.args [(t:Int)] else if rv.kind=1 then borE b rv t else if rv.kind=2 then operE b rv t kN else if rv.kind=3 then operE b rv t gW else if b.types[t].kind≠4\/b.types[t].flds.length≠rv.args.length then 22 else opsE b rv.args b.types[t].flds):=aH (by
  rw [<- hR,rvE];simp only [bX]
  rw [bF ht])
 have HH:=aH H;have HT:=aH hT;have HL:=aH hl;have HP:=aH hp;have hle:=hl.le;have hbig:=hl.big;clear hR H hT hl hp;unfold ckC;by_cases h0:rv.kind<0\/4<rv.kind
 ·have HF:Hid (R=14):=aH (by rw [HR.out,bD h0]);clear HR HU;unfold rvC;go_enter Tryz.func119,Tryz.ntmps119
  go_wp2_with fail
  all_goals first
   | (exfalso;omega)
   | (go_ret;exact ⟨by rw [HF.out];rfl,aJ⟩)
 obtain ⟨u,hu⟩:∃u,unusedR rv=u:=⟨_,rfl⟩;rw [hu] at HU HR;cases u
 ·have HF:Hid (R=2):=aH (by rw [HR.out,bB h0,bD rfl]);have h1:¬rv.kind<0:=by omega
  have h2:¬4<rv.kind:=by omega
  clear HR h0;unfold rvC at HU ⊢;go_enter Tryz.func119,Tryz.ntmps119
  go_wp2_with (go_at_call 151;refine (HU.out _).mono ?_;rintro e' w1 ⟨rfl,hb1⟩;have HB:=aH ((bel2 _ _ _).trans (hb1.mono (bel2 _ _ _).size));obtain ⟨y,z⟩:=dD hb1;have HY:=aH y;have HZ:=aH z;obtain ⟨y0,y1,y2,y3,y4,y5,y6,y7⟩:=aV HY.out;obtain ⟨z0,z1,z2,z3,z4,z5,z6⟩:=aU HZ.out;have hlw:=hb1.size;simp only [bK] at hlw;have hlw1:w.heap.size+1<w1.heap.size:=hlw;have hlw0:w.heap.size<w1.heap.size:=cE hlw;clear y z hb1)
  all_goals first
   | (exfalso;omega)
   | (go_ret;exact ⟨by rw [HF.out];rfl,HB.out⟩)
 have HR2:Hid (R=if rv.kind=0 then opsE b rv.args [(t:Int)] else if rv.kind=1 then borE b rv t else if rv.kind=2 then operE b rv t kN else if rv.kind=3 then operE b rv t gW else if b.types[t].kind≠4\/b.types[t].flds.length≠rv.args.length then 22 else opsE b rv.args b.types[t].flds):=aH (by rw [HR.out,bB h0,bB (by simp)]);clear HR;rcases (show rv.kind=0\/rv.kind=1\/(rv.kind=2\/rv.kind=3)\/rv.kind=4 by omega) with hk | hk | hk | hk
 ·have HF:Hid (R=opsE b rv.args [(t:Int)]):=aH (by rw [HR2.out,bD hk]);have HC:=aH (fun (W:World) (hb:Below w.heap.size w W) (C:Option Addr) (f:Nat) (hf:Slc 1 RInt W C f [(t:Int)])=>eZ (HH.out.keep hb) rv.args [(t:Int)] B C d f (HL.out.keep ROp.keeps hb) hf (by simp;omega));clear HR2 hu h0;unfold rvC at HU ⊢;unfold ckC at HC;rw [hk] at HU ⊢;go_enter Tryz.func119,Tryz.ntmps119
  go_wp2_with (first | (go_at_call 151;refine (HU.out _).mono ?_;rintro e' w1 ⟨rfl,hb1⟩;have HB:=aH ((bel2 _ _ _).trans (hb1.mono (bel2 _ _ _).size));obtain ⟨y,z⟩:=dD hb1;have HY:=aH y;have HZ:=aH z;obtain ⟨y0,y1,y2,y3,y4,y5,y6,y7⟩:=aV HY.out;obtain ⟨z0,z1,z2,z3,z4,z5,z6⟩:=aU HZ.out;have hlw:=hb1.size;simp only [bK] at hlw;have hlw1:w.heap.size+1<w1.heap.size:=hlw;have hlw0:w.heap.size<w1.heap.size:=cE hlw;clear y z hb1) | (go_at_call 124;refine (HC.out _ (HB.out.alloc HB.out.size _) _ _ (yW _ _ _ _ rfl)).mono ?_;rintro e' w2 ⟨rfl,hb2⟩;have HB2:=aH ((HB.out.alloc HB.out.size _).trans (hb2.mono (HB.out.alloc HB.out.size _).size));clear hb2))
  go_ret;exact ⟨by rw [HF.out];rfl,HB2.out⟩
 ·have HF:Hid (R=borE b rv t):=aH (by rw [HR2.out,bB (by omega),bD hk]);have HC:=aH (fun (W:World) (hb:Below w.heap.size w W)=>tD (HH.out.keep hb) rv t ht A B c d (HP.out.keep RPj.keeps hb));clear HR2 hu h0;unfold rvC at HU HC ⊢;unfold ckC at HC;rw [hk] at HU HC ⊢;go_enter Tryz.func119,Tryz.ntmps119
  go_wp2_with (first | (go_at_call 151;refine (HU.out _).mono ?_;rintro e' w1 ⟨rfl,hb1⟩;have HB:=aH ((bel2 _ _ _).trans (hb1.mono (bel2 _ _ _).size));obtain ⟨y,z⟩:=dD hb1;have HY:=aH y;have HZ:=aH z;obtain ⟨y0,y1,y2,y3,y4,y5,y6,y7⟩:=aV HY.out;obtain ⟨z0,z1,z2,z3,z4,z5,z6⟩:=aU HZ.out;have hlw:=hb1.size;simp only [bK] at hlw;have hlw1:w.heap.size+1<w1.heap.size:=hlw;have hlw0:w.heap.size<w1.heap.size:=cE hlw;clear y z hb1) | (go_at_call 152;refine (HC.out _ HB.out).mono ?_;rintro e' w2 ⟨rfl,hb2⟩;have HB2:=aH (HB.out.trans (hb2.mono HB.out.size));clear hb2))
  go_ret;exact ⟨by rw [HF.out];rfl,HB2.out⟩
 ·have HC:=aH (fun (W:World) (hb:Below w.heap.size w W) tab k f h=>nK (HH.out.keep hb) rv t ht tab A B k c d f (HL.out.keep ROp.keeps hb) h)
  obtain ⟨tab,HF⟩:∃tab,Hid (R=operE b rv t tab/\tab=if rv.kind=2 then kN else gW):=⟨_,aH ⟨by
   rw [HR2.out,bB (by omega),bB (by omega)];rcases hk with hk | hk
   ·rw [bD hk,bD hk]
   ·rw [hk];rfl,rfl⟩⟩
  clear HR2 hu h0;unfold rvC at HU HC ⊢;unfold ckC at HC;rcases hk with hk | hk
  case' inl=>(obtain rfl:tab=kN:=by rw [HF.out.2,bD hk]);have HC2:=aH (fun W hb=>HC.out W hb _ _ _ (HT.out.keep hb).un)
  case' inr=>(obtain rfl:tab=gW:=by rw [HF.out.2,bB (by omega)]);have HC2:=aH (fun W hb=>HC.out W hb _ _ _ (HT.out.keep hb).bi)
  all_goals
   clear HC;rw [hk] at HU HC2 ⊢;go_enter Tryz.func119,Tryz.ntmps119
   go_wp2_with (go_at_call 151;refine (HU.out _).mono ?_;rintro e' w1 ⟨rfl,hb1⟩;have HB:=aH ((bel2 _ _ _).trans (hb1.mono (bel2 _ _ _).size));obtain ⟨y,z⟩:=dD hb1;have HY:=aH y;have HZ:=aH z;obtain ⟨y0,y1,y2,y3,y4,y5,y6,y7⟩:=aV HY.out;obtain ⟨z0,z1,z2,z3,z4,z5,z6⟩:=aU HZ.out;have hlw:=hb1.size;simp only [bK] at hlw;have hlw1:w.heap.size+1<w1.heap.size:=hlw;have hlw0:w.heap.size<w1.heap.size:=cE hlw;clear y z hb1)
   clear y0 y1 y2 y3 y4 y5 y6 y7 z0 z1 z2 z3 z4 z5 z6;have hS:Below w1.heap.size w1 w1.drew:=(aZ _ _).drew;have HD:=aH (fun X (hX:Below w1.heap.size w1 X)=>bM (cV HY.out hX) (cV HZ.out hX));refine cZ (S:=fun X=>Below w1.heap.size w1 X) [0,1,2,3,4,5] (by kernel_rfl) ?_;(iterate 4 (refine cY (v:=?_) ?_ hS ?_;rotate_left;(next=>(rintro X hX;obtain ⟨hY,hZ⟩:=HD.out X hX;obtain ⟨s0,s1,s2,s3,s4,s5,s6,s7⟩:=aV hY;obtain ⟨u0,u1,u2,u3,u4,u5,u6⟩:=aU hZ;(try simp only [aK]);go_simp;rfl));simp only [aO]));(refine cX (fun K1 hK1=>?_);simp only [aO];rw [bD (by rfl)];go_simp);refine (HC2.out _ HB.out.drew).mono ?_;rintro e' w2 ⟨rfl,hb⟩;replace hS:=hS.trans (hb.mono hS.size);have HB2:=aH (HB.out.drew.trans (hb.mono HB.out.size));clear hb;refine hK1.out _ _ (fun _=>hS) ?_;((refine cY (v:=?_) ?_ hS ?_;rotate_left;(next=>(rintro X -;(try simp only [aK]);go_simp;rfl));simp only [aO]))
   refine dI ?_;go_wp2_with fail
   go_ret;exact ⟨by rw [HF.out.1];rfl,HB2.out⟩
 ·obtain ⟨bb,oo,hA3,hbb,hxx⟩:=HH.out.at_.typ.sl.at_ ht;have hgd:=HH.out.ok.tyok t ht;obtain ⟨ty,hty⟩:∃ty,b.types[t]=ty:=⟨_,rfl⟩;have hle3:=HH.out.at_.typ.le;have hbig3:=HH.out.at_.typ.big;rw [hty] at hxx hgd HR2;obtain ⟨q0,q1,q2,q3,A5,c5,q4,q6,q7,q8⟩:=hxx;have HFS:Hid (Slc 1 RInt w A5 c5 ty.flds):=aH ⟨q8,q6,q7⟩;have HF0:Hid (R=if ty.kind≠4\/ty.flds.length≠rv.args.length then 22 else opsE b rv.args ty.flds):=aH (by rw [HR2.out,bB (by omega),bB (by omega),bB (by omega),bB (by omega)]);have HC:=aH (fun (W:World) (hb:Below w.heap.size w W)=>eZ (HH.out.keep hb) rv.args ty.flds B A5 d c5 (HL.out.keep ROp.keeps hb) (HFS.out.keep RInt.keeps hb) (fun x hx=>by have:=hgd.2 x hx;omega));obtain ⟨p1,hp1⟩:∃p,(ty.kind != 4)=p:=⟨_,rfl⟩;obtain ⟨p2,hp2⟩:∃p,((ty.flds.length:Int) != (rv.args.length:Int))=p:=⟨_,rfl⟩
  have HF1:Hid (R=if p1=true\/p2=true then 22 else opsE b rv.args ty.flds):=aH (by
   rw [HF0.out,<- hp1,<- hp2]
   simp only [bne_iff_ne,ne_eq,Int.ofNat_inj])
  generalize opsE b rv.args ty.flds=oe at HC HF1;have HF:Hid (R=firstE [fail22 (p1 || p2),oe]):=aH (by rw [HF1.out];cases p1 <;> cases p2 <;> simp [firstE,fail22]);have HP1:=aH hp1;have HP2:=aH hp2;clear HR2 HF0 HF1 hu h0 hty hgd q8;unfold rvC at HU ⊢;unfold ckC at HC;rw [hA3] at HC ⊢;rw [hk] at HU ⊢;go_enter Tryz.func119,Tryz.ntmps119
  go_wp2_with (go_at_call 151;refine (HU.out _).mono ?_;rintro e' w1 ⟨rfl,hb1⟩;have HB:=aH ((bel2 _ _ _).trans (hb1.mono (bel2 _ _ _).size));obtain ⟨y,z⟩:=dD hb1;have HY:=aH y;have HZ:=aH z;obtain ⟨y0,y1,y2,y3,y4,y5,y6,y7⟩:=aV HY.out;obtain ⟨z0,z1,z2,z3,z4,z5,z6⟩:=aU HZ.out;have v0:=cQ HB.out q0;have v1:=cQ HB.out q1;have v2:=cQ HB.out q2;have v3:=cQ HB.out q3;have v4:=cQ HB.out q4;have hlw:=hb1.size;simp only [bK] at hlw;have hlw1:w.heap.size+1<w1.heap.size:=hlw;have hlw0:w.heap.size<w1.heap.size:=cE hlw;clear y z hb1)
  have HBX:=aH ((HB.out.alloc HB.out.size (.cells (tyL ty A5 c5).toArray 104)).drew)
  have hS:(∀i v,[Value.string b.name,.slice bh.A1 b.regions.length bh.c1,.slice bh.A2 b.outl.length bh.c2,.slice (some ⟨bb,oo,none⟩) b.types.length bh.c3,.slice bh.A4 b.locals.length bh.c4,.int .i64 b.args,.slice bh.A5 b.blocks.length bh.c5,.pointer (some ⟨r,0,none⟩)][i]?=some v->(w1.alloc (.cells (tyL ty A5 c5).toArray 104)).drew.cell? ⟨w.heap.size,i,none⟩=some v)/\(∀i v,[Value.int .i64 4,.int .i64 rv.op,.int .i64 rv.reg,.bool rv.mu,.int .i64 rv.place.loc,.slice A rv.place.proj.length c,.slice B rv.args.length d][i]?=some v->(w1.alloc (.cells (tyL ty A5 c5).toArray 104)).drew.cell? ⟨w.heap.size+1,i,none⟩=some v)/\(∀i v,(tyL ty A5 c5)[i]?=some v->(w1.alloc (.cells (tyL ty A5 c5).toArray 104)).drew.cell? ⟨w1.heap.size,i,none⟩=some v):=
   ⟨fun i v hi=>cQ (((aZ _ _).alloc (bA _) _).drew) (HY.out i v hi),fun i v hi=>cQ (((aZ _ _).alloc (bA _) _).drew) (HZ.out i v hi),cT w1 (tyL ty A5 c5) _⟩
  clear y0 y1 y2 y3 y4 y5 y6 y7 z0 z1 z2 z3 z4 z5 z6 v0 v1 v2 v3 v4 q0 q1 q2 q3 q4;refine cZ (S:=fun X=>(aD (bdM b bh.A1 bh.c1 bh.A2 bh.c2 (some ⟨bb,oo,none⟩) bh.c3 bh.A4 bh.c4 bh.A5 bh.c5 [.pointer (some ⟨r,0,none⟩)]) X w.heap.size)/\(aD [Value.int .i64 4,.int .i64 rv.op,.int .i64 rv.reg,.bool rv.mu,.int .i64 rv.place.loc,.slice A rv.place.proj.length c,.slice B rv.args.length d] X (w.heap.size+1))/\(aD (tyL ty A5 c5) X w1.heap.size)) [0,1,2,3,4,5,6,7,8,9,10,11,13,14,15,16,17,12,18,19,20,21] (by kernel_rfl) ?_;(iterate 3 (refine cY (v:=?_) ?_ hS ?_;rotate_left;(next=>(rintro X ⟨hX,hY,hZ⟩;have u0:=hZ 0 _ rfl;(try simp only [aK]);go_simp;rfl));simp only [aO]));try rw [HP1.out]
  cases p1
  ·((refine cY (v:=?_) ?_ hS ?_;rotate_left;(next=>(rintro X -;(try simp only [aK]);go_simp;rfl));simp only [aO]))
   (iterate 6 (refine cY (v:=?_) ?_ hS ?_;rotate_left;(next=>(rintro X ⟨hX,hY,hZ⟩;have u4:=hZ 4 _ rfl;have u6:=hY 6 _ rfl;(try simp only [aK]);go_simp;rfl));simp only [aO]));((refine cY (v:=?_) ?_ hS ?_;rotate_left;(next=>(rintro X -;(try simp only [aK]);go_simp;rfl));simp only [aO]))
   try rw [HP2.out]
   ((refine cY (v:=?_) ?_ hS ?_;rotate_left;(next=>(rintro X -;(try simp only [aK]);go_simp;rfl));simp only [aO]))
   (iterate 5 (refine cY (v:=?_) ?_ hS ?_;rotate_left;(next=>(rintro X ⟨hX,hY,hZ⟩;obtain ⟨s0,s1,s2,s3,s4,s5,s6,s7⟩:=aV hX;have u4:=hZ 4 _ rfl;have u6:=hY 6 _ rfl;(try simp only [aK]);go_simp;rfl));simp only [aO]));(refine cX (fun K1 hK1=>?_);simp only [aO];rw [bD (by rfl)];go_simp);refine (dX _ _).mono ?_;rintro e' w3 ⟨rfl,hw⟩;obtain rfl:=hw.symm;refine hK1.out _ _ (fun _=>hS) ?_;clear hK1;(refine cX (fun K1 hK1=>?_);simp only [aO];rw [bD (by rfl)];go_simp);refine (HC.out _ HBX.out).mono ?_;rintro e' w2 ⟨rfl,hb⟩;replace hS:=bM (cV hS.1 hb) (bM (cV hS.2.1 hb) (cV hS.2.2 hb));have HB2:=aH (HBX.out.trans (hb.mono HBX.out.size));clear hb;refine hK1.out _ _ (fun _=>hS) ?_;clear hK1;(refine cX (fun K1 hK1=>?_);simp only [aO];rw [bD (by rfl)];go_simp);replace hS:=bM (fun i v hi=>cQ ((aZ _ _).alloc (bA _) (.cells #[Value.int .i64 (fail22 p2),.int .i64 oe] 28)) (hS.1 i v hi)) (bM (fun i v hi=>cQ ((aZ _ _).alloc (bA _) (.cells #[Value.int .i64 (fail22 p2),.int .i64 oe] 28)) (hS.2.1 i v hi)) (fun i v hi=>cQ ((aZ _ _).alloc (bA _) (.cells #[Value.int .i64 (fail22 p2),.int .i64 oe] 28)) (hS.2.2 i v hi)));refine hK1.out _ _ (fun _=>hS) ?_;clear hK1;(refine cX (fun K1 hK1=>?_);simp only [aO];rw [bD (by rfl)];go_simp);refine (fE [fail22 p2,oe] _ 2 _ (oE _ _ _ _ _ rfl)).mono ?_;rintro e' w4 ⟨rfl,hw⟩;obtain rfl:=hw.symm;refine hK1.out _ _ (fun _=>hS) ?_;clear hK1;((refine cY (v:=?_) ?_ hS ?_;rotate_left;(next=>(rintro X -;(try simp only [aK]);go_simp;rfl));simp only [aO]))
   refine dI ?_;go_wp2_with fail
   go_ret;exact ⟨by rw [HF.out];rfl,HB2.out.alloc HB2.out.size _⟩
  ·((refine cY (v:=?_) ?_ hS ?_;rotate_left;(next=>(rintro X -;(try simp only [aK]);go_simp;rfl));simp only [aO]))
   (iterate 7 (refine nA (v:=undef) (by kernel_rfl) (fun _ _ _ h=>h) (Or.inr ⟨by rfl,rfl⟩) hS ?_;simp only [aO]));((refine cY (v:=?_) ?_ hS ?_;rotate_left;(next=>(rintro X -;(try simp only [aK]);go_simp;rfl));simp only [aO]))
   (iterate 5 (refine cY (v:=?_) ?_ hS ?_;rotate_left;(next=>(rintro X ⟨hX,hY,hZ⟩;obtain ⟨s0,s1,s2,s3,s4,s5,s6,s7⟩:=aV hX;have u4:=hZ 4 _ rfl;have u6:=hY 6 _ rfl;(try simp only [aK]);go_simp;rfl));simp only [aO]));(refine cX (fun K1 hK1=>?_);simp only [aO];rw [bD (by rfl)];go_simp);refine (dX _ _).mono ?_;rintro e' w3 ⟨rfl,hw⟩;obtain rfl:=hw.symm;refine hK1.out _ _ (fun _=>hS) ?_;clear hK1;(refine cX (fun K1 hK1=>?_);simp only [aO];rw [bD (by rfl)];go_simp);refine (HC.out _ HBX.out).mono ?_;rintro e' w2 ⟨rfl,hb⟩;replace hS:=bM (cV hS.1 hb) (bM (cV hS.2.1 hb) (cV hS.2.2 hb));have HB2:=aH (HBX.out.trans (hb.mono HBX.out.size));clear hb;refine hK1.out _ _ (fun _=>hS) ?_;clear hK1;(refine cX (fun K1 hK1=>?_);simp only [aO];rw [bD (by rfl)];go_simp);replace hS:=bM (fun i v hi=>cQ ((aZ _ _).alloc (bA _) (.cells #[Value.int .i64 (fail22 true),.int .i64 oe] 28)) (hS.1 i v hi)) (bM (fun i v hi=>cQ ((aZ _ _).alloc (bA _) (.cells #[Value.int .i64 (fail22 true),.int .i64 oe] 28)) (hS.2.1 i v hi)) (fun i v hi=>cQ ((aZ _ _).alloc (bA _) (.cells #[Value.int .i64 (fail22 true),.int .i64 oe] 28)) (hS.2.2 i v hi)));refine hK1.out _ _ (fun _=>hS) ?_;clear hK1;(refine cX (fun K1 hK1=>?_);simp only [aO];rw [bD (by rfl)];go_simp);refine (fE [fail22 true,oe] _ 2 _ (oE _ _ _ _ _ rfl)).mono ?_;rintro e' w4 ⟨rfl,hw⟩;obtain rfl:=hw.symm;refine hK1.out _ _ (fun _=>hS) ?_;clear hK1;((refine cY (v:=?_) ?_ hS ?_;rotate_left;(next=>(rintro X -;(try simp only [aK]);go_simp;rfl));simp only [aO]))
   refine dI ?_;go_wp2_with fail
   go_ret;exact ⟨by rw [HF.out];rfl,HB2.out.alloc HB2.out.size _⟩
def stC (s:Stm) (A0:Option Addr) (c0:Nat) (A:Option Addr) (c:Nat) (B:Option Addr) (d:Nat):List Value:=[.int .i64 s.kind,.int .i64 s.place.loc,.slice A0 s.place.proj.length c0,.int .i64 s.rv.kind,.int .i64 s.rv.op,.int .i64 s.rv.reg,.bool s.rv.mu,.int .i64 s.rv.place.loc,.slice A s.rv.place.proj.length c,.slice B s.rv.args.length d,.int .i64 s.loc]
theorem bel3 (w:World) (x y z:Obj):Below w.heap.size w (((w.alloc x).alloc y).alloc z):=aJ
theorem eJ {w w1:World} {l1 l2 l3:List Value} {t1 t2 t3:TypeId} (hb:Below (((w.alloc (.cells l1.toArray t1)).alloc (.cells l2.toArray t2)).alloc (.cells l3.toArray t3)).heap.size (((w.alloc (.cells l1.toArray t1)).alloc (.cells l2.toArray t2)).alloc (.cells l3.toArray t3)) w1):
 (∀i v,l1[i]?=some v->w1.cell? ⟨w.heap.size,i,none⟩=some v)/\(∀i v,l2[i]?=some v->w1.cell? ⟨w.heap.size+1,i,none⟩=some v)/\(∀i v,l3[i]?=some v->w1.cell? ⟨w.heap.size+1+1,i,none⟩=some v):=by
 refine ⟨fun i v hi=>cQ hb ?_,fun i v hi=>cQ hb ?_,fun i v hi=>cQ hb ?_⟩
 ·exact cQ (((aZ _ _).alloc (bA _) _).alloc (by simp) _) (cT w l1 t1 i v hi)
 ·have:=cT (w.alloc (.cells l1.toArray t1)) l2 t2 i v hi;rw [bK] at this;exact cQ ((aZ _ _).alloc (bA _) _) this
 ·have:=cT ((w.alloc (.cells l1.toArray t1)).alloc (.cells l2.toArray t2)) l3 t3 i v hi;simp only [bK] at this;exact this
theorem yL {b:Bdy} {bh:BH} {r:Nat} {w:World} (H:Ck w b bh r) (hT:TabsOk w) (s:Stm) (A0 A B:Option Addr) (c0 c d:Nat) (hp0:Slc 2 RPj w A0 c0 s.place.proj) (hp:Slc 2 RPj w A c s.rv.place.proj) (hl:Slc 4 ROp w B d s.rv.args) (hk:s.kind=0) (hloc:s.loc≠0):
 Calls Tryz.prog 80 #[.agg (ckC b bh r).toArray,.agg (stC s A0 c0 A c B d).toArray] w fun e' w'=>e' = .returned (.int .i64 (stE b s))/\Below w.heap.size w w':=by
 have HZZ:=aH eN;have HH:=aH H;have HT:=aH hT;have HP0:=aH hp0;have HP:=aH hp;have HL:=aH hl;have hle:=hl.le;have hbig:=hl.big;have hlocl:=H.at_.loc.le;have hlocb:=H.at_.loc.big;obtain ⟨R,hR⟩:∃R,stE b s=R:=⟨_,rfl⟩;rw [hR];have HR:=aH hR;obtain ⟨q1,hq1⟩:∃q,zeroP s.place=q:=⟨_,rfl⟩;obtain ⟨q2,hq2⟩:∃q,(s.rv.kind == 0)=q:=⟨_,rfl⟩;obtain ⟨q3,hq3⟩:∃q,(s.rv.op == 0)=q:=⟨_,rfl⟩;obtain ⟨q4,hq4⟩:∃q,((s.rv.args.length:Int) == 0)=q:=⟨_,rfl⟩;obtain ⟨q5,hq5⟩:∃q,(s.rv.reg == 0)=q:=⟨_,rfl⟩;obtain ⟨q6,hq6⟩:∃q,s.rv.mu=q:=⟨_,rfl⟩;obtain ⟨q7,hq7⟩:∃q,zeroP s.rv.place=q:=⟨_,rfl⟩
 have HBL:Hid (dT s.rv=(q2 && q3 && q4 && q5 && !q6 && q7)):=aH (by
  unfold dT;rw [<- hq2,<- hq3,<- hq4,<- hq5,<- hq6,<- hq7,fA]
  rfl)
 have HQ1:=aH hq1;have HQ7:=aH hq7;have HQ2:=aH hq2;have HQ3:=aH hq3;have HQ4:=aH hq4;have HQ5:=aH hq5;have HQ6:=aH hq6;clear hq1 hq2 hq3 hq4 hq5 hq7;have HF:Hid (R=2):=aH (by rw [<- HR.out,stE,bD hk,bD hloc]);have e1:(s.loc != 0)=true:=by simp [hloc]
 clear HBL;clear HR hR H hT hp0 hp hl;clear hloc;rcases (show q1=false\/(q1=true/\q2=false)\/(q1=true/\q2=true/\q3=false)\/(q1=true/\q2=true/\q3=true/\q4=false)\/(q1=true/\q2=true/\q3=true/\q4=true/\q5=false)\/(q1=true/\q2=true/\q3=true/\q4=true/\q5=true/\q6=true)\/(q1=true/\q2=true/\q3=true/\q4=true/\q5=true/\q6=false) by cases q1 <;> cases q2 <;> cases q3 <;> cases q4 <;> cases q5 <;> cases q6 <;> simp) with rfl | ⟨rfl,rfl⟩ | ⟨rfl,rfl,rfl⟩ | ⟨rfl,rfl,rfl,rfl⟩ | ⟨rfl,rfl,rfl,rfl,rfl⟩ | ⟨rfl,rfl,rfl,rfl,rfl,rfl⟩ | ⟨rfl,rfl,rfl,rfl,rfl,rfl⟩
 all_goals
  have g2:=HQ2.out;have g3:=HQ3.out;have g4:=HQ4.out;have g5:=HQ5.out;have g6:=HQ6.out;unfold ckC at *;unfold stC;rw [hk];go_enter Tryz.func80,Tryz.ntmps80
  go_wp2_with (first | (go_at_call 117;refine (HZZ.out _ _ _ _).mono ?_;rintro e' w2 ⟨rfl,hb2⟩;rw [HQ7.out];have HB2:=aH (HB.out.trans (hb2.mono HB.out.size));have HY2:=aH (cV HY.out hb2);have HZ3:=aH (cV HZ.out hb2);have HU2:=aH (cV HU.out hb2);clear y0 y1 y2 y3 y4 y5 y6 y7 z0 z1 z2 z10 u0 u1 u2 u3 u4 u5 u6 HY HZ HU HB;have HB:=HB2;have HY:=HY2;have HZ:=HZ3;have HU:=HU2;obtain ⟨y0,y1,y2,y3,y4,y5,y6,y7⟩:=aV HY.out;obtain ⟨z0,z1,z2,-,-,-,-,-,-,-,z10⟩:=aY HZ.out;obtain ⟨u0,u1,u2,u3,u4,u5,u6⟩:=aU HU.out;clear hb2 HB2 HY2 HZ3 HU2) | (go_at_call 117;refine (HZZ.out _ _ _ _).mono ?_;rintro e' w1 ⟨rfl,hb1⟩;rw [HQ1.out];have HB:=aH ((bel3 _ _ _ _).trans (hb1.mono (bel3 _ _ _ _).size));obtain ⟨y,z,u⟩:=eJ hb1;have HY:=aH y;have HZ:=aH z;have HU:=aH u;obtain ⟨y0,y1,y2,y3,y4,y5,y6,y7⟩:=aV HY.out;obtain ⟨z0,z1,z2,-,-,-,-,-,-,-,z10⟩:=aY HZ.out;obtain ⟨u0,u1,u2,u3,u4,u5,u6⟩:=aU HU.out;clear y z u hb1))
  all_goals first
   | (exfalso;omega)
   | (go_ret;exact ⟨by rw [HF.out];rfl,by first | exact HBW2.out | exact HBW.out | exact HB.out⟩)
theorem yI {b:Bdy} {bh:BH} {r:Nat} {w:World} (H:Ck w b bh r) (hT:TabsOk w) (s:Stm) (A0 A B:Option Addr) (c0 c d:Nat) (hp0:Slc 2 RPj w A0 c0 s.place.proj) (hp:Slc 2 RPj w A c s.rv.place.proj) (hl:Slc 4 ROp w B d s.rv.args) (hk:s.kind=0) (hloc:s.loc=0) (hw:writE b s.place≠0):
 Calls Tryz.prog 80 #[.agg (ckC b bh r).toArray,.agg (stC s A0 c0 A c B d).toArray] w fun e' w'=>e' = .returned (.int .i64 (stE b s))/\Below w.heap.size w w':=by
 have HZZ:=aH eN;have HH:=aH H;have HT:=aH hT;have HP0:=aH hp0;have HP:=aH hp;have HL:=aH hl;have hle:=hl.le;have hbig:=hl.big;have hlocl:=H.at_.loc.le;have hlocb:=H.at_.loc.big;obtain ⟨R,hR⟩:∃R,stE b s=R:=⟨_,rfl⟩;rw [hR];have HR:=aH hR;obtain ⟨q1,hq1⟩:∃q,zeroP s.place=q:=⟨_,rfl⟩;obtain ⟨q2,hq2⟩:∃q,(s.rv.kind == 0)=q:=⟨_,rfl⟩;obtain ⟨q3,hq3⟩:∃q,(s.rv.op == 0)=q:=⟨_,rfl⟩;obtain ⟨q4,hq4⟩:∃q,((s.rv.args.length:Int) == 0)=q:=⟨_,rfl⟩;obtain ⟨q5,hq5⟩:∃q,(s.rv.reg == 0)=q:=⟨_,rfl⟩;obtain ⟨q6,hq6⟩:∃q,s.rv.mu=q:=⟨_,rfl⟩;obtain ⟨q7,hq7⟩:∃q,zeroP s.rv.place=q:=⟨_,rfl⟩
 have HBL:Hid (dT s.rv=(q2 && q3 && q4 && q5 && !q6 && q7)):=aH (by
  unfold dT;rw [<- hq2,<- hq3,<- hq4,<- hq5,<- hq6,<- hq7,fA]
  rfl)
 have HQ1:=aH hq1;have HQ7:=aH hq7;have HQ2:=aH hq2;have HQ3:=aH hq3;have HQ4:=aH hq4;have HQ5:=aH hq5;have HQ6:=aH hq6;clear hq1 hq2 hq3 hq4 hq5 hq7;have HF:Hid (R=writE b s.place):=aH (by rw [<- HR.out,stE,bD hk,bB (by simp [hloc]),bD hw]);have e1:(s.loc != 0)=false:=by simp [hloc]
 have HW:=aH (fun (W:World) (hb:Below w.heap.size w W)=>fM b bh r s.place A0 c0 W (HH.out.keep hb).at_ (HP0.out.keep RPj.keeps hb) HH.out.ok.okay);generalize writE b s.place=we at HF HW hw;have e2:(we != 0)=true:=by simp [hw]
 clear HBL hloc hw;clear HR hR H hT hp0 hp hl;rcases (show q1=false\/(q1=true/\q2=false)\/(q1=true/\q2=true/\q3=false)\/(q1=true/\q2=true/\q3=true/\q4=false)\/(q1=true/\q2=true/\q3=true/\q4=true/\q5=false)\/(q1=true/\q2=true/\q3=true/\q4=true/\q5=true/\q6=true)\/(q1=true/\q2=true/\q3=true/\q4=true/\q5=true/\q6=false) by cases q1 <;> cases q2 <;> cases q3 <;> cases q4 <;> cases q5 <;> cases q6 <;> simp) with rfl | ⟨rfl,rfl⟩ | ⟨rfl,rfl,rfl⟩ | ⟨rfl,rfl,rfl,rfl⟩ | ⟨rfl,rfl,rfl,rfl,rfl⟩ | ⟨rfl,rfl,rfl,rfl,rfl,rfl⟩ | ⟨rfl,rfl,rfl,rfl,rfl,rfl⟩
 all_goals
  have g2:=HQ2.out;have g3:=HQ3.out;have g4:=HQ4.out;have g5:=HQ5.out;have g6:=HQ6.out;unfold ckC at *;unfold stC;rw [hk];go_enter Tryz.func80,Tryz.ntmps80
  go_wp2_with (first | (go_at_call 117;refine (HZZ.out _ _ _ _).mono ?_;rintro e' w2 ⟨rfl,hb2⟩;rw [HQ7.out];have HB2:=aH (HB.out.trans (hb2.mono HB.out.size));have HY2:=aH (cV HY.out hb2);have HZ3:=aH (cV HZ.out hb2);have HU2:=aH (cV HU.out hb2);clear y0 y1 y2 y3 y4 y5 y6 y7 z0 z1 z2 z10 u0 u1 u2 u3 u4 u5 u6 HY HZ HU HB;have HB:=HB2;have HY:=HY2;have HZ:=HZ3;have HU:=HU2;obtain ⟨y0,y1,y2,y3,y4,y5,y6,y7⟩:=aV HY.out;obtain ⟨z0,z1,z2,-,-,-,-,-,-,-,z10⟩:=aY HZ.out;obtain ⟨u0,u1,u2,u3,u4,u5,u6⟩:=aU HU.out;clear hb2 HB2 HY2 HZ3 HU2) | (go_at_call 117;refine (HZZ.out _ _ _ _).mono ?_;rintro e' w1 ⟨rfl,hb1⟩;rw [HQ1.out];have HB:=aH ((bel3 _ _ _ _).trans (hb1.mono (bel3 _ _ _ _).size));obtain ⟨y,z,u⟩:=eJ hb1;have HY:=aH y;have HZ:=aH z;have HU:=aH u;obtain ⟨y0,y1,y2,y3,y4,y5,y6,y7⟩:=aV HY.out;obtain ⟨z0,z1,z2,-,-,-,-,-,-,-,z10⟩:=aY HZ.out;obtain ⟨u0,u1,u2,u3,u4,u5,u6⟩:=aU HU.out;clear y z u hb1) | (go_at_call 118;refine (HW.out _ HB.out).mono ?_;rintro e' w3 ⟨rfl,hb3⟩;have HBW:=aH (HB.out.trans (hb3.mono HB.out.size));have HY3:=aH (cV HY.out hb3);have HU3:=aH (cV HU.out hb3);clear y0 y1 y2 y3 y4 y5 y6 y7 u0 u1 u2 u3 u4 u5 u6;obtain ⟨y0,y1,y2,y3,y4,y5,y6,y7⟩:=aV HY3.out;obtain ⟨u0,u1,u2,u3,u4,u5,u6⟩:=aU HU3.out;clear hb3))
  all_goals first
   | (exfalso;omega)
   | (go_ret;exact ⟨by rw [HF.out];rfl,by first | exact HBW2.out | exact HBW.out | exact HB.out⟩)
theorem yM {b:Bdy} {bh:BH} {r:Nat} {w:World} (H:Ck w b bh r) (hT:TabsOk w) (s:Stm) (A0 A B:Option Addr) (c0 c d:Nat) (hp0:Slc 2 RPj w A0 c0 s.place.proj) (hp:Slc 2 RPj w A c s.rv.place.proj) (hl:Slc 4 ROp w B d s.rv.args) (hk:s.kind=0) (hloc:s.loc=0) (hw:writE b s.place=0):
 Calls Tryz.prog 80 #[.agg (ckC b bh r).toArray,.agg (stC s A0 c0 A c B d).toArray] w fun e' w'=>e' = .returned (.int .i64 (stE b s))/\Below w.heap.size w w':=by
 have HZZ:=aH eN;have HH:=aH H;have HT:=aH hT;have HP0:=aH hp0;have HP:=aH hp;have HL:=aH hl;have hle:=hl.le;have hbig:=hl.big;have hlocl:=H.at_.loc.le;have hlocb:=H.at_.loc.big;obtain ⟨R,hR⟩:∃R,stE b s=R:=⟨_,rfl⟩;rw [hR];have HR:=aH hR;obtain ⟨q1,hq1⟩:∃q,zeroP s.place=q:=⟨_,rfl⟩;obtain ⟨q2,hq2⟩:∃q,(s.rv.kind == 0)=q:=⟨_,rfl⟩;obtain ⟨q3,hq3⟩:∃q,(s.rv.op == 0)=q:=⟨_,rfl⟩;obtain ⟨q4,hq4⟩:∃q,((s.rv.args.length:Int) == 0)=q:=⟨_,rfl⟩;obtain ⟨q5,hq5⟩:∃q,(s.rv.reg == 0)=q:=⟨_,rfl⟩;obtain ⟨q6,hq6⟩:∃q,s.rv.mu=q:=⟨_,rfl⟩;obtain ⟨q7,hq7⟩:∃q,zeroP s.rv.place=q:=⟨_,rfl⟩
 have HBL:Hid (dT s.rv=(q2 && q3 && q4 && q5 && !q6 && q7)):=aH (by
  unfold dT;rw [<- hq2,<- hq3,<- hq4,<- hq5,<- hq6,<- hq7,fA]
  rfl)
 have HQ1:=aH hq1;have HQ7:=aH hq7;have HQ2:=aH hq2;have HQ3:=aH hq3;have HQ4:=aH hq4;have HQ5:=aH hq5;have HQ6:=aH hq6;clear hq1 hq2 hq3 hq4 hq5 hq7;have HF:Hid (R=rvE b s.rv (tyB b s.place).1):=aH (by rw [<- HR.out,stE,bD hk,bB (by simp [hloc]),bB (by simp [hw])]);have e1:(s.loc != 0)=false:=by simp [hloc]
 have HW:=aH (fun (W:World) (hb:Below w.heap.size w W)=>fM b bh r s.place A0 c0 W (HH.out.keep hb).at_ (HP0.out.keep RPj.keeps hb) HH.out.ok.okay)
 have hte:(tyB b s.place).2=0:=by
  unfold writE at hw;by_cases h:(tyB b s.place).2≠0
  ·rw [bD h] at hw;exact hw
  ·simpa using h
 have hin:=kP H.ok.okay (l:=s.place.loc) (ps:=s.place.proj) hte;change 0<=(tyB b s.place).1/\(tyB b s.place).1<b.types.length at hin;rw [hw] at HW;obtain ⟨t,htt⟩:=bI hin.1;have hin2:=hin.2;rw [htt] at HF HW hin2;have HRV0:=aH (fun (W:World) (hb:Below w.heap.size w W)=>sM (HH.out.keep hb) (HT.out.keep hb) s.rv t (by omega) A B c d (HP.out.keep RPj.keeps hb) (HL.out.keep ROp.keeps hb));unfold rvC at HRV0;rw [hq6] at HRV0;have HRV:=HRV0;clear HBL hloc hw hte hin hin2 htt HRV0;clear HR hR H hT hp0 hp hl;rcases (show q1=false\/(q1=true/\q2=false)\/(q1=true/\q2=true/\q3=false)\/(q1=true/\q2=true/\q3=true/\q4=false)\/(q1=true/\q2=true/\q3=true/\q4=true/\q5=false)\/(q1=true/\q2=true/\q3=true/\q4=true/\q5=true/\q6=true)\/(q1=true/\q2=true/\q3=true/\q4=true/\q5=true/\q6=false) by cases q1 <;> cases q2 <;> cases q3 <;> cases q4 <;> cases q5 <;> cases q6 <;> simp) with rfl | ⟨rfl,rfl⟩ | ⟨rfl,rfl,rfl⟩ | ⟨rfl,rfl,rfl,rfl⟩ | ⟨rfl,rfl,rfl,rfl,rfl⟩ | ⟨rfl,rfl,rfl,rfl,rfl,rfl⟩ | ⟨rfl,rfl,rfl,rfl,rfl,rfl⟩
 all_goals
  have g2:=HQ2.out;have g3:=HQ3.out;have g4:=HQ4.out;have g5:=HQ5.out;have g6:=HQ6.out;unfold ckC at *;unfold stC;rw [hk];go_enter Tryz.func80,Tryz.ntmps80
  go_wp2_with (first | (go_at_call 117;refine (HZZ.out _ _ _ _).mono ?_;rintro e' w2 ⟨rfl,hb2⟩;rw [HQ7.out];have HB2:=aH (HB.out.trans (hb2.mono HB.out.size));have HY2:=aH (cV HY.out hb2);have HZ3:=aH (cV HZ.out hb2);have HU2:=aH (cV HU.out hb2);clear y0 y1 y2 y3 y4 y5 y6 y7 z0 z1 z2 z10 u0 u1 u2 u3 u4 u5 u6 HY HZ HU HB;have HB:=HB2;have HY:=HY2;have HZ:=HZ3;have HU:=HU2;obtain ⟨y0,y1,y2,y3,y4,y5,y6,y7⟩:=aV HY.out;obtain ⟨z0,z1,z2,-,-,-,-,-,-,-,z10⟩:=aY HZ.out;obtain ⟨u0,u1,u2,u3,u4,u5,u6⟩:=aU HU.out;clear hb2 HB2 HY2 HZ3 HU2) | (go_at_call 117;refine (HZZ.out _ _ _ _).mono ?_;rintro e' w1 ⟨rfl,hb1⟩;rw [HQ1.out];have HB:=aH ((bel3 _ _ _ _).trans (hb1.mono (bel3 _ _ _ _).size));obtain ⟨y,z,u⟩:=eJ hb1;have HY:=aH y;have HZ:=aH z;have HU:=aH u;obtain ⟨y0,y1,y2,y3,y4,y5,y6,y7⟩:=aV HY.out;obtain ⟨z0,z1,z2,-,-,-,-,-,-,-,z10⟩:=aY HZ.out;obtain ⟨u0,u1,u2,u3,u4,u5,u6⟩:=aU HU.out;clear y z u hb1) | (go_at_call 118;refine (HW.out _ HB.out).mono ?_;rintro e' w3 ⟨rfl,hb3⟩;have HBW:=aH (HB.out.trans (hb3.mono HB.out.size));have HY3:=aH (cV HY.out hb3);have HU3:=aH (cV HU.out hb3);clear y0 y1 y2 y3 y4 y5 y6 y7 u0 u1 u2 u3 u4 u5 u6;obtain ⟨y0,y1,y2,y3,y4,y5,y6,y7⟩:=aV HY3.out;obtain ⟨u0,u1,u2,u3,u4,u5,u6⟩:=aU HU3.out;clear hb3) | (go_at_call 119;refine (HRV.out _ HBW.out).mono ?_;rintro e' w4 ⟨rfl,hb4⟩;have HBW2:=aH (HBW.out.trans (hb4.mono HBW.out.size));clear hb4))
  all_goals first
   | (exfalso;omega)
   | (go_ret;exact ⟨by rw [HF.out];rfl,by first | exact HBW2.out | exact HBW.out | exact HB.out⟩)
theorem uA {b:Bdy} {bh:BH} {r:Nat} {w:World} (H:Ck w b bh r) (hT:TabsOk w) (s:Stm) (A0 A B:Option Addr) (c0 c d:Nat) (hp0:Slc 2 RPj w A0 c0 s.place.proj) (hp:Slc 2 RPj w A c s.rv.place.proj) (hl:Slc 4 ROp w B d s.rv.args) (hk:s.kind=1):
 Calls Tryz.prog 80 #[.agg (ckC b bh r).toArray,.agg (stC s A0 c0 A c B d).toArray] w fun e' w'=>e' = .returned (.int .i64 (stE b s))/\Below w.heap.size w w':=by
 have HZZ:=aH eN;have HH:=aH H;have HT:=aH hT;have HP0:=aH hp0;have HP:=aH hp;have HL:=aH hl;have hle:=hl.le;have hbig:=hl.big;have hlocl:=H.at_.loc.le;have hlocb:=H.at_.loc.big;obtain ⟨R,hR⟩:∃R,stE b s=R:=⟨_,rfl⟩;rw [hR];have HR:=aH hR;obtain ⟨q1,hq1⟩:∃q,zeroP s.place=q:=⟨_,rfl⟩;obtain ⟨q2,hq2⟩:∃q,(s.rv.kind == 0)=q:=⟨_,rfl⟩;obtain ⟨q3,hq3⟩:∃q,(s.rv.op == 0)=q:=⟨_,rfl⟩;obtain ⟨q4,hq4⟩:∃q,((s.rv.args.length:Int) == 0)=q:=⟨_,rfl⟩;obtain ⟨q5,hq5⟩:∃q,(s.rv.reg == 0)=q:=⟨_,rfl⟩;obtain ⟨q6,hq6⟩:∃q,s.rv.mu=q:=⟨_,rfl⟩;obtain ⟨q7,hq7⟩:∃q,zeroP s.rv.place=q:=⟨_,rfl⟩
 have HBL:Hid (dT s.rv=(q2 && q3 && q4 && q5 && !q6 && q7)):=aH (by
  unfold dT;rw [<- hq2,<- hq3,<- hq4,<- hq5,<- hq6,<- hq7,fA]
  rfl)
 have HQ1:=aH hq1;have HQ7:=aH hq7;have HQ2:=aH hq2;have HQ3:=aH hq3;have HQ4:=aH hq4;have HQ5:=aH hq5;have HQ6:=aH hq6;clear hq1 hq2 hq3 hq4 hq5 hq7;have HF0:Hid (R=if q1=false\/(q2 && q3 && q4 && q5 && !q6 && q7)=false then 2 else if s.loc<0\/(b.locals.length:Int)<=s.loc then 3 else 0):=aH (by rw [<- HR.out,stE,bB (by omega),bD hk,HBL.out,HQ1.out]);clear HBL;clear HR hR H hT hp0 hp hl;by_cases hall:q1=true/\q2=true/\q3=true/\q4=true/\q5=true/\q6=false
 case' neg=>
  have HF:Hid (R=2):=aH (by rw [HF0.out,bD];revert hall;cases q1 <;> cases q2 <;> cases q3 <;> cases q4 <;> cases q5 <;> cases q6 <;> simp);clear HF0;rcases (show q1=false\/(q1=true/\q2=false)\/(q1=true/\q2=true/\q3=false)\/(q1=true/\q2=true/\q3=true/\q4=false)\/(q1=true/\q2=true/\q3=true/\q4=true/\q5=false)\/(q1=true/\q2=true/\q3=true/\q4=true/\q5=true/\q6=true) by revert hall;cases q1 <;> cases q2 <;> cases q3 <;> cases q4 <;> cases q5 <;> cases q6 <;> simp) with rfl | ⟨rfl,rfl⟩ | ⟨rfl,rfl,rfl⟩ | ⟨rfl,rfl,rfl,rfl⟩ | ⟨rfl,rfl,rfl,rfl,rfl⟩ | ⟨rfl,rfl,rfl,rfl,rfl,rfl⟩
  all_goals
   clear hall
 case' pos=>
  obtain ⟨rfl,rfl,rfl,rfl,rfl,rfl⟩:=hall;cases q7
  case' false=>
   have HF:Hid (R=2):=aH (by rw [HF0.out];simp);clear HF0
  case' true=>
   by_cases hlo:s.loc<0\/(b.locals.length:Int)<=s.loc
   case' pos=>
    have HF:Hid (R=3):=aH (by rw [HF0.out];simp [hlo];try omega);skip;clear HF0
   case' neg=>
    have HF:Hid (R=0):=aH (by rw [HF0.out];simp [hlo];try omega);have e5:¬s.loc<0:=(by omega);have e6:¬(b.locals.length:Int)<=s.loc:=(by omega);clear hlo;clear HF0
 all_goals
  have g2:=HQ2.out;have g3:=HQ3.out;have g4:=HQ4.out;have g5:=HQ5.out;have g6:=HQ6.out;unfold ckC at *;unfold stC;rw [hk];go_enter Tryz.func80,Tryz.ntmps80
  go_wp2_with (first | (go_at_call 117;refine (HZZ.out _ _ _ _).mono ?_;rintro e' w2 ⟨rfl,hb2⟩;rw [HQ7.out];have HB2:=aH (HB.out.trans (hb2.mono HB.out.size));have HY2:=aH (cV HY.out hb2);have HZ3:=aH (cV HZ.out hb2);have HU2:=aH (cV HU.out hb2);clear y0 y1 y2 y3 y4 y5 y6 y7 z0 z1 z2 z10 u0 u1 u2 u3 u4 u5 u6 HY HZ HU HB;have HB:=HB2;have HY:=HY2;have HZ:=HZ3;have HU:=HU2;obtain ⟨y0,y1,y2,y3,y4,y5,y6,y7⟩:=aV HY.out;obtain ⟨z0,z1,z2,-,-,-,-,-,-,-,z10⟩:=aY HZ.out;obtain ⟨u0,u1,u2,u3,u4,u5,u6⟩:=aU HU.out;clear hb2 HB2 HY2 HZ3 HU2) | (go_at_call 117;refine (HZZ.out _ _ _ _).mono ?_;rintro e' w1 ⟨rfl,hb1⟩;rw [HQ1.out];have HB:=aH ((bel3 _ _ _ _).trans (hb1.mono (bel3 _ _ _ _).size));obtain ⟨y,z,u⟩:=eJ hb1;have HY:=aH y;have HZ:=aH z;have HU:=aH u;obtain ⟨y0,y1,y2,y3,y4,y5,y6,y7⟩:=aV HY.out;obtain ⟨z0,z1,z2,-,-,-,-,-,-,-,z10⟩:=aY HZ.out;obtain ⟨u0,u1,u2,u3,u4,u5,u6⟩:=aU HU.out;clear y z u hb1))
  all_goals first
   | (exfalso;omega)
   | (go_ret;exact ⟨by rw [HF.out];rfl,HB.out⟩)
theorem yK {b:Bdy} {bh:BH} {r:Nat} {w:World} (H:Ck w b bh r) (hT:TabsOk w) (s:Stm) (A0 A B:Option Addr) (c0 c d:Nat) (hp0:Slc 2 RPj w A0 c0 s.place.proj) (hp:Slc 2 RPj w A c s.rv.place.proj) (hl:Slc 4 ROp w B d s.rv.args) (hk:s.kind=2):
 Calls Tryz.prog 80 #[.agg (ckC b bh r).toArray,.agg (stC s A0 c0 A c B d).toArray] w fun e' w'=>e' = .returned (.int .i64 (stE b s))/\Below w.heap.size w w':=by
 have HZZ:=aH eN;have HH:=aH H;have HT:=aH hT;have HP0:=aH hp0;have HP:=aH hp;have HL:=aH hl;have hle:=hl.le;have hbig:=hl.big;have hlocl:=H.at_.loc.le;have hlocb:=H.at_.loc.big;obtain ⟨R,hR⟩:∃R,stE b s=R:=⟨_,rfl⟩;rw [hR];have HR:=aH hR;obtain ⟨q1,hq1⟩:∃q,zeroP s.place=q:=⟨_,rfl⟩;obtain ⟨q2,hq2⟩:∃q,(s.rv.kind == 0)=q:=⟨_,rfl⟩;obtain ⟨q3,hq3⟩:∃q,(s.rv.op == 0)=q:=⟨_,rfl⟩;obtain ⟨q4,hq4⟩:∃q,((s.rv.args.length:Int) == 0)=q:=⟨_,rfl⟩;obtain ⟨q5,hq5⟩:∃q,(s.rv.reg == 0)=q:=⟨_,rfl⟩;obtain ⟨q6,hq6⟩:∃q,s.rv.mu=q:=⟨_,rfl⟩;obtain ⟨q7,hq7⟩:∃q,zeroP s.rv.place=q:=⟨_,rfl⟩
 have HBL:Hid (dT s.rv=(q2 && q3 && q4 && q5 && !q6 && q7)):=aH (by
  unfold dT;rw [<- hq2,<- hq3,<- hq4,<- hq5,<- hq6,<- hq7,fA]
  rfl)
 have HQ1:=aH hq1;have HQ7:=aH hq7;have HQ2:=aH hq2;have HQ3:=aH hq3;have HQ4:=aH hq4;have HQ5:=aH hq5;have HQ6:=aH hq6;clear hq1 hq2 hq3 hq4 hq5 hq7;have HF0:Hid (R=if q1=false\/(q2 && q3 && q4 && q5 && !q6 && q7)=false\/s.loc≠0 then 2 else 0):=aH (by rw [<- HR.out,stE,bB (by omega),bB (by omega),bD hk,HBL.out,HQ1.out]);clear HBL;clear HR hR H hT hp0 hp hl;by_cases hall:q1=true/\q2=true/\q3=true/\q4=true/\q5=true/\q6=false
 case' neg=>
  have HF:Hid (R=2):=aH (by rw [HF0.out,bD];revert hall;cases q1 <;> cases q2 <;> cases q3 <;> cases q4 <;> cases q5 <;> cases q6 <;> simp);clear HF0;rcases (show q1=false\/(q1=true/\q2=false)\/(q1=true/\q2=true/\q3=false)\/(q1=true/\q2=true/\q3=true/\q4=false)\/(q1=true/\q2=true/\q3=true/\q4=true/\q5=false)\/(q1=true/\q2=true/\q3=true/\q4=true/\q5=true/\q6=true) by revert hall;cases q1 <;> cases q2 <;> cases q3 <;> cases q4 <;> cases q5 <;> cases q6 <;> simp) with rfl | ⟨rfl,rfl⟩ | ⟨rfl,rfl,rfl⟩ | ⟨rfl,rfl,rfl,rfl⟩ | ⟨rfl,rfl,rfl,rfl,rfl⟩ | ⟨rfl,rfl,rfl,rfl,rfl,rfl⟩
  all_goals
   clear hall
 case' pos=>
  obtain ⟨rfl,rfl,rfl,rfl,rfl,rfl⟩:=hall;cases q7
  case' false=>
   have HF:Hid (R=2):=aH (by rw [HF0.out];simp);clear HF0
  case' true=>
   by_cases hlo:s.loc≠0
   case' pos=>
    have HF:Hid (R=2):=aH (by rw [HF0.out];simp [hlo];try omega);have e5:(s.loc != 0)=true:=by simp [hlo]
    clear HF0
   case' neg=>
    have HF:Hid (R=0):=aH (by rw [HF0.out];simp [hlo];try omega);have e5:(s.loc != 0)=false:=by simpa using hlo
    clear HF0
 all_goals
  have g2:=HQ2.out;have g3:=HQ3.out;have g4:=HQ4.out;have g5:=HQ5.out;have g6:=HQ6.out;unfold ckC at *;unfold stC;rw [hk];go_enter Tryz.func80,Tryz.ntmps80
  go_wp2_with (first | (go_at_call 117;refine (HZZ.out _ _ _ _).mono ?_;rintro e' w2 ⟨rfl,hb2⟩;rw [HQ7.out];have HB2:=aH (HB.out.trans (hb2.mono HB.out.size));have HY2:=aH (cV HY.out hb2);have HZ3:=aH (cV HZ.out hb2);have HU2:=aH (cV HU.out hb2);clear y0 y1 y2 y3 y4 y5 y6 y7 z0 z1 z2 z10 u0 u1 u2 u3 u4 u5 u6 HY HZ HU HB;have HB:=HB2;have HY:=HY2;have HZ:=HZ3;have HU:=HU2;obtain ⟨y0,y1,y2,y3,y4,y5,y6,y7⟩:=aV HY.out;obtain ⟨z0,z1,z2,-,-,-,-,-,-,-,z10⟩:=aY HZ.out;obtain ⟨u0,u1,u2,u3,u4,u5,u6⟩:=aU HU.out;clear hb2 HB2 HY2 HZ3 HU2) | (go_at_call 117;refine (HZZ.out _ _ _ _).mono ?_;rintro e' w1 ⟨rfl,hb1⟩;rw [HQ1.out];have HB:=aH ((bel3 _ _ _ _).trans (hb1.mono (bel3 _ _ _ _).size));obtain ⟨y,z,u⟩:=eJ hb1;have HY:=aH y;have HZ:=aH z;have HU:=aH u;obtain ⟨y0,y1,y2,y3,y4,y5,y6,y7⟩:=aV HY.out;obtain ⟨z0,z1,z2,-,-,-,-,-,-,-,z10⟩:=aY HZ.out;obtain ⟨u0,u1,u2,u3,u4,u5,u6⟩:=aU HU.out;clear y z u hb1))
  all_goals first
   | (exfalso;omega)
   | (go_ret;exact ⟨by rw [HF.out];rfl,HB.out⟩)
theorem yJ {b:Bdy} {bh:BH} {r:Nat} {w:World} (H:Ck w b bh r) (hT:TabsOk w) (s:Stm) (A0 A B:Option Addr) (c0 c d:Nat) (hp0:Slc 2 RPj w A0 c0 s.place.proj) (hp:Slc 2 RPj w A c s.rv.place.proj) (hl:Slc 4 ROp w B d s.rv.args) (hk0:s.kind≠0) (hk1:s.kind≠1) (hk2:s.kind≠2):
 Calls Tryz.prog 80 #[.agg (ckC b bh r).toArray,.agg (stC s A0 c0 A c B d).toArray] w fun e' w'=>e' = .returned (.int .i64 (stE b s))/\Below w.heap.size w w':=by
 have HZZ:=aH eN;have HH:=aH H;have HT:=aH hT;have HP0:=aH hp0;have HP:=aH hp;have HL:=aH hl;have hle:=hl.le;have hbig:=hl.big;have hlocl:=H.at_.loc.le;have hlocb:=H.at_.loc.big;obtain ⟨R,hR⟩:∃R,stE b s=R:=⟨_,rfl⟩;rw [hR];have HR:=aH hR;obtain ⟨q1,hq1⟩:∃q,zeroP s.place=q:=⟨_,rfl⟩;obtain ⟨q2,hq2⟩:∃q,(s.rv.kind == 0)=q:=⟨_,rfl⟩;obtain ⟨q3,hq3⟩:∃q,(s.rv.op == 0)=q:=⟨_,rfl⟩;obtain ⟨q4,hq4⟩:∃q,((s.rv.args.length:Int) == 0)=q:=⟨_,rfl⟩;obtain ⟨q5,hq5⟩:∃q,(s.rv.reg == 0)=q:=⟨_,rfl⟩;obtain ⟨q6,hq6⟩:∃q,s.rv.mu=q:=⟨_,rfl⟩;obtain ⟨q7,hq7⟩:∃q,zeroP s.rv.place=q:=⟨_,rfl⟩
 have HBL:Hid (dT s.rv=(q2 && q3 && q4 && q5 && !q6 && q7)):=aH (by
  unfold dT;rw [<- hq2,<- hq3,<- hq4,<- hq5,<- hq6,<- hq7,fA]
  rfl)
 have HQ1:=aH hq1;have HQ7:=aH hq7;have HQ2:=aH hq2;have HQ3:=aH hq3;have HQ4:=aH hq4;have HQ5:=aH hq5;have HQ6:=aH hq6;clear hq1 hq2 hq3 hq4 hq5 hq7;have HF:Hid (R=14):=aH (by rw [<- HR.out,stE,bB hk0,bB hk1,bB hk2]);have e0:(s.kind == 0)=false:=by simp [hk0]
 have e1:(s.kind == 1)=false:=by simp [hk1]
 have e2:(s.kind == 2)=false:=by simp [hk2]
 clear HBL hk0 hk1 hk2;have hk:True:=trivial;clear HR hR H hT hp0 hp hl;rcases (show q1=false\/(q1=true/\q2=false)\/(q1=true/\q2=true/\q3=false)\/(q1=true/\q2=true/\q3=true/\q4=false)\/(q1=true/\q2=true/\q3=true/\q4=true/\q5=false)\/(q1=true/\q2=true/\q3=true/\q4=true/\q5=true/\q6=true)\/(q1=true/\q2=true/\q3=true/\q4=true/\q5=true/\q6=false) by cases q1 <;> cases q2 <;> cases q3 <;> cases q4 <;> cases q5 <;> cases q6 <;> simp) with rfl | ⟨rfl,rfl⟩ | ⟨rfl,rfl,rfl⟩ | ⟨rfl,rfl,rfl,rfl⟩ | ⟨rfl,rfl,rfl,rfl,rfl⟩ | ⟨rfl,rfl,rfl,rfl,rfl,rfl⟩ | ⟨rfl,rfl,rfl,rfl,rfl,rfl⟩
 all_goals
  have g2:=HQ2.out;have g3:=HQ3.out;have g4:=HQ4.out;have g5:=HQ5.out;have g6:=HQ6.out;unfold ckC at *;unfold stC;go_enter Tryz.func80,Tryz.ntmps80
  go_wp2_with (first | (go_at_call 117;refine (HZZ.out _ _ _ _).mono ?_;rintro e' w2 ⟨rfl,hb2⟩;rw [HQ7.out];have HB2:=aH (HB.out.trans (hb2.mono HB.out.size));have HY2:=aH (cV HY.out hb2);have HZ3:=aH (cV HZ.out hb2);have HU2:=aH (cV HU.out hb2);clear y0 y1 y2 y3 y4 y5 y6 y7 z0 z1 z2 z10 u0 u1 u2 u3 u4 u5 u6 HY HZ HU HB;have HB:=HB2;have HY:=HY2;have HZ:=HZ3;have HU:=HU2;obtain ⟨y0,y1,y2,y3,y4,y5,y6,y7⟩:=aV HY.out;obtain ⟨z0,z1,z2,-,-,-,-,-,-,-,z10⟩:=aY HZ.out;obtain ⟨u0,u1,u2,u3,u4,u5,u6⟩:=aU HU.out;clear hb2 HB2 HY2 HZ3 HU2) | (go_at_call 117;refine (HZZ.out _ _ _ _).mono ?_;rintro e' w1 ⟨rfl,hb1⟩;rw [HQ1.out];have HB:=aH ((bel3 _ _ _ _).trans (hb1.mono (bel3 _ _ _ _).size));obtain ⟨y,z,u⟩:=eJ hb1;have HY:=aH y;have HZ:=aH z;have HU:=aH u;obtain ⟨y0,y1,y2,y3,y4,y5,y6,y7⟩:=aV HY.out;obtain ⟨z0,z1,z2,-,-,-,-,-,-,-,z10⟩:=aY HZ.out;obtain ⟨u0,u1,u2,u3,u4,u5,u6⟩:=aU HU.out;clear y z u hb1))
  all_goals first
   | (exfalso;omega)
   | (go_ret;exact ⟨by rw [HF.out];rfl,by first | exact HBW2.out | exact HBW.out | exact HB.out⟩)
theorem yN {b:Bdy} {bh:BH} {r:Nat} {w:World} (H:Ck w b bh r) (hT:TabsOk w) (s:Stm) (A0 A B:Option Addr) (c0 c d:Nat) (hp0:Slc 2 RPj w A0 c0 s.place.proj) (hp:Slc 2 RPj w A c s.rv.place.proj) (hl:Slc 4 ROp w B d s.rv.args):
 Calls Tryz.prog 80 #[.agg (ckC b bh r).toArray,.agg (stC s A0 c0 A c B d).toArray] w fun e' w'=>e' = .returned (.int .i64 (stE b s))/\Below w.heap.size w w':=by
 by_cases h0:s.kind=0
 ·by_cases hl0:s.loc=0
  ·by_cases hw:writE b s.place=0
   ·exact yM H hT s A0 A B c0 c d hp0 hp hl h0 hl0 hw
   ·exact yI H hT s A0 A B c0 c d hp0 hp hl h0 hl0 hw
  ·exact yL H hT s A0 A B c0 c d hp0 hp hl h0 hl0
 by_cases h1:s.kind=1
 ·exact uA H hT s A0 A B c0 c d hp0 hp hl h1
 by_cases h2:s.kind=2
 ·exact yK H hT s A0 A B c0 c d hp0 hp hl h2
 exact yJ H hT s A0 A B c0 c d hp0 hp hl h0 h1 h2
theorem qT {b:Bdy} {bh:BH} {r:Nat} {w:World} (H:Ck w b bh r) (t:Trm) (A B C:Option Addr) (c d f:Nat) (ht:Slc 1 RInt w A c t.targets) (hl:Slc 4 ROp w B d t.args) (hp:Slc 2 RPj w C f t.place.proj) (hk:(t.kind<0\/5<t.kind)\/(¬(t.kind<0\/5<t.kind)/\fieldsT t=false)):
 Calls Tryz.prog 81 #[.agg (ckC b bh r).toArray,.agg (tmC t A c B d C f).toArray] w fun e' w'=>e' = .returned (.int .i64 (tmE b t))/\Below w.heap.size w w':=by
 have HFD:=aH (fun W=>fF t A B C c d f W);have HH:=aH H;have HTG:=aH ht;have HL:=aH hl;have HP:=aH hp;have hle:=hl.le;have hbig:=hl.big;have hle2:=ht.le;have hbig2:=ht.big;have hblkl:=H.at_.blk.le;have hblkb:=H.at_.blk.big;obtain ⟨R,hR⟩:∃R,tmE b t=R:=⟨_,rfl⟩;rw [hR];have HR:=aH hR;clear hR H ht hl hp;rcases hk with h0 | ⟨h0,hfd⟩
 ·have HF:Hid (R=14):=aH (by rw [<- HR.out,tmE,bD h0]);clear HR HFD;unfold ckC tmC;go_enter Tryz.func81,Tryz.ntmps81
  go_wp2_with fail
  all_goals first
   | (exfalso;omega)
   | (go_ret;exact ⟨by rw [HF.out];rfl,aJ⟩)
 ·have HF:Hid (R=2):=aH (by rw [<- HR.out,tmE,bB h0,bD hfd]);rw [hfd] at HFD;clear HR hfd;unfold ckC;unfold tmC at *;go_enter Tryz.func81,Tryz.ntmps81
  go_wp2_with (go_at_call 120;refine (HFD.out _).mono ?_;rintro e' w1 ⟨rfl,hb1⟩;have HB:=aH ((bel2 _ _ _).trans (hb1.mono (bel2 _ _ _).size));obtain ⟨y,z⟩:=dD hb1;have HY:=aH y;have HZ:=aH z;obtain ⟨y0,y1,y2,y3,y4,y5,y6,y7⟩:=aV HY.out;obtain ⟨z0,z1,z2,z3,z4,z5⟩:=aT HZ.out;clear y z hb1)
  all_goals first
   | (exfalso;omega)
   | (go_ret;exact ⟨by rw [HF.out];rfl,HB.out⟩)
theorem tW {b:Bdy} {bh:BH} {r:Nat} {w:World} (H:Ck w b bh r) (t:Trm) (A B C:Option Addr) (c d f:Nat) (ht:Slc 1 RInt w A c t.targets) (hl:Slc 4 ROp w B d t.args) (hp:Slc 2 RPj w C f t.place.proj) (hk:t.kind=3) (hfd:fieldsT t=true):
 Calls Tryz.prog 81 #[.agg (ckC b bh r).toArray,.agg (tmC t A c B d C f).toArray] w fun e' w'=>e' = .returned (.int .i64 (tmE b t))/\Below w.heap.size w w':=by
 have HFD:=aH (fun W=>fF t A B C c d f W);have HH:=aH H;have HTG:=aH ht;have HL:=aH hl;have HP:=aH hp;have hle:=hl.le;have hbig:=hl.big;have hle2:=ht.le;have hbig2:=ht.big;have hblkl:=H.at_.blk.le;have hblkb:=H.at_.blk.big;obtain ⟨R,hR⟩:∃R,tmE b t=R:=⟨_,rfl⟩;rw [hR];have HR:=aH hR;clear hR H ht hl hp;obtain ⟨Q,hQ⟩:∃Q,(if isIdent t.name=false then 12 else if 65535<t.args.length then 15 else if opsE b t.args []≠0 then opsE b t.args [] else writE b t.place)=Q:=⟨_,rfl⟩;have HQ:=aH hQ
 have HF:Hid (R=if t.targets.all (fun k=>decide (0<=k/\k<(b.blocks.length:Int)))=true then Q else 3):=aH (by
  rw [<- HR.out,tmE,bB (by omega),bB (by rw [hfd];simp)];rw [<- HQ.out];cases t.targets.all (fun k=>decide (0<=k/\k<(b.blocks.length:Int)))
  ·simp
  ·simp [hk])
 rw [hfd] at HFD;have HI:=aH (fun W=>eW t.name W);have HPO:=aH (fun (W:World) (hb:Below w.heap.size w W)=>eZ (HH.out.keep hb) t.args [] B none d 0 (HL.out.keep ROp.keeps hb) ⟨Sl.nil,by simp,by omega⟩ (by simp));have HW:=aH (fun (W:World) (hb:Below w.heap.size w W)=>fM b bh r t.place C f W (HH.out.keep hb).at_ (HP.out.keep RPj.keeps hb) HH.out.ok.okay);generalize writE b t.place=we at HW hQ HQ;generalize opsE b t.args []=oe at HPO hQ HQ;generalize isIdent t.name=ii at HI hQ HQ;clear HR hQ hfd;unfold ckC at *;unfold tmC at *;rw [hk] at HFD ⊢;go_enter Tryz.func81,Tryz.ntmps81
 go_wp2_with (go_at_call 120;refine (HFD.out _).mono ?_;rintro e' w1 ⟨rfl,hb1⟩;have HB:=aH ((bel2 _ _ _).trans (hb1.mono (bel2 _ _ _).size));obtain ⟨y,z⟩:=dD hb1;have HY:=aH y;have HZ:=aH z;obtain ⟨y0,y1,y2,y3,y4,y5,y6,y7⟩:=aV HY.out;obtain ⟨z0,z1,z2,z3,z4,z5⟩:=aT HZ.out;clear y z hb1)
 all_goals try (exfalso;omega)
 go_loop [27] (fun v=>∃k:Nat,k<=t.targets.length/\v = .int .i64 k/\Hid (R=if (t.targets.drop k).all (fun k=>decide (0<=k/\k<(b.blocks.length:Int)))=true then Q else 3)) (fun v=>t.targets.length - (intOf v).toNat)
 case atStart=>exact ⟨0,by omega,rfl,HF⟩
 case round=>
  clear HF;obtain ⟨k,hk2,rfl,hr⟩:=hrel;by_cases hlt:k<t.targets.length
  ·have hd:=dA hlt;obtain ⟨b5,o5,rfl,hb5,hx⟩:=HTG.out.sl.at_ hlt;obtain ⟨x,hxx⟩:∃x,t.targets[k]=x:=⟨_,rfl⟩;rw [hxx] at hd hx;have x0:w1.cell? ⟨b5,o5+k,none⟩=some (.int .i64 x):=cQ HB.out (by simpa [RInt] using hx);by_cases hin:0<=x/\x<(b.blocks.length:Int)
   ·have HF2:Hid (R=if (t.targets.drop (k+1)).all (fun k=>decide (0<=k/\k<(b.blocks.length:Int)))=true then Q else 3):=aH (by rw [hr.out,hd,cD];simp [hin]);have e1:¬x<0:=(by omega);have e2:¬(b.blocks.length:Int)<=x:=(by omega);clear hd hx hxx hr hin;go_wp2_with fail
    all_goals try (exfalso;omega)
    go_round
    case rel=>exact ⟨k+1,by omega,by go_num,HF2⟩
    case measure=>simp [intOf];omega
   ·have HF2:Hid (R=3):=aH (by rw [hr.out,hd,cD];simp;intro h1 h2;exact absurd ⟨h1,h2⟩ hin);clear hd hx hxx hr;go_wp2_with fail
    all_goals first
     | (exfalso;omega)
     | (go_ret;exact ⟨by rw [HF2.out];rfl,HB.out⟩)
  ·have HF2:Hid (R=Q):=aH (by rw [hr.out,bG (by omega:t.targets.length<=k)];rfl);clear hr;cases ii
   ·have HF3:Hid (R=12):=aH (by rw [HF2.out,<- HQ.out];rfl);go_wp2_with (go_at_call 111;refine (HI.out _).mono ?_;rintro e' w2 ⟨rfl,hb⟩;have HB2:=aH (HB.out.trans (hb.mono HB.out.size));have HY2:=aH (cV HY.out hb);have HZ2:=aH (cV HZ.out hb);clear y0 y1 y2 y3 y4 y5 y6 y7 z0 z1 z2 z3 z4 z5;obtain ⟨y0,y1,y2,y3,y4,y5,y6,y7⟩:=aV HY2.out;obtain ⟨z0,z1,z2,z3,z4,z5⟩:=aT HZ2.out;clear hb)
    go_ret;exact ⟨by rw [HF3.out];rfl,HB2.out⟩
   by_cases hln:65535<t.args.length
   ·have HF3:Hid (R=15):=aH (by rw [HF2.out,<- HQ.out];simp [hln]);go_wp2_with (go_at_call 111;refine (HI.out _).mono ?_;rintro e' w2 ⟨rfl,hb⟩;have HB2:=aH (HB.out.trans (hb.mono HB.out.size));have HY2:=aH (cV HY.out hb);have HZ2:=aH (cV HZ.out hb);clear y0 y1 y2 y3 y4 y5 y6 y7 z0 z1 z2 z3 z4 z5;obtain ⟨y0,y1,y2,y3,y4,y5,y6,y7⟩:=aV HY2.out;obtain ⟨z0,z1,z2,z3,z4,z5⟩:=aT HZ2.out;clear hb)
    all_goals first
     | (exfalso;omega)
     | (go_ret;exact ⟨by rw [HF3.out];rfl,HB2.out⟩)
   by_cases hoe:oe=0
   ·have HF3:Hid (R=we):=aH (by rw [HF2.out,<- HQ.out];simp [hln,hoe]);subst hoe;go_wp2_with (first | (go_at_call 111;refine (HI.out _).mono ?_;rintro e' w2 ⟨rfl,hb⟩;have HB2:=aH (HB.out.trans (hb.mono HB.out.size));have HY2:=aH (cV HY.out hb);have HZ2:=aH (cV HZ.out hb);clear y0 y1 y2 y3 y4 y5 y6 y7 z0 z1 z2 z3 z4 z5;obtain ⟨y0,y1,y2,y3,y4,y5,y6,y7⟩:=aV HY2.out;obtain ⟨z0,z1,z2,z3,z4,z5⟩:=aT HZ2.out;clear hb) | (go_at_call 124;refine (HPO.out _ HB2.out).mono ?_;rintro e' w3 ⟨rfl,hb⟩;have HB3:=aH (HB2.out.trans (hb.mono HB2.out.size));have HY3:=aH (cV HY2.out hb);have HZ3:=aH (cV HZ2.out hb);clear y0 y1 y2 y3 y4 y5 y6 y7 z0 z1 z2 z3 z4 z5;obtain ⟨y0,y1,y2,y3,y4,y5,y6,y7⟩:=aV HY3.out;obtain ⟨z0,z1,z2,z3,z4,z5⟩:=aT HZ3.out;clear hb) | (go_at_call 118;refine (HW.out _ HB3.out).mono ?_;rintro e' w4 ⟨rfl,hb⟩;have HB4:=aH (HB3.out.trans (hb.mono HB3.out.size));have HY4:=aH (cV HY3.out hb);have HZ4:=aH (cV HZ3.out hb);clear y0 y1 y2 y3 y4 y5 y6 y7 z0 z1 z2 z3 z4 z5;obtain ⟨y0,y1,y2,y3,y4,y5,y6,y7⟩:=aV HY4.out;obtain ⟨z0,z1,z2,z3,z4,z5⟩:=aT HZ4.out;clear hb))
    all_goals first
     | (exfalso;omega)
     | (go_ret;exact ⟨by rw [HF3.out];rfl,HB4.out⟩)
   ·have HF3:Hid (R=oe):=aH (by rw [HF2.out,<- HQ.out];simp [hln,hoe]);have e9:(oe != 0)=true:=by simp [hoe]
    clear hoe;go_wp2_with (first | (go_at_call 111;refine (HI.out _).mono ?_;rintro e' w2 ⟨rfl,hb⟩;have HB2:=aH (HB.out.trans (hb.mono HB.out.size));have HY2:=aH (cV HY.out hb);have HZ2:=aH (cV HZ.out hb);clear y0 y1 y2 y3 y4 y5 y6 y7 z0 z1 z2 z3 z4 z5;obtain ⟨y0,y1,y2,y3,y4,y5,y6,y7⟩:=aV HY2.out;obtain ⟨z0,z1,z2,z3,z4,z5⟩:=aT HZ2.out;clear hb) | (go_at_call 124;refine (HPO.out _ HB2.out).mono ?_;rintro e' w3 ⟨rfl,hb⟩;have HB3:=aH (HB2.out.trans (hb.mono HB2.out.size));have HY3:=aH (cV HY2.out hb);have HZ3:=aH (cV HZ2.out hb);clear y0 y1 y2 y3 y4 y5 y6 y7 z0 z1 z2 z3 z4 z5;obtain ⟨y0,y1,y2,y3,y4,y5,y6,y7⟩:=aV HY3.out;obtain ⟨z0,z1,z2,z3,z4,z5⟩:=aT HZ3.out;clear hb))
    all_goals first
     | (exfalso;omega)
     | (go_ret;exact ⟨by rw [HF3.out];rfl,HB3.out⟩)
end
end Go.Proofs.YtkaigkfbkpinlaaGreatDoor
