/-
  Parts of the proof: V34 V35 V36 V2 Late Y22 Y23 V43 V61 V63.
-/
import Derived.Test.YtmknfbfppmkcfaaGreatDoorPP0
import Derived.Test.YtmknfbfppmkcfaaGreatDoorPP6
import Derived.Test.YtmknfbfppmkcfaaGreatDoorPP3
import Derived.Test.YtmknfbfppmkcfaaGreatDoorSh
import Derived.Test.YtmknfbfppmkcfaaGreatDoorPP2
import Derived.Test.YtmknfbfppmkcfaaGreatDoorPP5
namespace Go.Proofs.YtmknfbfppmkcfaaGreatDoor
set_option maxRecDepth 100000
set_option maxHeartbeats 16000000
section
open Go Go.RowKit Go.Maps
theorem rT (b:Bdy) (fs:List Int):opsE b [] fs=0:=by rw [opsE]
theorem nW {b:Bdy} {o:Opd} (h:opE b o≠0) (r:List Opd) (fs:List Int):opsE b (o :: r) fs=opE b o:=by
 cases fs <;> (rw [opsE,aZ h])
theorem lN {b:Bdy} {o:Opd} (h:opE b o=0) (r:List Opd):opsE b (o :: r) []=opsE b r []:=by rw [opsE,bA h]
theorem rS {b:Bdy} {o:Opd} (h:opE b o=0) (r:List Opd) (f:Int) (fs:List Int):opsE b (o :: r) (f :: fs)=if fitsO b o f=true then opsE b r fs else 22:=by rw [opsE,bA h]
theorem keepO {w W:World} {o:Obj} {p:Addr} {v:Value} (hb:Below (w.alloc o).heap.size (w.alloc o) W) (h:w.cell? p=some v):W.cell? p=some v:=
 cJ hb (((((aX w.heap.size w).alloc (aY _) o).cell (p:=p) (cD w p h))).trans h)
theorem dR {W w1:World} {n:Nat} {l:List Value} {o:Obj} (h:∀i v,l[i]?=some v->W.cell? ⟨n,i,none⟩=some v) (hb:Below (W.alloc o).heap.size (W.alloc o) w1):∀i v,l[i]?=some v->w1.cell? ⟨n,i,none⟩=some v:=
 fun i v hi=>keepO hb (h i v hi)
theorem eQ {b:Bdy} {bh:BH} {r:Nat} {w:World} (H:Ck w b bh r) (l:List Opd) (fs:List Int) (A C:Option Addr) (d f:Nat) (hl:Slc 4 ROp w A d l) (hf:Slc 1 RInt w C f fs) (hfr:∀x∈fs,0<=x/\x<(b.types.length:Int)):
 Calls Tryz.prog 122 #[.agg (ckC b bh r).toArray,.slice A l.length d,.slice C fs.length f] w fun e' w'=>e' = .returned (.int .i64 (opsE b l fs))/\Below w.heap.size w w':=by
 have hle:=hl.le;have hbig:=hl.big;have hle2:=hf.le;have hbig2:=hf.big;have HO:=aF (fun (W:World) (hb:Below w.heap.size w W) (o:Opd) (A:Option Addr) (c:Nat) (hp:Slc 2 RPj w A c o.place.proj)=>lO (H.keep hb) o A c (hp.keep RPj.keeps hb));have HFT:=aF (fun (W:World) (hb:Below w.heap.size w W) (o:Opd) (A:Option Addr) (c:Nat) (hp:Slc 2 RPj w A c o.place.proj) (ho:opE b o=0) (f:Int) (h0:0<=f) (hf:f<b.types.length)=>zR (H.keep hb) o A c (hp.keep RPj.keeps hb) ho f h0 hf);have HL:=aF hl;have HFS:=aF hf;obtain ⟨R,hR⟩:∃R,opsE b l fs=R:=⟨_,rfl⟩;rw [hR];have HR:=aF hR;have HX0:=aF (cP w (ckC b bh r) 122);clear hR hl hf H;unfold ckC at HO HFT HX0 ⊢;go_enter Tryz.func122,Tryz.ntmps122
 go_wp2_with fail
 go_loopw [12] (fun v wr=>∃k:Nat,k<=l.length/\v = .int .i64 k/\Hid (aA (bdH b bh [.pointer (some ⟨r,0,none⟩)]) wr w.heap.size)/\Hid (Below w.heap.size w wr)/\w.heap.size+1<=wr.heap.size/\Hid (R=opsE b (l.drop k) (fs.drop k))) (fun v _=>l.length - (intOf v).toNat)
 case atStart=>exact ⟨0,by omega,rfl,HX0,aF ((aX _ _).alloc (aY _) _),by simp,aF HR.out.symm⟩
 case round=>
  clear HX0;obtain ⟨k,hk,rfl,HX,HB,hsz,hr⟩:=hrel;have hlw:w.heap.size<wr.heap.size:=hsz;obtain ⟨x0,x1,x2,x3,x4,x5,x6,x7⟩:=aT HX.out;by_cases hlt:k<l.length
  ·have hd:=cS hlt;obtain ⟨bb,oo,rfl,hbb,hx⟩:=HL.out.sl.at_ hlt;obtain ⟨o,hxx⟩:∃o,l[k]=o:=⟨_,rfl⟩;rw [hxx] at hd hx;obtain ⟨p0,⟨p1,A2,c2,p2,hc1,hc2,hsl⟩,p3⟩:=hx;have HPJ:Hid (Slc 2 RPj w A2 c2 o.place.proj):=aF ⟨hsl,hc1,hc2⟩;replace p0:=cJ HB.out p0;replace p1:=cJ HB.out p1;replace p2:=cJ HB.out p2;replace p3:=cJ HB.out p3;rw [Nat.add_assoc (oo+k * 4) 1 1] at p2;have HOK:=aF (fun W hb=>HO.out W hb o A2 c2 HPJ.out);have HQ:Hid (R=opsE b (o :: l.drop (k+1)) (fs.drop k)):=aF (by rw [hr.out,hd]);clear hd hxx hsl hc1 hc2 hr;unfold opC at HOK;by_cases he:opE b o=0
   ·have HE:=aF he;rw [he] at HOK;have HBA:=aF (HB.out.alloc (by omega) (.cells (opC o A2 c2).toArray 160));by_cases hkf:k<fs.length
    ·obtain ⟨b3,o3,rfl,hb3,hy⟩:=HFS.out.sl.at_ hkf;have hyr:=hfr fs[k] (bN hkf);obtain ⟨y,hyy⟩:∃y,fs[k]=y:=⟨_,rfl⟩;have hd2:=cS hkf;rw [hyy] at hy hyr hd2;have y0:w.cell? ⟨b3,o3+k,none⟩=some (.int .i64 y):=(by simpa [RInt] using hy);have HY0:=aF y0;have HQ2:Hid (R=if fitsO b o y=true then opsE b (l.drop (k+1)) (fs.drop (k+1)) else 22):=aF (by rw [HQ.out,hd2,rS he]);have HFK:=aF (fun W hb=>HFT.out W hb o A2 c2 HPJ.out he y hyr.1 hyr.2);unfold opC at HFK;have ek:decide ((k:Int)<(fs.length:Int))=true:=by simp;omega
     have EK:=aF ek;clear hy hyy hyr hd2 he HQ y0 ek;generalize fitsO b o y=q at HFK HQ2;go_wp2_with (go_at_call 119;refine (HOK.out _ HBA.out).mono ?_;rintro e' w1 ⟨rfl,hb1⟩;have HB1:=aF hb1;have HW1:=aF (HBA.out.trans (hb1.mono HBA.out.size));clear hb1)
     have hS:=bJ (dR HX.out HB1.out) (bJ (cK (cP wr (opC o A2 c2) 160) HB1.out) (cJ HW1.out HY0.out));replace hS:(aA (bdH b bh [.pointer (some ⟨r,0,none⟩)]) w1.drew w.heap.size)/\(aA (opC o A2 c2) w1.drew wr.heap.size)/\w1.drew.cell? ⟨b3,o3+k,none⟩=some (.int .i64 y):=hS;clear x0 x1 x2 x3 x4 x5 x6 x7 p0 p1 p2 p3;refine cQ (S:=fun X=>(aA (bdH b bh [.pointer (some ⟨r,0,none⟩)]) X w.heap.size)/\(aA (opC o A2 c2) X wr.heap.size)/\X.cell? ⟨b3,o3+k,none⟩=some (.int .i64 y)) [0,1,2,3,4,5,6,7,8,9,10,11,12,13] (by kernel_rfl) ?_;(iterate 4 (refine cR (v:=?_) ?_ hS ?_;rotate_left;(next=>(rintro X -;(try simp only [aI]);go_simp;rfl));simp only [aM]));try rw [EK.out]
     (iterate 7 (refine cR (v:=?_) ?_ hS ?_;rotate_left;(next=>(rintro X ⟨hX,hY,s8⟩;obtain ⟨s0,s1,s2,s3,s4,s5,s6,s7⟩:=aT hX;obtain ⟨u0,u1,u2,u3⟩:=aP hY;(try simp only [aI]);go_simp;rfl));simp only [aM]));(refine cM (fun K1 hK1=>?_);simp only [aM];rw [bA (by rfl)];go_simp);refine (HFK.out _ HW1.out.drew).mono ?_;rintro e' w2 ⟨rfl,hb⟩;replace hS:=bJ (fun i v hi=>cJ hb (hS.1 i v hi)) (bJ (fun i v hi=>cJ hb (hS.2.1 i v hi)) (cJ hb hS.2.2));have HW2:=aF (HW1.out.drew.trans (hb.mono HW1.out.size));have hsz2:=HW1.out.size;have hsz3:=hb.size;have hsz4:=HB1.out.size;simp only [bI] at hsz4;clear hb;refine hK1.out _ _ (fun _=>hS) ?_;(iterate 2 (refine cR (v:=?_) ?_ hS ?_;rotate_left;(next=>(rintro X -;(try simp only [aI]);go_simp;rfl));simp only [aM]));refine cV ?_;cases q
     ·have HF:Hid (R=22):=HQ2;clear HQ2;go_wp2_with fail
      go_ret;exact ⟨by rw [HF.out];rfl,HW2.out⟩
     ·have HF:Hid (R=opsE b (l.drop (k+1)) (fs.drop (k+1))):=HQ2;have HX2:=aF hS.1;clear HQ2 hS;go_wp2_with fail
      go_roundw
      case rel=>exact ⟨k+1,by omega,by go_num,HX2,HW2,by have:w1.drew.heap.size=w1.heap.size:=rfl;omega,HF⟩
      case measure=>simp [intOf];omega
    ·have ek:decide ((k:Int)<(fs.length:Int))=false:=by simp;omega
     have EK:=aF ek;have HF:Hid (R=opsE b (l.drop (k+1)) (fs.drop (k+1))):=aF (by rw [HQ.out,bE (by omega:fs.length<=k),bE (by omega:fs.length<=k+1),lN he]);clear he HQ ek;go_wp2_with (go_at_call 119;refine (HOK.out _ HBA.out).mono ?_;rintro e' w1 ⟨rfl,hb1⟩;have HB1:=aF hb1;have HW1:=aF (HBA.out.trans (hb1.mono HBA.out.size));clear hb1)
     have hS:True:=trivial;have HX2:=aF (dR HX.out HB1.out);have hsz4:=HB1.out.size;simp only [bI] at hsz4;clear x0 x1 x2 x3 x4 x5 x6 x7 p0 p1 p2 p3;refine cQ (S:=fun _=>True) [0,1,2,3,4,5,6,7,8,9,10,11,12,13] (by kernel_rfl) ?_;(iterate 4 (refine cR (v:=?_) ?_ hS ?_;rotate_left;(next=>(rintro X -;(try simp only [aI]);go_simp;rfl));simp only [aM]));try rw [EK.out]
     ((refine cR (v:=?_) ?_ hS ?_;rotate_left;(next=>(rintro X -;(try simp only [aI]);go_simp;rfl));simp only [aM]))
     (iterate 8 (refine cU (v:=undef) (by kernel_rfl) (fun _ _ _ h=>h) (Or.inr ⟨by rfl,rfl⟩) hS ?_;simp only [aM]));((refine cR (v:=?_) ?_ hS ?_;rotate_left;(next=>(rintro X -;(try simp only [aI]);go_simp;rfl));simp only [aM]))
     refine cV ?_;go_wp2_with fail
     go_roundw
     case rel=>exact ⟨k+1,by omega,by go_num,HX2,aF HW1.out.drew,by have:w1.drew.heap.size=w1.heap.size:=rfl;omega,HF⟩
     case measure=>simp [intOf];omega
   ·have HF:Hid (R=opE b o):=aF (by rw [HQ.out,nW he]);generalize opE b o=eo at HOK HF he;have e1:(eo != 0)=true:=by simp [he]
    have HBA:=aF (HB.out.alloc (by omega) (.cells (opC o A2 c2).toArray 160));clear he HQ;go_wp2_with (go_at_call 119;refine (HOK.out _ HBA.out).mono ?_;rintro e' w1 ⟨rfl,hb1⟩;have HW1:=aF (HBA.out.trans (hb1.mono HBA.out.size));clear hb1)
    go_ret;exact ⟨by rw [HF.out];rfl,HW1.out⟩
  ·have HF:Hid (R=0):=aF (by rw [hr.out,bE (by omega:l.length<=k),rT]);clear hr;go_wp2_with fail
   go_ret;exact ⟨by rw [HF.out];rfl,HB.out⟩
theorem nX {b:Bdy}:∀{l:List Opd},opsE b l []=0->∀o∈l,opE b o=0
 | [],_=>by simp
 | o :: r,h=>by
   by_cases he:opE b o=0
   ·rw [lN he] at h;intro x hx;rcases List.mem_cons.1 hx with rfl | hx
    ·exact he
    ·exact nX h x hx
   ·rw [nW he] at h;exact absurd h he
theorem qO (w:World) (x y:Value) (t:TypeId) (k:Nat) (hk:k=w.heap.size):(w.alloc (.cells #[x,y] t)).cell? ⟨k,0,none⟩=some x/\(w.alloc (.cells #[x,y] t)).cell? ⟨k,1,none⟩=some y:=by
 subst hk;exact ⟨cP w [x,y] t 0 _ rfl,cP w [x,y] t 1 _ rfl⟩
theorem fS {b:Bdy} {bh:BH} {r:Nat} {w:World} (H:Ck w b bh r) (rv:Rvl) (t:Nat) (ht:t<b.types.length) (tab:List (Int × Int)) (A B T:Option Addr) (c d tc:Nat) (hl:Slc 4 ROp w B d rv.args) (hT:Slc 2 RPr w T tc tab):
 Calls Tryz.prog 152 #[.agg (ckC b bh r).toArray,.agg (rvC rv A c B d).toArray,.int .i64 t,.slice T tab.length tc] w fun e' w'=>e' = .returned (.int .i64 (operE b rv t tab))/\Below w.heap.size w w':=by
 have hle:=hl.le;have hbig:=hl.big;have hle2:=hT.le;have hbig2:=hT.big;have HP:=aF (fun (W:World) (hb:Below w.heap.size w W)=>eQ (H.keep hb) rv.args [] B none d 0 (hl.keep ROp.keeps hb) ⟨Sl.nil,by simp,by omega⟩ (by simp));have HK:=aF (fun (W:World) (hb:Below w.heap.size w W) (o:Opd) (A:Option Addr) (c:Nat) (hp:Slc 2 RPj w A c o.place.proj) (ho:opE b o=0)=>oJ (H.keep hb) o A c (hp.keep RPj.keeps hb) ho);have HL:=aF hl;have HTB:=aF hT;have HTY:=aF H.at_.typ;obtain ⟨R,hR⟩:∃R,operE b rv t tab=R:=⟨_,rfl⟩;rw [hR];have HR:=aF hR;clear hR hl hT H;unfold operE at HR;unfold ckC at HP HK ⊢;unfold rvC;by_cases h0:rv.op<0\/(tab.length:Int)<=rv.op
 ·have HF:Hid (R=14):=aF (by rw [<- HR.out,bA h0]);clear HR HP HK;go_enter Tryz.func152,Tryz.ntmps152
  go_wp2_with fail
  all_goals first
   | (exfalso;omega)
   | (go_ret;exact ⟨by rw [HF.out];rfl,aH⟩)
 have h1:¬rv.op<0:=by omega
 have h2:¬(tab.length:Int)<=rv.op:=by omega
 obtain ⟨n,hn⟩:=bG (show 0<=rv.op by omega);have hnl:n<tab.length:=by omega
 by_cases he:opsE b rv.args []=0
 case neg=>
  have HF:Hid (R=opsE b rv.args []):=aF (by rw [<- HR.out,aZ h0,bA he]);generalize opsE b rv.args []=eo at HP HF he;have e1:(eo != 0)=true:=by simp [he]
  clear HR HK he h0;go_enter Tryz.func152,Tryz.ntmps152
  go_wp2_with (go_at_call 122;refine (HP.out _ (bel2 _ _ _)).mono ?_;rintro e' w1 ⟨rfl,hb1⟩;have HB:=aF ((bel2 _ _ _).trans (hb1.mono (bel2 _ _ _).size));clear hb1)
  go_ret;exact ⟨by rw [HF.out];rfl,HB.out⟩
 case pos=>
 obtain ⟨bt,ot,rfl,hbt,hxt⟩:=HTB.out.sl.at_ hnl;obtain ⟨bb,oo,hA3,hbb,hxx⟩:=HTY.out.sl.at_ ht;obtain ⟨ty,hty⟩:∃ty,b.types[t]=ty:=⟨_,rfl⟩;obtain ⟨x,hx⟩:∃x,tab[n]=x:=⟨_,rfl⟩;rw [hty] at hxx;rw [hx] at hxt;obtain ⟨q0,-⟩:=hxx;obtain ⟨u0,u1⟩:=hxt;have HE:=aF (nX he);have hkt:kindT b (t:Int)=ty.kind:=by unfold kindT;simp [ht,hty]
 have HF:Hid (R=if rv.args.all (fun o=>decide (kindO b o=x.1))=true then fail22 (decide (ty.kind≠x.2)) else 22):=aF (by
  rw [<- HR.out,aZ h0,aZ (by simpa using he),hn];simp only [bW];rw [bD hnl,hx]
  simp only [hkt])
 rw [he] at HP;have Q0:=aF q0;clear HR h0 he hx hty hkt;obtain ⟨x1,x2⟩:=x;simp only at u0 u1 HF;rw [hA3] at HP HK ⊢;rw [hn];rw [hn] at h1 h2;go_enter Tryz.func152,Tryz.ntmps152
 go_wp2_with (go_at_call 122;refine (HP.out _ (bel2 _ _ _)).mono ?_;rintro e' w1 ⟨rfl,hb1⟩;have HB:=aF ((bel2 _ _ _).trans (hb1.mono (bel2 _ _ _).size));obtain ⟨y,z⟩:=cT hb1;have HY:=aF y;have HZ:=aF z;have y3:=y 3 _ rfl;obtain ⟨-,z1,-,-,-,-,z5⟩:=aS z;have v0:=cJ HB.out u0;have v1:=cJ HB.out u1;have hlw:=hb1.size;simp only [bI] at hlw;have hlw1:w.heap.size+1<w1.heap.size:=hlw;have hlw0:w.heap.size<w1.heap.size:=cC hlw;clear y z hb1)
 have HXC:=aF (qO w1 (.int .i64 x1) (.int .i64 x2) 213 _ rfl);have HY1:Hid (∀i v,[Value.string b.name,.slice bh.A1 b.regions.length bh.c1,.slice bh.A2 b.outl.length bh.c2,.slice (some ⟨bb,oo,none⟩) b.types.length bh.c3,.slice bh.A4 b.locals.length bh.c4,.int .i64 b.args,.slice bh.A5 b.blocks.length bh.c5,.pointer (some ⟨r,0,none⟩)][i]?=some v->(w1.alloc (.cells #[.int .i64 x1,.int .i64 x2] 213)).cell? ⟨w.heap.size,i,none⟩=some v):=aF (fun i v hi=>cJ ((aX _ _).alloc (aY _) _) (HY.out i v hi));have HBL:=aF (HB.out.alloc HB.out.size (.cells #[.int .i64 x1,.int .i64 x2] 213));clear HY HZ;go_loopw [38] (fun v wr=>∃k:Nat,k<=rv.args.length/\v = .int .i64 k/\Hid (aA (bdM b bh.A1 bh.c1 bh.A2 bh.c2 (some ⟨bb,oo,none⟩) bh.c3 bh.A4 bh.c4 bh.A5 bh.c5 [.pointer (some ⟨r,0,none⟩)]) wr w.heap.size)/\Hid (wr.cell? ⟨w1.heap.size,0,none⟩=some (.int .i64 x1)/\wr.cell? ⟨w1.heap.size,1,none⟩=some (.int .i64 x2))/\Hid (Below w.heap.size w wr)/\w1.heap.size+1<=wr.heap.size/\Hid (R=if (rv.args.drop k).all (fun o=>decide (kindO b o=x1))=true then fail22 (decide (ty.kind≠x2)) else 22)) (fun v _=>rv.args.length - (intOf v).toNat)
 case atStart=>exact ⟨0,by omega,rfl,HY1,HXC,HBL,by simp,HF⟩
 case round=>
  clear HY1 HXC HBL HF;obtain ⟨k,hk,rfl,HX,HXC,HBR,hsz,hr⟩:=hrel;by_cases hlt:k<rv.args.length
  ·have hd:=cS hlt;obtain ⟨b5,o5,rfl,hb5,hx⟩:=HL.out.sl.at_ hlt;have he:=HE.out _ (bN hlt);obtain ⟨o,hxx⟩:∃o,rv.args[k]=o:=⟨_,rfl⟩;rw [hxx] at hd hx he;obtain ⟨p0,⟨p1,A2,c2,p2,hc1,hc2,hsl⟩,p3⟩:=hx;have HPJ:Hid (Slc 2 RPj w A2 c2 o.place.proj):=aF ⟨hsl,hc1,hc2⟩;replace p0:=cJ HBR.out p0;replace p1:=cJ HBR.out p1;replace p2:=cJ HBR.out p2;replace p3:=cJ HBR.out p3;rw [Nat.add_assoc (o5+k * 4) 1 1] at p2;have HKK:=aF (fun W hb=>HK.out W hb o A2 c2 HPJ.out he);have HQ:Hid (R=if kindO b o=x1 then (if (rv.args.drop (k+1)).all (fun o=>decide (kindO b o=x1))=true then fail22 (decide (ty.kind≠x2)) else 22) else 22):=aF (by rw [hr.out,hd,cB];by_cases h:kindO b o=x1 <;> simp [h]);clear hd hxx hsl hc1 hc2 hr he;unfold opC at HKK;generalize kindO b o=ko at HKK HQ;have HBA:=aF ((HBR.out.alloc HBR.out.size (.cells (opC o A2 c2).toArray 160)).drew);have HQ2:Hid ((ko=x1->R=(if (rv.args.drop (k+1)).all (fun o=>decide (kindO b o=x1))=true then fail22 (decide (ty.kind≠x2)) else 22))/\(ko≠x1->R=22)):=aF ⟨fun h=>by rw [HQ.out,bA h],fun h=>by rw [HQ.out,aZ h]⟩;clear HQ;go_wp2_with fail
   have hS:(∀i v,[Value.string b.name,.slice bh.A1 b.regions.length bh.c1,.slice bh.A2 b.outl.length bh.c2,.slice (some ⟨bb,oo,none⟩) b.types.length bh.c3,.slice bh.A4 b.locals.length bh.c4,.int .i64 b.args,.slice bh.A5 b.blocks.length bh.c5,.pointer (some ⟨r,0,none⟩)][i]?=some v->(wr.alloc (.cells (opC o A2 c2).toArray 160)).drew.cell? ⟨w.heap.size,i,none⟩=some v)/\(∀i v,(opC o A2 c2)[i]?=some v->(wr.alloc (.cells (opC o A2 c2).toArray 160)).drew.cell? ⟨wr.heap.size,i,none⟩=some v)/\(wr.alloc (.cells (opC o A2 c2).toArray 160)).drew.cell? ⟨w1.heap.size,0,none⟩=some (.int .i64 x1)/\(wr.alloc (.cells (opC o A2 c2).toArray 160)).drew.cell? ⟨w1.heap.size,1,none⟩=some (.int .i64 x2):=
    ⟨fun i v hi=>cJ (((aX _ _).alloc (aY _) _).drew) (HX.out i v hi),cP wr (opC o A2 c2) 160,cJ (((aX _ _).alloc (aY _) _).drew) HXC.out.1,cJ (((aX _ _).alloc (aY _) _).drew) HXC.out.2⟩
   clear p0 p1 p2 p3;refine cQ (S:=fun X=>(aA (bdM b bh.A1 bh.c1 bh.A2 bh.c2 (some ⟨bb,oo,none⟩) bh.c3 bh.A4 bh.c4 bh.A5 bh.c5 [.pointer (some ⟨r,0,none⟩)]) X w.heap.size)/\(aA (opC o A2 c2) X wr.heap.size)/\X.cell? ⟨w1.heap.size,0,none⟩=some (.int .i64 x1)/\X.cell? ⟨w1.heap.size,1,none⟩=some (.int .i64 x2)) [0,1,3,4,2,5] (by kernel_rfl) ?_;(iterate 4 (refine cR (v:=?_) ?_ hS ?_;rotate_left;(next=>(rintro X ⟨hX,hY,s8,s9⟩;obtain ⟨s0,s1,s2,s3,s4,s5,s6,s7⟩:=aT hX;obtain ⟨u0,u1,u2,u3⟩:=aP hY;(try simp only [aI]);go_simp;rfl));simp only [aM]));(refine cM (fun K1 hK1=>?_);simp only [aM];rw [bA (by rfl)];go_simp);refine (HKK.out _ HBA.out).mono ?_;rintro e' w2 ⟨rfl,hb⟩;replace hS:=bJ (fun i v hi=>cJ hb (hS.1 i v hi)) (bJ (fun i v hi=>cJ hb (hS.2.1 i v hi)) (bJ (cJ hb hS.2.2.1) (cJ hb hS.2.2.2)));have HW2:=aF (HBA.out.trans (hb.mono HBA.out.size));have hsz3:=hb.size;have hsz4:wr.heap.size+1<=w2.heap.size:=by simpa using hsz3
   clear hb hsz3;refine hK1.out _ _ (fun _=>hS) ?_;clear hK1;have HX2:=aF hS.1;have HXC2:=aF hS.2.2;((refine cR (v:=?_) ?_ hS ?_;rotate_left;(next=>(rintro X -;(try simp only [aI]);go_simp;rfl));simp only [aM]))
   refine cV ?_;clear hS;by_cases hkx:ko=x1
   ·have e1:(ko != x1)=false:=by simp [hkx]
    have HF:=aF (HQ2.out.1 hkx);clear HQ2 hkx;go_wp2_with fail
    go_roundw
    case rel=>exact ⟨k+1,by omega,by go_num,HX2,HXC2,HW2,by omega,HF⟩
    case measure=>simp [intOf];omega
   ·have e1:(ko != x1)=true:=by simp [hkx]
    have HF:=aF (HQ2.out.2 hkx);clear HQ2 hkx;go_wp2_with fail
    go_ret;exact ⟨by rw [HF.out];rfl,HW2.out⟩
  ·have HF:Hid (R=fail22 (decide (ty.kind≠x2))):=aF (by rw [hr.out,bE (by omega:rv.args.length<=k)];rfl);clear hr;go_wp2_with fail
   have hS:=bJ HX.out (bJ HXC.out (cJ HBR.out Q0.out));refine cQ (S:=fun X=>(aA (bdM b bh.A1 bh.c1 bh.A2 bh.c2 (some ⟨bb,oo,none⟩) bh.c3 bh.A4 bh.c4 bh.A5 bh.c5 [.pointer (some ⟨r,0,none⟩)]) X w.heap.size)/\(X.cell? ⟨w1.heap.size,0,none⟩=some (.int .i64 x1)/\X.cell? ⟨w1.heap.size,1,none⟩=some (.int .i64 x2))/\X.cell? ⟨bb,oo+t * 5,none⟩=some (.int .i64 ty.kind)) [0,1,2,3,4,5,6,7,8,9,10,11] (by kernel_rfl) ?_;(iterate 10 (refine cR (v:=?_) ?_ hS ?_;rotate_left;(next=>(rintro X ⟨hX,⟨s8,s9⟩,sT⟩;have s3:=hX 3 _ rfl;(try simp only [aI]);go_simp;rfl));simp only [aM]));(refine cM (fun K1 hK1=>?_);simp only [aM];rw [bA (by rfl)];go_simp);refine (dL _ _).mono ?_;rintro e' w3 ⟨rfl,hw⟩;obtain rfl:=hw.symm;refine hK1.out _ _ (fun _=>hS) ?_;((refine cR (v:=?_) ?_ hS ?_;rotate_left;(next=>(rintro X -;(try simp only [aI]);go_simp;rfl));simp only [aM]))
   refine cV ?_;go_wp2_with fail
   go_ret;exact ⟨by rw [HF.out];show Ending.returned (.int .i64 (fail22 (ty.kind != x2)))=_;have e:(ty.kind != x2)=decide (ty.kind≠x2):=(by rw [bR];simp);rw [e],HBR.out.drew⟩
theorem qC {b:Bdy} {bh:BH} {r:Nat} {w:World} (H:Ck w b bh r) (rv:Rvl) (t:Nat) (ht:t<b.types.length) (A B:Option Addr) (c d:Nat) (hp:Slc 2 RPj w A c rv.place.proj):
 Calls Tryz.prog 151 #[.agg (ckC b bh r).toArray,.agg (rvC rv A c B d).toArray,.int .i64 t] w fun e' w'=>e' = .returned (.int .i64 (borE b rv t))/\Below w.heap.size w w':=by
 have HT:=aF (fun W (hb:Below w.heap.size w W)=>dX b bh r rv.place A c W (H.keep hb).at_ (hp.keep RPj.keeps hb) H.ok.okay);have HM:=aF (fun W (hb:Below w.heap.size w W)=>iC b.types b.locals rv.place.loc rv.place.proj bh.A3 bh.A4 A bh.c3 bh.c4 c W (H.keep hb).at_.typ (H.keep hb).at_.loc (hp.keep RPj.keeps hb) H.ok.okay);have HG:=aF (fun W (hb:Below w.heap.size w W)=>mS b.types b.locals rv.place.loc rv.place.proj bh.A3 bh.A4 A bh.c3 bh.c4 c W (H.keep hb).at_.typ (H.keep hb).at_.loc (hp.keep RPj.keeps hb) H.ok.okay);have HO:=aF (fun W (hb:Below w.heap.size w W) (x:Int)=>gP b.outl b.regions.length x rv.reg r W (H.keep hb).rel H.ok.pairs (by have:=H.ok.nreg;omega) H.ok.nout);change Hid (∀W,Below w.heap.size w W->Calls Tryz.prog 149 _ W fun e' w'=>e' = .returned (.bool (mutB b rv.place))/\Below W.heap.size W w') at HM;have hbl:=H.at_.reg.le;have hbg:=H.at_.reg.big;obtain ⟨bb,oo,hA3,hbb,hxx⟩:=H.at_.typ.sl.at_ ht;have hle3:=H.at_.typ.le;have hbig3:=H.at_.typ.big;obtain ⟨ty,hty⟩:∃ty,b.types[t]=ty:=⟨_,rfl⟩;rw [hty] at hxx;obtain ⟨q0,q1,q2,q3,A5,c5,q4,-,-,-⟩:=hxx;obtain ⟨R,hR⟩:∃R,borE b rv t=R:=⟨_,rfl⟩;rw [hR]
 have HR:Hid (R=if (tyB b rv.place).2≠0 then (tyB b rv.place).2 else if rv.reg<0\/(b.regions.length:Int)<=rv.reg then 3 else if ty.kind≠3\/ty.reg≠rv.reg\/ty.mu≠rv.mu\/ty.elem≠(tyB b rv.place).1 then 22 else if rv.mu=true/\mutB b rv.place=false then 22 else if ((refsOf b.types b.locals rv.place.loc rv.place.proj).1.map (·.reg)).all (fun x=>outB b.outl b.regions.length x rv.reg)=true then 0 else 22):=aF (by
  rw [<- hR,borE];simp only [bW];rw [bD ht,hty,List.all_map]
  rfl)
 have HLN:Hid (((refsOf b.types b.locals rv.place.loc rv.place.proj).1.map (·.reg)).length=(refsOf b.types b.locals rv.place.loc rv.place.proj).1.length):=aF (cF _);generalize (refsOf b.types b.locals rv.place.loc rv.place.proj).1.length=nl at HLN HG;generalize (refsOf b.types b.locals rv.place.loc rv.place.proj).1.map (·.reg)=rs at HG HR HLN;generalize tyB b rv.place=q at HT HR;generalize mutB b rv.place=mb at HM HR;obtain ⟨ti,te⟩:=q;simp only at HR HT;clear hR hty H hp;unfold ckC at HT ⊢;unfold rvC;rw [hA3] at HT HM HG ⊢;by_cases he:te=0
 case neg=>
  have HF:Hid (R=te):=aF (by rw [HR.out,bA he]);have e1:(te != 0)=true:=by simp [he]
  clear HR he HM HG HO;go_enter Tryz.func151,Tryz.ntmps151
  go_wp2_with (go_at_call 123;refine (HT.out _ (bel2 _ _ _)).mono ?_;rintro e' w1 ⟨rfl,hb1⟩;have HB:=aF ((bel2 _ _ _).trans (hb1.mono (bel2 _ _ _).size));obtain ⟨y,z⟩:=cT hb1;have HY:=aF y;have HZ:=aF z;obtain ⟨y0,y1,y2,y3,y4,y5,y6,y7⟩:=aT HY.out;obtain ⟨z0,z1,z2,z3,z4,z5,z6⟩:=aS HZ.out;have v0:=cJ HB.out q0;have v1:=cJ HB.out q1;have v2:=cJ HB.out q2;have v3:=cJ HB.out q3;have v4:=cJ HB.out q4;have hlw:=hb1.size;simp only [bI] at hlw;have hlw1:w.heap.size+1<w1.heap.size:=hlw;have hlw0:w.heap.size<w1.heap.size:=cC hlw;clear y z hb1)
  go_ret;exact ⟨by rw [HF.out];rfl,HB.out.alloc HB.out.size _⟩
 case pos=>
 subst he;by_cases h0:rv.reg<0\/(b.regions.length:Int)<=rv.reg
 case pos=>
  have HF:Hid (R=3):=aF (by rw [HR.out,aZ (by simp),bA h0]);clear HR HM HG HO;go_enter Tryz.func151,Tryz.ntmps151
  go_wp2_with (go_at_call 123;refine (HT.out _ (bel2 _ _ _)).mono ?_;rintro e' w1 ⟨rfl,hb1⟩;have HB:=aF ((bel2 _ _ _).trans (hb1.mono (bel2 _ _ _).size));obtain ⟨y,z⟩:=cT hb1;have HY:=aF y;have HZ:=aF z;obtain ⟨y0,y1,y2,y3,y4,y5,y6,y7⟩:=aT HY.out;obtain ⟨z0,z1,z2,z3,z4,z5,z6⟩:=aS HZ.out;have v0:=cJ HB.out q0;have v1:=cJ HB.out q1;have v2:=cJ HB.out q2;have v3:=cJ HB.out q3;have v4:=cJ HB.out q4;have hlw:=hb1.size;simp only [bI] at hlw;have hlw1:w.heap.size+1<w1.heap.size:=hlw;have hlw0:w.heap.size<w1.heap.size:=cC hlw;clear y z hb1)
  all_goals first
   | (exfalso;omega)
   | (go_ret;exact ⟨by rw [HF.out];rfl,HB.out.alloc HB.out.size _⟩)
 case neg=>
 have h1:¬rv.reg<0:=by omega
 have h2:¬(b.regions.length:Int)<=rv.reg:=by omega
 have HR2:Hid (R=if ty.kind≠3\/ty.reg≠rv.reg\/ty.mu≠rv.mu\/ty.elem≠ti then 22 else if rv.mu=true/\mb=false then 22 else if rs.all (fun x=>outB b.outl b.regions.length x rv.reg)=true then 0 else 22):=aF (by rw [HR.out,aZ (by simp),aZ h0]);clear HR h0;obtain ⟨p1,hp1⟩:∃p,(ty.kind != 3)=p:=⟨_,rfl⟩;obtain ⟨p2,hp2⟩:∃p,(ty.reg != rv.reg)=p:=⟨_,rfl⟩;obtain ⟨p3,hp3⟩:∃p,(ty.mu != rv.mu)=p:=⟨_,rfl⟩;obtain ⟨p4,hp4⟩:∃p,(ty.elem != ti)=p:=⟨_,rfl⟩
 have HR3:Hid (R=if p1=true\/p2=true\/p3=true\/p4=true then 22 else if rv.mu=true/\mb=false then 22 else if rs.all (fun x=>outB b.outl b.regions.length x rv.reg)=true then 0 else 22):=aF (by
  rw [HR2.out,<- hp1,<- hp2,<- hp3,<- hp4]
  simp only [bne_iff_ne])
 clear HR2;by_cases hor:p1=true\/p2=true\/p3=true\/p4=true
 ·have HF:Hid (R=22):=aF (by rw [HR3.out,bA hor]);rcases (show p1=true\/(p1=false/\p2=true)\/(p1=false/\p2=false/\p3=true)\/(p1=false/\p2=false/\p3=false/\p4=true) by revert hor;cases p1 <;> cases p2 <;> cases p3 <;> cases p4 <;> simp) with rfl | ⟨rfl,rfl⟩ | ⟨rfl,rfl,rfl⟩ | ⟨rfl,rfl,rfl,rfl⟩
  all_goals
   clear hor HR3 HM HG HO;go_enter Tryz.func151,Tryz.ntmps151
   go_wp2_with (go_at_call 123;refine (HT.out _ (bel2 _ _ _)).mono ?_;rintro e' w1 ⟨rfl,hb1⟩;have HB:=aF ((bel2 _ _ _).trans (hb1.mono (bel2 _ _ _).size));obtain ⟨y,z⟩:=cT hb1;have HY:=aF y;have HZ:=aF z;obtain ⟨y0,y1,y2,y3,y4,y5,y6,y7⟩:=aT HY.out;obtain ⟨z0,z1,z2,z3,z4,z5,z6⟩:=aS HZ.out;have v0:=cJ HB.out q0;have v1:=cJ HB.out q1;have v2:=cJ HB.out q2;have v3:=cJ HB.out q3;have v4:=cJ HB.out q4;have hlw:=hb1.size;simp only [bI] at hlw;have hlw1:w.heap.size+1<w1.heap.size:=hlw;have hlw0:w.heap.size<w1.heap.size:=cC hlw;clear y z hb1)
   all_goals first
    | (exfalso;omega)
    | (go_ret;exact ⟨by rw [HF.out];rfl,HB.out.alloc HB.out.size _⟩)
    | (exfalso;simp_all;done)
 have HR4:Hid (R=if rv.mu=true/\mb=false then 22 else if rs.all (fun x=>outB b.outl b.regions.length x rv.reg)=true then 0 else 22):=aF (by rw [HR3.out,aZ hor]);obtain ⟨rfl,rfl,rfl,rfl⟩:p1=false/\p2=false/\p3=false/\p4=false:=by revert hor;cases p1 <;> cases p2 <;> cases p3 <;> cases p4 <;> simp
 clear HR3 hor;obtain ⟨mu,hmu⟩:∃mu,rv.mu=mu:=⟨_,rfl⟩;rw [hmu] at HR4 hp3 ⊢;have hm3:ty.mu=mu:=by revert hp3;cases ty.mu <;> cases mu <;> simp
 clear hp3 hmu;by_cases hbad:mu=true/\mb=false
 ·obtain ⟨rfl,rfl⟩:=hbad;have HF:Hid (R=22):=aF (by rw [HR4.out];simp);clear HR4 HG HO;go_enter Tryz.func151,Tryz.ntmps151
  go_wp2_with (first | (go_at_call 123;refine (HT.out _ (bel2 _ _ _)).mono ?_;rintro e' w1 ⟨rfl,hb1⟩;have HB:=aF ((bel2 _ _ _).trans (hb1.mono (bel2 _ _ _).size));obtain ⟨y,z⟩:=cT hb1;have HY:=aF y;have HZ:=aF z;obtain ⟨y0,y1,y2,y3,y4,y5,y6,y7⟩:=aT HY.out;obtain ⟨z0,z1,z2,z3,z4,z5,z6⟩:=aS HZ.out;have v0:=cJ HB.out q0;have v1:=cJ HB.out q1;have v2:=cJ HB.out q2;have v3:=cJ HB.out q3;have v4:=cJ HB.out q4;have hlw:=hb1.size;simp only [bI] at hlw;have hlw1:w.heap.size+1<w1.heap.size:=hlw;have hlw0:w.heap.size<w1.heap.size:=cC hlw;clear y z hb1) | (go_at_call 149;refine (HM.out _ (HB.out.alloc HB.out.size _)).mono ?_;rintro e' w2 ⟨rfl,hb2⟩;have HB2:=aF ((HB.out.alloc HB.out.size _).trans (hb2.mono (HB.out.alloc HB.out.size _).size));clear hb2))
  all_goals try (exfalso;omega)
  go_ret;exact ⟨by rw [HF.out];rfl,HB2.out⟩
 have HQ:Hid (R=if rs.all (fun x=>outB b.outl b.regions.length x rv.reg)=true then 0 else 22):=aF (by rw [HR4.out,aZ hbad]);clear HR4;rcases (show mu=false\/(mu=true/\mb=true) by revert hbad;cases mu <;> cases mb <;> simp) with rfl | ⟨rfl,rfl⟩
 ·clear hbad HM;go_enter Tryz.func151,Tryz.ntmps151
  go_wp2_with (first | (go_at_call 123;refine (HT.out _ (bel2 _ _ _)).mono ?_;rintro e' w1 ⟨rfl,hb1⟩;have HB:=aF ((bel2 _ _ _).trans (hb1.mono (bel2 _ _ _).size));obtain ⟨y,z⟩:=cT hb1;have HY:=aF y;have HZ:=aF z;obtain ⟨y0,y1,y2,y3,y4,y5,y6,y7⟩:=aT HY.out;obtain ⟨z0,z1,z2,z3,z4,z5,z6⟩:=aS HZ.out;have v0:=cJ HB.out q0;have v1:=cJ HB.out q1;have v2:=cJ HB.out q2;have v3:=cJ HB.out q3;have v4:=cJ HB.out q4;have hlw:=hb1.size;simp only [bI] at hlw;have hlw1:w.heap.size+1<w1.heap.size:=hlw;have hlw0:w.heap.size<w1.heap.size:=cC hlw;clear y z hb1) | (go_at_call 188;refine (HG.out _ (HB.out.alloc HB.out.size _)).mono ?_;rintro e' w3 ⟨A8,c8,rfl,hs8,hb2⟩;have HB3:=aF ((HB.out.alloc HB.out.size _).trans (hb2.mono (HB.out.alloc HB.out.size _).size));have HY3:=aF (dR HY.out hb2);have HZ3:=aF (dR HZ.out hb2);have HS8:=aF hs8;have hs8l:=hs8.le;have hs8b:=hs8.big;have hsz3:=hb2.size;simp only [bI] at hsz3;clear hb2 hs8))
  all_goals try (exfalso;omega)
  rw [HLN.out] at hs8l;go_loopw [91] (fun v wr=>∃k:Nat,k<=nl/\v = .int .i64 k/\Hid (aA (bdM b bh.A1 bh.c1 bh.A2 bh.c2 (some ⟨bb,oo,none⟩) bh.c3 bh.A4 bh.c4 bh.A5 bh.c5 [.pointer (some ⟨r,0,none⟩)]) wr w.heap.size)/\Hid (aA [Value.int .i64 rv.kind,.int .i64 rv.op,.int .i64 rv.reg,.bool false,.int .i64 rv.place.loc,.slice A rv.place.proj.length c,.slice B rv.args.length d] wr (w.heap.size+1))/\Hid (Below w.heap.size w wr)/\Hid (Below w3.heap.size w3 wr)/\Hid (R=if (rs.drop k).all (fun x=>outB b.outl b.regions.length x rv.reg)=true then 0 else 22)) (fun v _=>nl - (intOf v).toNat)
  case atStart=>exact ⟨0,by omega,rfl,HY3,HZ3,HB3,aF (aX _ _),HQ⟩
  case round=>
   clear HQ HY3 HZ3 HB3;obtain ⟨k,hk,rfl,HYR,HZR,HBR,HB9,hr⟩:=hrel;have y7:=HYR.out 7 _ rfl;have z2:=HZR.out 2 _ rfl;by_cases hlt:k<nl
   ·have hlt2:k<rs.length:=by rw [HLN.out];exact hlt
    have hd:=cS hlt2;obtain ⟨b8,o8,rfl,hb8,hx⟩:=(HS8.out.keep RInt.keeps HB9.out).sl.at_ hlt2;obtain ⟨x,hxx⟩:∃x,rs[k]=x:=⟨_,rfl⟩;rw [hxx] at hx hd;have x0:wr.cell? ⟨b8,o8+k,none⟩=some (.int .i64 x):=(by simpa [RInt] using hx);have HOX:=aF (HO.out wr HBR.out x);have HQX:Hid (R=if outB b.outl b.regions.length x rv.reg=true then (if (rs.drop (k+1)).all (fun x=>outB b.outl b.regions.length x rv.reg)=true then 0 else 22) else 22):=aF (by rw [hr.out,hd,cB];cases outB b.outl b.regions.length x rv.reg <;> rfl);clear hx hd hxx hr hlt2;generalize outB b.outl b.regions.length x rv.reg=ob at HOX HQX;cases ob
    ·have HF:Hid (R=22):=HQX;go_wp2_with (go_at_call 189;refine HOX.out.mono ?_;rintro e' w4 ⟨rfl,hb4⟩;have HB4:=aF (HBR.out.trans (hb4.mono HBR.out.size));clear hb4)
     go_ret;exact ⟨by rw [HF.out];rfl,HB4.out⟩
    ·have HF:Hid (R=if (rs.drop (k+1)).all (fun x=>outB b.outl b.regions.length x rv.reg)=true then 0 else 22):=HQX;go_wp2_with (go_at_call 189;refine HOX.out.mono ?_;rintro e' w4 ⟨rfl,hb4⟩;have HB4:=aF (HBR.out.trans (hb4.mono HBR.out.size));have HB5:=aF (HB9.out.trans (hb4.mono HB9.out.size));have HY5:=aF (cK HYR.out hb4);have HZ5:=aF (cK HZR.out hb4);clear hb4)
     go_roundw
     case rel=>exact ⟨k+1,by omega,by go_num,HY5,HZ5,HB4,HB5,HF⟩
     case measure=>simp [intOf];omega
   ·have HF:Hid (R=0):=aF (by rw [hr.out,bE (by rw [HLN.out];omega:rs.length<=k)];rfl);clear hr;go_wp2_with fail
    go_ret;exact ⟨by rw [HF.out];rfl,HBR.out⟩
 ·clear hbad;go_enter Tryz.func151,Tryz.ntmps151
  go_wp2_with (first | (go_at_call 123;refine (HT.out _ (bel2 _ _ _)).mono ?_;rintro e' w1 ⟨rfl,hb1⟩;have HB:=aF ((bel2 _ _ _).trans (hb1.mono (bel2 _ _ _).size));obtain ⟨y,z⟩:=cT hb1;have HY:=aF y;have HZ:=aF z;obtain ⟨y0,y1,y2,y3,y4,y5,y6,y7⟩:=aT HY.out;obtain ⟨z0,z1,z2,z3,z4,z5,z6⟩:=aS HZ.out;have v0:=cJ HB.out q0;have v1:=cJ HB.out q1;have v2:=cJ HB.out q2;have v3:=cJ HB.out q3;have v4:=cJ HB.out q4;have hlw:=hb1.size;simp only [bI] at hlw;have hlw1:w.heap.size+1<w1.heap.size:=hlw;have hlw0:w.heap.size<w1.heap.size:=cC hlw;clear y z hb1) | (go_at_call 149;refine (HM.out _ (HB.out.alloc HB.out.size _)).mono ?_;rintro e' w2 ⟨rfl,hb2⟩;have HB2:=aF ((HB.out.alloc HB.out.size _).trans (hb2.mono (HB.out.alloc HB.out.size _).size));have HY2:=aF (dR HY.out hb2);have HZ2:=aF (dR HZ.out hb2);clear HY HZ;have HY:=HY2;have HZ:=HZ2;obtain ⟨y0,y1,y2,y3,y4,y5,y6,y7⟩:=aT HY.out;obtain ⟨z0,z1,z2,z3,z4,z5,z6⟩:=aS HZ.out;have hsz2:=hb2.size;simp only [bI] at hsz2;clear hb2) | (go_at_call 188;refine (HG.out _ HB2.out).mono ?_;rintro e' w3 ⟨A8,c8,rfl,hs8,hb2⟩;have HB3:=aF (HB2.out.trans (hb2.mono HB2.out.size));have HY3:=aF (cK HY2.out hb2);have HZ3:=aF (cK HZ2.out hb2);have HS8:=aF hs8;have hs8l:=hs8.le;have hs8b:=hs8.big;have hsz3:=hb2.size;clear hb2 hs8))
  all_goals try (exfalso;omega)
  rw [HLN.out] at hs8l;go_loopw [91] (fun v wr=>∃k:Nat,k<=nl/\v = .int .i64 k/\Hid (aA (bdM b bh.A1 bh.c1 bh.A2 bh.c2 (some ⟨bb,oo,none⟩) bh.c3 bh.A4 bh.c4 bh.A5 bh.c5 [.pointer (some ⟨r,0,none⟩)]) wr w.heap.size)/\Hid (aA [Value.int .i64 rv.kind,.int .i64 rv.op,.int .i64 rv.reg,.bool true,.int .i64 rv.place.loc,.slice A rv.place.proj.length c,.slice B rv.args.length d] wr (w.heap.size+1))/\Hid (Below w.heap.size w wr)/\Hid (Below w3.heap.size w3 wr)/\Hid (R=if (rs.drop k).all (fun x=>outB b.outl b.regions.length x rv.reg)=true then 0 else 22)) (fun v _=>nl - (intOf v).toNat)
  case atStart=>exact ⟨0,by omega,rfl,HY3,HZ3,HB3,aF (aX _ _),HQ⟩
  case round=>
   clear HQ HY3 HZ3 HB3;obtain ⟨k,hk,rfl,HYR,HZR,HBR,HB9,hr⟩:=hrel;have y7:=HYR.out 7 _ rfl;have z2:=HZR.out 2 _ rfl;by_cases hlt:k<nl
   ·have hlt2:k<rs.length:=by rw [HLN.out];exact hlt
    have hd:=cS hlt2;obtain ⟨b8,o8,rfl,hb8,hx⟩:=(HS8.out.keep RInt.keeps HB9.out).sl.at_ hlt2;obtain ⟨x,hxx⟩:∃x,rs[k]=x:=⟨_,rfl⟩;rw [hxx] at hx hd;have x0:wr.cell? ⟨b8,o8+k,none⟩=some (.int .i64 x):=(by simpa [RInt] using hx);have HOX:=aF (HO.out wr HBR.out x);have HQX:Hid (R=if outB b.outl b.regions.length x rv.reg=true then (if (rs.drop (k+1)).all (fun x=>outB b.outl b.regions.length x rv.reg)=true then 0 else 22) else 22):=aF (by rw [hr.out,hd,cB];cases outB b.outl b.regions.length x rv.reg <;> rfl);clear hx hd hxx hr hlt2;generalize outB b.outl b.regions.length x rv.reg=ob at HOX HQX;cases ob
    ·have HF:Hid (R=22):=HQX;go_wp2_with (go_at_call 189;refine HOX.out.mono ?_;rintro e' w4 ⟨rfl,hb4⟩;have HB4:=aF (HBR.out.trans (hb4.mono HBR.out.size));clear hb4)
     go_ret;exact ⟨by rw [HF.out];rfl,HB4.out⟩
    ·have HF:Hid (R=if (rs.drop (k+1)).all (fun x=>outB b.outl b.regions.length x rv.reg)=true then 0 else 22):=HQX;go_wp2_with (go_at_call 189;refine HOX.out.mono ?_;rintro e' w4 ⟨rfl,hb4⟩;have HB4:=aF (HBR.out.trans (hb4.mono HBR.out.size));have HB5:=aF (HB9.out.trans (hb4.mono HB9.out.size));have HY5:=aF (cK HYR.out hb4);have HZ5:=aF (cK HZR.out hb4);clear hb4)
     go_roundw
     case rel=>exact ⟨k+1,by omega,by go_num,HY5,HZ5,HB4,HB5,HF⟩
     case measure=>simp [intOf];omega
   ·have HF:Hid (R=0):=aF (by rw [hr.out,bE (by rw [HLN.out];omega:rs.length<=k)];rfl);clear hr;go_wp2_with fail
    go_ret;exact ⟨by rw [HF.out];rfl,HBR.out⟩
end
section
open Go Go.RowKit Go.Shelf
theorem tJ (c:UInt8):(c.toNat:Int).toNat.toUInt8=c:=by simp
theorem nF (s:ByteArray) (k:Nat) (h:k<s.size):s.data.toList.drop k=s[k] :: s.data.toList.drop (k+1):=by
 rw [cH (by simpa using h)];rfl
theorem vP (s:ByteArray) (k:Nat) (h:s.size<=k):s.data.toList.drop k=[]:=bE (by simpa using h)
theorem eI (s:ByteArray):s.data.toList.length=s.size:=by simp
theorem jK (b:Nat) (x:UInt8) (v:Bool) (w:World) (hc:w.cell? ⟨b,x.toNat,none⟩=some (.bool v)):
 Calls Tryz.prog 205 #[.pointer (some ⟨b,0,none⟩),.int .u8 x.toNat] w fun e w'=>e = .returned (.bool v)/\w'=w:=Tryz.asciiSet_contains b x v w hc
theorem nE {p:UInt8->Bool} {c:UInt8} {r:List UInt8} (h:p c=true):(c :: r).dropWhile p=r.dropWhile p:=by simp [h]
theorem sX {p:UInt8->Bool} {c:UInt8} {r:List UInt8} (h:p c=false):(c :: r).dropWhile p=c :: r:=by simp [h]
theorem qR (s:ByteArray) (b:Nat) (p:UInt8->Bool) (w:World) (hset:∀x:UInt8,w.cell? ⟨b,x.toNat,none⟩=some (.bool (p x))):
 Calls Tryz.prog 177 #[.string s,.pointer (some ⟨b,0,none⟩)] w fun e w'=>(∃t,e = .returned (.string t)/\t.data.toList=s.data.toList.dropWhile p)/\w'=w:=by
 have HS:=aF hset;clear hset;go_enter Tryz.func177,Tryz.ntmps177
 go_wp2_with fail
 go_loop [0] (fun v=>∃t:ByteArray,v = .string t/\t.size<=s.size/\Hid (s.data.toList.dropWhile p=t.data.toList.dropWhile p)) (fun v=>Lib.strSize v)
 case atStart=>exact ⟨s,rfl,aY _,aF rfl⟩
 case round=>
  obtain ⟨t,rfl,hle,hp⟩:=hrel;by_cases h0:0<t.size
  ·have hd:=nF t 0 h0;rw [bX] at hd;have hcx:=HS.out t[0];cases hin:p t[0]
   ·rw [hin] at hcx;have HA:=aF (jK b t[0] false w hcx);have HF:Hid (t.data.toList=s.data.toList.dropWhile p):=aF (by rw [hp.out,hd,sX hin]);clear hd hcx hin hp;go_wp2_with (go_at_call 205;refine HA.out.mono ?_;rintro e w' ⟨rfl,hw⟩;obtain rfl:=hw.symm)
    go_ret;exact ⟨⟨t,rfl,HF.out⟩,rfl⟩
   ·rw [hin] at hcx;have HA:=aF (jK b t[0] true w hcx);have HF:Hid (s.data.toList.dropWhile p=(t.extract 1 t.size).data.toList.dropWhile p):=aF (by rw [hp.out,hd,nE hin,Lib.extract_to_end]);clear hd hcx hin hp;go_wp2_with (go_at_call 205;refine HA.out.mono ?_;rintro e w' ⟨rfl,hw⟩;obtain rfl:=hw.symm)
    go_round
    case rel=>exact ⟨t.extract 1 t.size,rfl,by simp;omega,HF⟩
    case measure=>rw [Lib.strSize_string,Lib.strSize_string];simp;omega
  ·have h00:t.size=0:=by omega
   have hnil:t.data.toList=[]:=bV (by rw [eI];omega);have HF:Hid (t.data.toList=s.data.toList.dropWhile p):=aF (by rw [hp.out,hnil];rfl);clear hnil hp h0;go_wp2_with fail
   go_ret;exact ⟨⟨t,rfl,HF.out⟩,rfl⟩
structure trimRP (s t:ByteArray) (p:UInt8->Bool):Prop where
 one:t.data.toList.all p=true->t.size=0
 two:t.size=0->s.data.toList.all p=true
 three:s.data.toList.all p=true->t.data.toList.all p=true
theorem qQ (s:ByteArray) (b:Nat) (p:UInt8->Bool) (w:World) (hs:s.size<=9223372036854775807) (hset:∀x:UInt8,w.cell? ⟨b,x.toNat,none⟩=some (.bool (p x))):
 Calls Tryz.prog 178 #[.string s,.pointer (some ⟨b,0,none⟩)] w fun e w'=>(∃t,e = .returned (.string t)/\trimRP s t p)/\w'=w:=by
 have HS:=aF hset;clear hset;go_enter Tryz.func178,Tryz.ntmps178
 go_wp2_with fail
 go_loop [0] (fun v=>∃t:ByteArray,v = .string t/\t.size<=s.size/\Hid (s.data.toList.all p=t.data.toList.all p)) (fun v=>Lib.strSize v)
 case atStart=>exact ⟨s,rfl,aY _,aF rfl⟩
 case round=>
  obtain ⟨t,rfl,hle,hp⟩:=hrel;by_cases h0:0<t.size
  ·have hk:t.size - 1<t.size:=by omega
   have hd:t.data.toList=(t.extract 0 (t.size - 1)).data.toList ++ [t[t.size - 1]]:=by
    have h1:=nF t (t.size - 1) hk;rw [show t.size - 1+1=t.size by omega,vP t t.size (aY _)] at h1;rw [<- h1,Lib.extract_data,bX,Nat.sub_zero,List.take_append_drop]
   have hcx:=HS.out t[t.size - 1];have hw1:((t.size:Int) - 1)=((t.size - 1:Nat):Int):=by omega
   cases hin:p t[t.size - 1]
   ·rw [hin] at hcx;have HA:=aF (jK b t[t.size - 1] false w hcx);have HF:Hid (t.data.toList.all p=false):=aF (by rw [hd];simp [hin]);clear hd hcx hin;go_wp2_with (go_at_call 205;refine HA.out.mono ?_;rintro e w' ⟨rfl,hw⟩;obtain rfl:=hw.symm)
    go_ret;refine ⟨⟨t,rfl,fun h=>?_,fun h=>by omega,fun h=>by rw [<- hp.out];exact h⟩,rfl⟩;rw [HF.out] at h;cases h
   ·rw [hin] at hcx;have HA:=aF (jK b t[t.size - 1] true w hcx);have HF:Hid (s.data.toList.all p=(t.extract 0 (t.size - 1)).data.toList.all p):=aF (by rw [hp.out,hd,List.all_append,cB,hin];simp);clear hd hcx hin hp;go_wp2_with (go_at_call 205;refine HA.out.mono ?_;rintro e w' ⟨rfl,hw⟩;obtain rfl:=hw.symm)
    go_round
    case rel=>exact ⟨t.extract 0 (t.size - 1),rfl,by simp;omega,HF⟩
    case measure=>rw [Lib.strSize_string,Lib.strSize_string];simp;omega
  ·have h00:t.size=0:=by omega
   have hnil:t.data.toList=[]:=bV (by rw [eI];omega);have HF:Hid (s.data.toList.all p=true/\t.data.toList.all p=true):=aF (by rw [hp.out,hnil];exact ⟨rfl,rfl⟩);clear hnil hp h0;go_wp2_with fail
   go_ret;exact ⟨⟨t,rfl,fun _=>h00,fun _=>HF.out.1,fun _=>HF.out.2⟩,rfl⟩
theorem wU {p:UInt8->Bool}:∀{l:List UInt8},l.dropWhile p=[]->l.all p=true
 | [],_=>rfl
 | c :: r,h=>by
   cases hc:p c
   ·rw [sX hc] at h;cases h
   ·rw [nE hc] at h;simp only [cB,hc,wU h,Bool.and_self]
theorem wV {p:UInt8->Bool}:∀{l:List UInt8},l.all p=true->l.dropWhile p=[]
 | [],_=>rfl
 | c :: r,h=>by
   simp only [cB,bQ] at h;rw [nE h.1,wV h.2]
def lettersA:ByteArray:=⟨#[95,97,98,99,100,101,102,103,104,105,106,107,108,109,110,111,112,113,114,115,116,117,118,119,120,121,122,65,66,67,68,69,70,71,72,73,74,75,76,77,78,79,80,81,82,83,84,85,86,87,88,89,90,48,49,50,51,52,53,54,55,56,57]⟩
theorem yF:(Tryz.prog.info? 240).map (fun i=>(i.zero,i.size))=some (some (.agg (Array.replicate 256 (.bool false))),256):=by kernel_rfl
theorem wW:∀w,(zeroValue 240).run Tryz.prog w = .ok (.agg (Array.replicate 256 (.bool false))) w:=fun w=>by
 have h:=yF;cases hi:Tryz.prog.info? 240 with
 | none=>rw [hi] at h;cases h
 | some i=>
   rw [hi] at h;simp at h;simp [zeroValue,typeInfo,hi,h.1]
theorem tL {l:List UInt8} (h:l.all (fun c=>decide (c.toNat<128))=true):∀(j:Nat) b,l[j]?=some b->b.toNat<128:=fun j b hj=>by
 simpa using List.all_eq_true.1 h b (List.mem_of_getElem? hj)
theorem tZ (s:ByteArray) (w:World) (h0:0<s.size) (hs:s.size<=9223372036854775807):
 Calls Tryz.prog 146 #[.string s,.string lettersA] w fun e w'=>(∃t,e = .returned (.string t)/\(t.size=0↔s.data.toList.all (fun c=>lettersA.data.toList.contains c)=true))/\Below w.heap.size w w':=by
 have hM:=Tryz.strings_makeASCIISet wW lettersA w (by decide) (tL (by decide));have hn1:((lettersA.size:Int) == 1)=false:=by decide
 have hemp:lettersA.toList.isEmpty=false:=by rw [Lib.toList_data];rfl
 have hc0:2<=lettersA.size:=by decide
 generalize lettersA=cutset at *
 have hemps:s.toList.isEmpty=false:=by
  rw [Lib.toList_data];cases h:s.data.toList with
  | nil=>have:=Lib.size_eq s;rw [h,bP] at this;omega
  | cons _ _=>rfl
 have hsc:(storeCells ⟨w.heap.size+1,0,none⟩ (Lib.setCells cutset.data.toList).toList 0).run Tryz.prog ((w.alloc (.cells (Lib.setCells cutset.data.toList) 240)).alloc (.cells (Array.replicate 256 (.bool false)) 240)) = .ok () ((w.alloc (.cells (Lib.setCells cutset.data.toList) 240)).alloc (.cells (Lib.setCells cutset.data.toList) 240)):=by
  have:=run_storeCells_new (P:=Tryz.prog) (w.alloc (.cells (Lib.setCells cutset.data.toList) 240)) 240 (Array.replicate 256 (.bool false)) (Lib.setCells cutset.data.toList) (by rw [Lib.setCells_size];kernel_rfl) (by rw [Lib.setCells_size,Array.size_replicate]) (Lib.setCells_one _);simpa using this
 have hsz:=Lib.setCells_size cutset.data.toList;have hz:Tryz.zeroCells240=Array.replicate 256 (.bool false):=by kernel_rfl
 obtain ⟨W,hW⟩:∃W,((w.alloc (.cells (Lib.setCells cutset.data.toList) 240)).alloc (.cells (Lib.setCells cutset.data.toList) 240))=W:=⟨_,rfl⟩
 have hcellAt:∀x:UInt8,W.cell? ⟨w.heap.size+1,x.toNat,none⟩=some (.bool (cutset.data.toList.contains x)):=fun x=>by
  rw [<- hW,World.cell?_alloc_at _ _ _ _ (by simp),Lib.setCells_at]
 have hB:Below w.heap.size w W:=by rw [<- hW];exact ((aX _ _).alloc (aY _) _).alloc (by simp) _
 have HR:=aF (qQ s (w.heap.size+1) (fun c=>cutset.data.toList.contains c) W hs hcellAt);have HL:=aF (fun t=>qR t (w.heap.size+1) (fun c=>cutset.data.toList.contains c) W hcellAt);have HB:=aF hB;clear hcellAt hB hs;go_enter Tryz.func146,Tryz.ntmps146
 go_wp2_with (first
  | (go_at_call 176;refine hM.mono ?_;rintro e w' ⟨rfl,hw⟩;rw [hw])
  | (go_at_call 178;refine HR.out.mono ?_;rintro e w' ⟨⟨t,rfl,ht⟩,hw⟩;obtain rfl:=hw.symm)
  | (go_at_call 177;refine (HL.out _).mono ?_;rintro e w' ⟨⟨u,rfl,hu⟩,hw⟩;obtain rfl:=hw.symm))
 go_ret;refine ⟨⟨u,rfl,⟨fun h=>?_,fun h=>?_⟩⟩,HB.out⟩
 ·have h1:u.data.toList=[]:=bV (by rw [eI];exact h);exact ht.two (ht.one (wU (hu ▸ h1)))
 ·have h1:=wV (ht.three h);rw [<- eI,hu,h1];rfl
def digitsA:ByteArray:=⟨#[48,49,50,51,52,53,54,55,56,57]⟩
theorem uP (c:UInt8):lettersA.data.toList.contains c=(isLet c || isDig c):=by
 have h:∀n,n<256->lettersA.data.toList.contains (UInt8.ofNat n)=(isLet (UInt8.ofNat n) || isDig (UInt8.ofNat n)):=by decide +kernel
 have:=h c.toNat c.toNat_lt;simpa using this
theorem xJ (c:UInt8):digitsA.data.toList.contains c=isDig c:=by
 have h:∀n,n<256->digitsA.data.toList.contains (UInt8.ofNat n)=isDig (UInt8.ofNat n):=by decide +kernel
 have:=h c.toNat c.toNat_lt;simpa using this
theorem yE (c:UInt8):isLet c=true->isDig c=false:=by
 intro h;simp only [isLet,isDig,Bool.or_eq_true,decide_eq_true_eq,decide_eq_false_iff_not] at *;omega
theorem oK (l:List UInt8):sM l=(decide (1<=l.length) && decide (l.length<=255) && !(l.head?.any isDig) && l.all (fun c=>isLet c || isDig c)):=by
 cases l with
 | nil=>rfl
 | cons c r=>
   have:=yE c;simp only [sM,bK,List.head?_cons,Option.any_some,cB];cases h1:isLet c <;> cases h2:isDig c <;> simp_all [Bool.and_comm]
theorem index_of_mem (c:UInt8):∀l:List UInt8,(0<=Lib.indexByte l c/\l.contains c=true)\/(Lib.indexByte l c = -1/\l.contains c=false)
 | []=>Or.inr ⟨rfl,rfl⟩
 | b :: l=>by
   unfold Lib.indexByte;by_cases hb:b=c
   ·subst hb;exact Or.inl ⟨by simp,by simp⟩
   ·have hb2:(b == c)=false:=by simpa using hb
    have hb3:(c == b)=false:=by simpa using fun h=>hb h.symm
    rw [hb2,List.contains_cons,hb3];rcases index_of_mem c l with ⟨h1,h2⟩ | ⟨h1,h2⟩
    ·refine Or.inl ⟨?_,by simpa using h2⟩;have:(Lib.indexByte l c == -1)=false:=by simp;omega
     rw [this];simp;omega
    ·refine Or.inr ⟨?_,by simpa using h2⟩;rw [h1];rfl
theorem sL {s:ByteArray} (h:s.size=0):isIdent s=false:=by
 have:s.data.toList=[]:=bV (by rw [eI];exact h);unfold isIdent;rw [this];rfl
theorem eO (s:ByteArray) (w:World):
 Calls Tryz.prog 108 #[.string s] w fun e w'=>e = .returned (.bool (isIdent s))/\Below w.heap.size w w':=by
 by_cases h0:s.size=0
 ·have HI:=aF (sL h0)
  have hemp:s.toList.isEmpty=true:=by
   rw [Lib.toList_data,show s.data.toList=[] from bV (by rw [eI];exact h0)];rfl
  go_enter Tryz.func108,Tryz.ntmps108
  go_wp2_with fail
  go_ret;exact ⟨by rw [HI.out];rfl,aX _ _⟩
 ·have hd:=nF s 0 (by omega);obtain ⟨c,hc⟩:∃c,s[0]'(by omega)=c:=⟨_,rfl⟩;rw [bX,hc] at hd;have hlen:=eI s
  have hemp:s.toList.isEmpty=false:=by
   rw [Lib.toList_data,hd];rfl
  have HI:Hid (isIdent s=(decide (1<=s.size) && decide (s.size<=255) && !(isDig c) && s.data.toList.all (fun c=>lettersA.data.toList.contains c))):=aF (by
   unfold isIdent;rw [oK,hlen,hd]
   simp only [List.head?_cons,Option.any_some,uP])
  have hx:=index_of_mem c digitsA.data.toList;rw [xJ] at hx;have hib:=Tryz.strings_IndexByte digitsA c.toNat w;rw [tJ] at hib;generalize Lib.indexByte digitsA.data.toList c=j at hx hib;have HIB:=aF hib;obtain ⟨dg,hdg⟩:∃dg,isDig c=dg:=⟨_,rfl⟩;rw [hdg] at hx HI;clear hd hdg hlen hib;by_cases h1:s.size<=255
  ·have HT:=aF (tZ s w (by omega) (by omega));rcases hx with ⟨hj,rfl⟩ | ⟨rfl,rfl⟩
   ·go_enter Tryz.func108,Tryz.ntmps108
    go_wp2_with (go_at_call 145;refine HIB.out.mono ?_;rintro e' w' ⟨rfl,hw'⟩;obtain rfl:=hw'.symm)
    go_ret;exact ⟨by rw [HI.out];simp,aX _ _⟩
   ·go_enter Tryz.func108,Tryz.ntmps108
    go_wp2_with (first
     | (go_at_call 145;refine HIB.out.mono ?_;rintro e' w' ⟨rfl,hw'⟩;obtain rfl:=hw'.symm)
     | (go_at_call 146;refine HT.out.mono ?_;rintro e' w1 ⟨⟨t,rfl,ht⟩,hb1⟩))
    go_ret;refine ⟨?_,hb1⟩
    have he:t.toList.isEmpty=s.data.toList.all (fun c=>lettersA.data.toList.contains c):=by
     rw [bR,<- ht,Lib.toList_data,List.isEmpty_iff,<- List.length_eq_zero_iff,eI]
    rw [HI.out,<- he];simp [h1];omega
  ·go_enter Tryz.func108,Tryz.ntmps108
   go_wp2_with fail
   go_ret;exact ⟨by rw [HI.out];simp [h1],aX _ _⟩
end
section
open Go.RowKit
section
variable {P:Program} {ops:Array Oper} {Q:Exit->Act->World->Prop} {md:Region.Mode} {S:World->Prop} {t:Nat}
def waitsB (md:Region.Mode) (ops:Array Oper) (U:List Nat) (i j:Nat):Bool:=match ops[j]? with
 | some oj=>oj.after.any (fun e=>Region.binds md e && (e.on == i || U.contains e.on))
 | none=>false
def behind (md:Region.Mode) (ops:Array Oper) (listed:Array Bool) (i:Nat):Nat->List Nat->List Nat
 | 0,U=>U
 | n+1,U=>behind md ops listed i n ((List.range ops.size).filter fun j=> !listed.getD j true && (decide (j≠i) && waitsB md ops U i j))
def okU (md:Region.Mode) (ops:Array Oper) (listed:Array Bool) (i:Nat) (U:List Nat):Bool:=U.all fun j=> !listed.getD j true && (decide (j≠i) && waitsB md ops U i j)
def lateU (ops:Array Oper) (t:Nat) (listed:Array Bool) (i:Nat) (U:List Nat):Bool:=
 (List.range ops.size).all fun j=>listed.getD j true || decide (j=i) || U.contains j || match ops[i]?,ops[j]? with
   | some oi,some oj=>oi.apart ops oj && decide (j<t)
   | _,_=>true
theorem jI {i:Nat} {oi:Oper} {v:Value} {U:List Nat} (hi:ops[i]?=some oi) (hsel:∀(j:Nat) (o:Oper) cs b,ops[j]?=some o->o.op ≠ .select cs b)
 (hQ:∀c a w,Q (.panic c) (a.put oi.dst v) w->Q (.panic c) a w) (hU:∀j∈U,j≠i/\waitsB md ops U i j=true):
 ∀(fuel:Nat) (listed:Array Bool) (a:Act) (w:World),(∀j∈U,listed.getD j true=false)->
  (∀j oj,ops[j]?=some oj->j≠i->listed.getD j true=false->j∉U->oi.apart ops oj=true/\j<t)->
  i∈Region.ready md ops listed->YieldsIf P ops S oi v a->S w->
  wpAnyM P md ops Q S t fuel (listed.setIfInBounds i true) (a.put oi.dst v) w->wpAnyM P md ops Q S t (fuel+1) listed a w:=by
 intro fuel;induction fuel with
 | zero=>
   intro listed a w _ _ hr hy hS H;refine ⟨fun h=>(by rw [h] at hr;cases hr),fun j hj=>?_⟩;by_cases hji:j=i
   ·subst hji;exact hy.wpOp hi hS ⟨fun _=>hS,H⟩
   ·have:=ready_mono hj hji;rw [H.1] at this;cases this
 | succ fuel ih=>
   intro listed a w hUl hfree hr hy hS H;refine ⟨fun h=>(by rw [h] at hr;cases hr),fun j hj=>?_⟩;by_cases hji:j=i
   ·subst hji;exact hy.wpOp hi hS ⟨fun _=>hS,H⟩
   ·have h1:=H.2 j (ready_mono hj hji);obtain ⟨hjun,oj,hoj,hall⟩:=mem_ready.1 hj
    have unl:∀(k:Nat),listed.getD k true=false->listed.getD k false=true->False:=fun k h0 h1=>by
     rcases Nat.lt_or_ge k listed.size with h' | h'
     ·simp [h'] at h0 h1;rw [h0] at h1;cases h1
     ·simp [Array.getElem?_eq_none h'] at h1
    have hnot:j∉U:=fun hm=>by
     obtain ⟨_,hw⟩:=hU j hm;unfold waitsB at hw;rw [hoj] at hw;obtain ⟨e,he,hb⟩:=Array.any_eq_true'.1 hw;simp only [bQ,Bool.or_eq_true,beq_iff_eq] at hb;have h2:=hall e he hb.1;rcases hb.2 with heq | heq
     ·rw [heq] at h2;exact unl i (mem_ready.1 hr).1 (by simpa using h2)
     ·exact unl e.on (hUl e.on (by simpa using heq)) (by simpa using h2)
    have h2:=wpOp_putIf hoj (hfree j oj hoj hji hjun hnot).1 (fun cs b=>hsel i oi cs b hi) (fun cs b=>hsel j oj cs b hoj) hQ hy h1;have hjt:=(hfree j oj hoj hji hjun hnot).2;have hset:∀k,k≠j->(listed.setIfInBounds j true).getD k true=listed.getD k true:=fun k hk=>getD_set_ne true (fun e=>hk e.symm)
    have hUl':∀k∈U,(listed.setIfInBounds j true).getD k true=false:=fun k hk=>by
     rw [hset k (fun e=>hnot (e ▸ hk))];exact hUl k hk
    have hfree':∀k ok,ops[k]?=some ok->k≠i->(listed.setIfInBounds j true).getD k true=false->k∉U->oi.apart ops ok=true/\k<t:=fun k ok hk hki hun hno=>by
     refine hfree k ok hk hki ?_ hno;by_cases hjk:j=k
     ·subst hjk;exact hjun
     ·rw [hset k (fun e=>hjk e.symm)] at hun;exact hun
    refine wpOp_mono (fun a' w' h3=>⟨h3.2.1,ih (listed.setIfInBounds j true) a' w' hUl' hfree' (ready_mono hr (Ne.symm hji)) h3.1 (h3.2.1 hjt) ?_⟩) h2;rw [Array.setIfInBounds_comm _ _ hji];exact h3.2.2
def okO2 (ops:Array Oper) (t:Nat) (ord:List Nat) (k:Nat):Bool:=
 let l:=lstO ops.size ord k
 let i:=ord.getD k 0
 let U:=behind .any ops l i ops.size []
 decide (k<ord.length) && (decide (k<ops.size) && (decide (i<ops.size) && (Region.noSelect ops && (okU .any ops l i U && (lateU ops t l i U && (Region.ready .any ops l).contains i)))))
theorem dS {t:Nat} {ord:List Nat} {k:Nat} {v:Value} {a:Act} {w:World} (hok:okO2 ops t ord k=true) (hQ:∀c a w,Q (.panic c) (a.put ((ops[ord.getD k 0]?).getD default).dst v) w->Q (.panic c) a w)
 (hy:YieldsIf P ops S ((ops[ord.getD k 0]?).getD default) v a) (hS:S w) (h:wpO P ops Q S t ord (k+1) (a.put ((ops[ord.getD k 0]?).getD default).dst v) w):wpO P ops Q S t ord k a w:=by
 simp only [okO2,bQ,decide_eq_true_eq] at hok;obtain ⟨h0,hk0,hk,h1,h2,h3,h4⟩:=hok;have ho:ops[ord.getD k 0]?=some ((ops[ord.getD k 0]?).getD default):=by rw [Array.getElem?_eq_getElem hk];rfl
 unfold wpO at h ⊢;rw [show ops.size - k=(ops.size - (k+1))+1 by omega];have hu:=List.all_eq_true.1 h2;refine jI (U:=behind .any ops (lstO ops.size ord k) (ord.getD k 0) ops.size []) ho (Region.noSelect_spec h1) hQ (fun j hj=>?_) _ _ a w (fun j hj=>?_) (fun j oj hj hne hun hno=>?_) (by simpa using h4) hy hS ?_
 ·have:=hu j hj;simp only [bQ,decide_eq_true_eq] at this;exact this.2
 ·have:=hu j hj;simp only [bQ,Bool.not_eq_true'] at this;exact this.1
 ·have:=List.all_eq_true.1 h3 j (List.mem_range.2 (Array.getElem?_eq_some_iff.1 hj).1);rw [ho,hj] at this;simp only [hun,Bool.false_or,Bool.or_eq_true,decide_eq_true_eq,bQ,List.contains_iff_mem] at this;rcases this with (h5 | h5) | h5
  ·exact absurd h5 hne
  ·exact absurd h5 hno
  ·exact h5
 ·rw [iD h0];exact h
end
end
section
open Go Go.RowKit
structure OkTy (rs:List ByteArray) (t:Ty):Prop where
 kind:0<=t.kind/\t.kind<=4
 ref:t.kind≠3->t.mu=false/\t.reg=0/\t.elem=0
 tup:t.kind≠4->t.flds=[]
 reg:t.kind=3->okI rs.length t.reg
structure OkRv (ls:List Lc) (rs:List ByteArray) (r:Rvl):Prop where
 kind:0<=r.kind/\r.kind<=4
 bor:r.kind≠1->r.reg=0/\r.mu=false/\r.place=⟨0,[]⟩
 isb:r.kind=1->r.op=0/\r.args=[]/\okI rs.length r.reg/\OkPl ls r.place
 op:r.kind=0\/r.kind=4->r.op=0
 use:r.kind=0->r.args.length=1
 una:r.kind=2->0<=r.op/\r.op<=1
 bin:r.kind=3->0<=r.op/\r.op<=5
 args:∀o∈r.args,OkOp ls o
theorem zL {op:Int} (h:0<=op/\op<=5):op=0\/op=1\/op=2\/op=3\/op=4\/op=5:=by omega
structure OkSt (ls:List Lc) (rs:List ByteArray) (s:Stm):Prop where
 kind:0<=s.kind/\s.kind<=2
 asg:s.kind=0->s.loc=0/\OkPl ls s.place/\OkRv ls rs s.rv
 oth:s.kind≠0->s.place=⟨0,[]⟩/\s.rv=⟨0,0,0,false,⟨0,[]⟩,[]⟩
 dead:s.kind=1->okI ls.length s.loc
 nop:s.kind=2->s.loc=0
structure OkTm (ls:List Lc) (t:Trm):Prop where
 kind:0<=t.kind/\t.kind<=5
 one:t.kind=0\/t.kind=3\/t.kind=4->t.targets.length=1
 two:t.kind=1->t.targets.length=2/\t.args.length=1
 none:t.kind=2\/t.kind=5->t.targets=[]
 noargs:t.kind≠1->t.kind≠3->t.args=[]
 zero:t.kind≠3->t.kind≠4->t.place=⟨0,[]⟩
 noname:t.kind≠3->t.name=⟨#[]⟩
 call:t.kind=3->isIdent t.name=true
 place:t.kind=3\/t.kind=4->OkPl ls t.place
 args:∀o∈t.args,OkOp ls o
theorem kind_six {k:Int} (h:0<=k/\k<=5):k=0\/k=1\/k=2\/k=3\/k=4\/k=5:=by omega
theorem rW {l:List Int} (h:l.length=1):∃a,l=[a]:=match l,h with
 | [a],_=>⟨a,rfl⟩
theorem zA {l:List Int} (h:l.length=2):∃a b,l=[a,b]:=match l,h with
 | [a,b],_=>⟨a,b,rfl⟩
structure OkBk (ls:List Lc) (rs:List ByteArray) (b:Blk):Prop where
 st:∀x∈b.stmts,OkSt ls rs x
 tm:OkTm ls b.term
def OkOut (n:Nat) (x:Int × Int):Prop:=okI n x.1/\okI n x.2
structure OkB (b:Bdy):Prop where
 name:isIdent b.name=true
 rs:NmRs b.regions
 out:∀x∈b.outl,OkOut b.regions.length x
 ty:∀t∈b.types,OkTy b.regions t
 ls:NmLs b.locals
 args:0<=b.args/\b.args<=b.locals.length
 bk:∀x∈b.blocks,OkBk b.locals b.regions x
theorem NmRs.all {rs:List ByteArray} (H:NmRs rs):∀x∈rs,isIdent x=true:=fun x hx=>by
 obtain ⟨i,e⟩:=List.mem_iff_getElem?.1 hx;exact H.id i x e
theorem NmLs.all {ls:List Lc} (H:NmLs ls):∀x∈ls,isIdent x.name=true:=fun x hx=>by
 obtain ⟨i,e⟩:=List.mem_iff_getElem?.1 hx;exact H.id i x e
end
section
open Go Go.RowKit Go.Maps
structure Rk (w:World) (b:Bdy) (bh:BH):Prop where
 at_:BdAt w b bh
 ok:DeclOk b
theorem Rk.keep {w w':World} {b:Bdy} {bh:BH} (h:Rk w b bh) (hb:Below w.heap.size w w'):Rk w' b bh:=⟨h.at_.keep hb,h.ok⟩
end
section
open Go Go.RowKit
def depK (d:List Int) (t:Ty):Int:=(depF d 0 (if t.kind=3 then [t.elem] else t.flds)).getD 0
def depsN:List Int->List Ty->List Int
 | d,[]=>d
 | d,t :: r=>depsN (d ++ [depK d t+1]) r
theorem jC:∀(d:List Int) (l:List Ty) (t:Ty),depsN d (l ++ [t])=depsN d l ++ [depK (depsN d l) t+1]
 | _,[],_=>rfl
 | d,x :: r,t=>by
   show depsN (d ++ [depK d x+1]) (r ++ [t])=_;rw [jC];rfl
end
section
open Go Go.RowKit Go.Shelf
def refsD (t:Ty):List Int:=if t.kind=3 then [t.elem] else t.flds
theorem tC:∀{d:List Int} {a k:Int} {l:List Int},depF d a l=some k->a<=k
 | _,_,_,[],h=>by injection h with h;omega
 | d,a,k,i :: r,h=>by
   unfold depF at h;split at h
   ·cases h
   ·split at h
    ·cases h
    ·have:=tC h;omega
theorem yO (d:List Int) (t:Ty):0<=depK d t:=by
 unfold depK;cases h:depF d 0 (if t.kind=3 then [t.elem] else t.flds) with
 | none=>simp
 | some k=>exact tC h
def OkD (ts:List Ty) (n:Nat):Prop:=∀i (h:i<ts.length),i<n->∃K,depF (depsN [] (ts.take i)) 0 (refsD ts[i])=some K/\K<=1000/\(ts[i].kind=3->ts[i].flds=[])
end
end Go.Proofs.YtmknfbfppmkcfaaGreatDoor
