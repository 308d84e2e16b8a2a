/-
  Parts of the proof: V35 V36 V37 V38 V38A V39A.
-/
import Derived.Test.YtcfchohkmkilpaaGreatDoorLP0
import Derived.Test.YtcfchohkmkilpaaGreatDoorLP8
import Derived.Test.YtcfchohkmkilpaaGreatDoorLP9
namespace Go.Proofs.YtcfchohkmkilpaaGreatDoor
set_option maxRecDepth 100000
set_option maxHeartbeats 16000000
section
open Go Go.RowKit Go.Maps
theorem iM {b:Bdy}:∀{l:List Opd},opsE b l []=0->∀o∈l,opE b o=0
 | [],_=>by simp
 | o :: r,h=>by
   by_cases he:opE b o=0
   ·rw [fE he] at h;intro x hx;rcases List.mem_cons.1 hx with rfl | hx
    ·exact he
    ·exact iM h x hx
   ·rw [eY he] at h;exact absurd h he
theorem uU (w:World) (x y:Value) (t:TypeId) (k:Nat) (hk:k=w.heap.size):(w.alloc (.cells #[x,y] t)).cell? ⟨k,0,none⟩=some x/\(w.alloc (.cells #[x,y] t)).cell? ⟨k,1,none⟩=some y:=by
 subst hk;exact ⟨cQ w [x,y] t 0 _ rfl,cQ w [x,y] t 1 _ rfl⟩
theorem iO {b:Bdy} {bh:BH} {r:Nat} {w:World} (H:Ck w b bh r) (rv:Rvl) (t:Nat) (ht:t<b.types.length) (tab:List (Int × Int)) (A B T:Option Addr) (c d tc:Nat) (hl:Slc 4 ROp w B d rv.args) (hT:Slc 2 RPr w T tc tab):
 Calls Tryz.prog 151 #[.agg (ckC b bh r).toArray,.agg (rvC rv A c B d).toArray,.int .i64 t,.slice T tab.length tc] w fun e' w'=>e' = .returned (.int .i64 (operE b rv t tab))/\Below w.heap.size w w':=by
 have hle:=hl.le;have hbig:=hl.big;have hle2:=hT.le;have hbig2:=hT.big;have HP:=aF (fun (W:World) (hb:Below w.heap.size w W)=>fJ (H.keep hb) rv.args [] B none d 0 (hl.keep ROp.keeps hb) ⟨Sl.nil,by simp,by omega⟩ (by simp));have HK:=aF (fun (W:World) (hb:Below w.heap.size w W) (o:Opd) (A:Option Addr) (c:Nat) (hp:Slc 2 RPj w A c o.place.proj) (ho:opE b o=0)=>rU (H.keep hb) o A c (hp.keep RPj.keeps hb) ho);have HL:=aF hl;have HTB:=aF hT;have HTY:=aF H.at_.typ;obtain ⟨R,hR⟩:∃R,operE b rv t tab=R:=⟨_,rfl⟩;rw [hR];have HR:=aF hR;clear hR hl hT H;unfold operE at HR;unfold ckC at HP HK ⊢;unfold rvC;by_cases h0:rv.op<0\/(tab.length:Int)<=rv.op
 ·have HF:Hid (R=14):=aF (by rw [<- HR.out,bA h0]);clear HR HP HK;go_enter Tryz.func151,Tryz.ntmps151
  go_wp2_with fail
  all_goals first
   | (exfalso;omega)
   | (go_ret;exact ⟨by rw [HF.out];rfl,aH⟩)
 have h1:¬rv.op<0:=by omega
 have h2:¬(tab.length:Int)<=rv.op:=by omega
 obtain ⟨n,hn⟩:=bG (show 0<=rv.op by omega);have hnl:n<tab.length:=by omega
 by_cases he:opsE b rv.args []=0
 case neg=>
  have HF:Hid (R=opsE b rv.args []):=aF (by rw [<- HR.out,aZ h0,bA he]);generalize opsE b rv.args []=eo at HP HF he;have e1:(eo != 0)=true:=by simp [he]
  clear HR HK he h0;go_enter Tryz.func151,Tryz.ntmps151
  go_wp2_with (go_at_call 118;refine (HP.out _ (bel2 _ _ _)).mono ?_;rintro e' w1 ⟨rfl,hb1⟩;have HB:=aF ((bel2 _ _ _).trans (hb1.mono (bel2 _ _ _).size));clear hb1)
  go_ret;exact ⟨by rw [HF.out];rfl,HB.out⟩
 case pos=>
 obtain ⟨bt,ot,rfl,hbt,hxt⟩:=HTB.out.sl.at_ hnl;obtain ⟨bb,oo,hA3,hbb,hxx⟩:=HTY.out.sl.at_ ht;obtain ⟨ty,hty⟩:∃ty,b.types[t]=ty:=⟨_,rfl⟩;obtain ⟨x,hx⟩:∃x,tab[n]=x:=⟨_,rfl⟩;rw [hty] at hxx;rw [hx] at hxt;obtain ⟨q0,-⟩:=hxx;obtain ⟨u0,u1⟩:=hxt;have HE:=aF (iM he);have hkt:kindT b (t:Int)=ty.kind:=by unfold kindT;simp [ht,hty]
 have HF:Hid (R=if rv.args.all (fun o=>decide (kindO b o=x.1))=true then fail22 (decide (ty.kind≠x.2)) else 22):=aF (by
  rw [<- HR.out,aZ h0,aZ (by simpa using he),hn];simp only [bV];rw [bD hnl,hx]
  simp only [hkt])
 rw [he] at HP;have Q0:=aF q0;clear HR h0 he hx hty hkt;obtain ⟨x1,x2⟩:=x;simp only at u0 u1 HF;rw [hA3] at HP HK ⊢;rw [hn];rw [hn] at h1 h2;go_enter Tryz.func151,Tryz.ntmps151
 go_wp2_with (go_at_call 118;refine (HP.out _ (bel2 _ _ _)).mono ?_;rintro e' w1 ⟨rfl,hb1⟩;have HB:=aF ((bel2 _ _ _).trans (hb1.mono (bel2 _ _ _).size));obtain ⟨y,z⟩:=cU hb1;have HY:=aF y;have HZ:=aF z;have y3:=y 3 _ rfl;obtain ⟨-,z1,-,-,-,-,z5⟩:=aS z;have v0:=cO HB.out u0;have v1:=cO HB.out u1;have hlw:=hb1.size;simp only [bI] at hlw;have hlw1:w.heap.size+1<w1.heap.size:=hlw;have hlw0:w.heap.size<w1.heap.size:=cC hlw;clear y z hb1)
 have HXC:=aF (uU w1 (.int .i64 x1) (.int .i64 x2) 207 _ rfl);have HY1:Hid (∀i v,[Value.string b.name,.slice bh.A1 b.regions.length bh.c1,.slice bh.A2 b.outl.length bh.c2,.slice (some ⟨bb,oo,none⟩) b.types.length bh.c3,.slice bh.A4 b.locals.length bh.c4,.int .i64 b.args,.slice bh.A5 b.blocks.length bh.c5,.pointer (some ⟨r,0,none⟩)][i]?=some v->(w1.alloc (.cells #[.int .i64 x1,.int .i64 x2] 207)).cell? ⟨w.heap.size,i,none⟩=some v):=aF (fun i v hi=>cO ((aX _ _).alloc (aY _) _) (HY.out i v hi));have HBL:=aF (HB.out.alloc HB.out.size (.cells #[.int .i64 x1,.int .i64 x2] 207));clear HY HZ;go_loopw [38] (fun v wr=>∃k:Nat,k<=rv.args.length/\v = .int .i64 k/\Hid (aA (bdM b bh.A1 bh.c1 bh.A2 bh.c2 (some ⟨bb,oo,none⟩) bh.c3 bh.A4 bh.c4 bh.A5 bh.c5 [.pointer (some ⟨r,0,none⟩)]) wr w.heap.size)/\Hid (wr.cell? ⟨w1.heap.size,0,none⟩=some (.int .i64 x1)/\wr.cell? ⟨w1.heap.size,1,none⟩=some (.int .i64 x2))/\Hid (Below w.heap.size w wr)/\w1.heap.size+1<=wr.heap.size/\Hid (R=if (rv.args.drop k).all (fun o=>decide (kindO b o=x1))=true then fail22 (decide (ty.kind≠x2)) else 22)) (fun v _=>rv.args.length - (intOf v).toNat)
 case atStart=>exact ⟨0,by omega,rfl,HY1,HXC,HBL,by simp,HF⟩
 case round=>
  clear HY1 HXC HBL HF;obtain ⟨k,hk,rfl,HX,HXC,HBR,hsz,hr⟩:=hrel;by_cases hlt:k<rv.args.length
  ·have hd:=cV hlt;obtain ⟨b5,o5,rfl,hb5,hx⟩:=HL.out.sl.at_ hlt;have he:=HE.out _ (bM hlt);obtain ⟨o,hxx⟩:∃o,rv.args[k]=o:=⟨_,rfl⟩;rw [hxx] at hd hx he;obtain ⟨p0,⟨p1,A2,c2,p2,hc1,hc2,hsl⟩,p3⟩:=hx;have HPJ:Hid (Slc 2 RPj w A2 c2 o.place.proj):=aF ⟨hsl,hc1,hc2⟩;replace p0:=cO HBR.out p0;replace p1:=cO HBR.out p1;replace p2:=cO HBR.out p2;replace p3:=cO HBR.out p3;rw [Nat.add_assoc (o5+k * 4) 1 1] at p2;have HKK:=aF (fun W hb=>HK.out W hb o A2 c2 HPJ.out he);have HQ:Hid (R=if kindO b o=x1 then (if (rv.args.drop (k+1)).all (fun o=>decide (kindO b o=x1))=true then fail22 (decide (ty.kind≠x2)) else 22) else 22):=aF (by rw [hr.out,hd,cB];by_cases h:kindO b o=x1 <;> simp [h]);clear hd hxx hsl hc1 hc2 hr he;unfold opC at HKK;generalize kindO b o=ko at HKK HQ;have HBA:=aF ((HBR.out.alloc HBR.out.size (.cells (opC o A2 c2).toArray 69)).drew);have HQ2:Hid ((ko=x1->R=(if (rv.args.drop (k+1)).all (fun o=>decide (kindO b o=x1))=true then fail22 (decide (ty.kind≠x2)) else 22))/\(ko≠x1->R=22)):=aF ⟨fun h=>by rw [HQ.out,bA h],fun h=>by rw [HQ.out,aZ h]⟩;clear HQ;go_wp2_with fail
   have hS:(∀i v,[Value.string b.name,.slice bh.A1 b.regions.length bh.c1,.slice bh.A2 b.outl.length bh.c2,.slice (some ⟨bb,oo,none⟩) b.types.length bh.c3,.slice bh.A4 b.locals.length bh.c4,.int .i64 b.args,.slice bh.A5 b.blocks.length bh.c5,.pointer (some ⟨r,0,none⟩)][i]?=some v->(wr.alloc (.cells (opC o A2 c2).toArray 69)).drew.cell? ⟨w.heap.size,i,none⟩=some v)/\(∀i v,(opC o A2 c2)[i]?=some v->(wr.alloc (.cells (opC o A2 c2).toArray 69)).drew.cell? ⟨wr.heap.size,i,none⟩=some v)/\(wr.alloc (.cells (opC o A2 c2).toArray 69)).drew.cell? ⟨w1.heap.size,0,none⟩=some (.int .i64 x1)/\(wr.alloc (.cells (opC o A2 c2).toArray 69)).drew.cell? ⟨w1.heap.size,1,none⟩=some (.int .i64 x2):=
    ⟨fun i v hi=>cO (((aX _ _).alloc (aY _) _).drew) (HX.out i v hi),cQ wr (opC o A2 c2) 69,cO (((aX _ _).alloc (aY _) _).drew) HXC.out.1,cO (((aX _ _).alloc (aY _) _).drew) HXC.out.2⟩
   clear p0 p1 p2 p3;refine cT (S:=fun X=>(aA (bdM b bh.A1 bh.c1 bh.A2 bh.c2 (some ⟨bb,oo,none⟩) bh.c3 bh.A4 bh.c4 bh.A5 bh.c5 [.pointer (some ⟨r,0,none⟩)]) X w.heap.size)/\(aA (opC o A2 c2) X wr.heap.size)/\X.cell? ⟨w1.heap.size,0,none⟩=some (.int .i64 x1)/\X.cell? ⟨w1.heap.size,1,none⟩=some (.int .i64 x2)) [0,1,3,4,2,5] (by kernel_rfl) ?_;(iterate 4 (refine cR (v:=?_) ?_ hS ?_;rotate_left;(next=>(rintro X ⟨hX,hY,s8,s9⟩;obtain ⟨s0,s1,s2,s3,s4,s5,s6,s7⟩:=aT hX;obtain ⟨u0,u1,u2,u3⟩:=aP hY;(try simp only [aI]);go_simp;rfl));simp only [aM]));(refine cY (fun K1 hK1=>?_);simp only [aM];rw [bA (by rfl)];go_simp);refine (HKK.out _ HBA.out).mono ?_;rintro e' w2 ⟨rfl,hb⟩;replace hS:=bJ (fun i v hi=>cO hb (hS.1 i v hi)) (bJ (fun i v hi=>cO hb (hS.2.1 i v hi)) (bJ (cO hb hS.2.2.1) (cO hb hS.2.2.2)));have HW2:=aF (HBA.out.trans (hb.mono HBA.out.size));have hsz3:=hb.size;have hsz4:wr.heap.size+1<=w2.heap.size:=by simpa using hsz3
   clear hb hsz3;refine hK1.out _ _ (fun _=>hS) ?_;clear hK1;have HX2:=aF hS.1;have HXC2:=aF hS.2.2;((refine cR (v:=?_) ?_ hS ?_;rotate_left;(next=>(rintro X -;(try simp only [aI]);go_simp;rfl));simp only [aM]))
   refine cZ ?_;clear hS;by_cases hkx:ko=x1
   ·have e1:(ko != x1)=false:=by simp [hkx]
    have HF:=aF (HQ2.out.1 hkx);clear HQ2 hkx;go_wp2_with fail
    go_roundw
    case rel=>exact ⟨k+1,by omega,by go_num,HX2,HXC2,HW2,by omega,HF⟩
    case measure=>simp [intOf];omega
   ·have e1:(ko != x1)=true:=by simp [hkx]
    have HF:=aF (HQ2.out.2 hkx);clear HQ2 hkx;go_wp2_with fail
    go_ret;exact ⟨by rw [HF.out];rfl,HW2.out⟩
  ·have HF:Hid (R=fail22 (decide (ty.kind≠x2))):=aF (by rw [hr.out,bE (by omega:rv.args.length<=k)];rfl);clear hr;go_wp2_with fail
   have hS:=bJ HX.out (bJ HXC.out (cO HBR.out Q0.out));refine cT (S:=fun X=>(aA (bdM b bh.A1 bh.c1 bh.A2 bh.c2 (some ⟨bb,oo,none⟩) bh.c3 bh.A4 bh.c4 bh.A5 bh.c5 [.pointer (some ⟨r,0,none⟩)]) X w.heap.size)/\(X.cell? ⟨w1.heap.size,0,none⟩=some (.int .i64 x1)/\X.cell? ⟨w1.heap.size,1,none⟩=some (.int .i64 x2))/\X.cell? ⟨bb,oo+t * 5,none⟩=some (.int .i64 ty.kind)) [0,1,2,3,4,5,6,7,8,9,10,11] (by kernel_rfl) ?_;(iterate 10 (refine cR (v:=?_) ?_ hS ?_;rotate_left;(next=>(rintro X ⟨hX,⟨s8,s9⟩,sT⟩;have s3:=hX 3 _ rfl;(try simp only [aI]);go_simp;rfl));simp only [aM]));(refine cY (fun K1 hK1=>?_);simp only [aM];rw [bA (by rfl)];go_simp);refine (eC _ _).mono ?_;rintro e' w3 ⟨rfl,hw⟩;obtain rfl:=hw.symm;refine hK1.out _ _ (fun _=>hS) ?_;((refine cR (v:=?_) ?_ hS ?_;rotate_left;(next=>(rintro X -;(try simp only [aI]);go_simp;rfl));simp only [aM]))
   refine cZ ?_;go_wp2_with fail
   go_ret;exact ⟨by rw [HF.out];show Ending.returned (.int .i64 (fail22 (ty.kind != x2)))=_;have e:(ty.kind != x2)=decide (ty.kind≠x2):=(by rw [bQ];simp);rw [e],HBR.out.drew⟩
theorem uK {b:Bdy} {bh:BH} {r:Nat} {w:World} (H:Ck w b bh r) (rv:Rvl) (t:Nat) (ht:t<b.types.length) (A B:Option Addr) (c d:Nat) (hp:Slc 2 RPj w A c rv.place.proj):
 Calls Tryz.prog 150 #[.agg (ckC b bh r).toArray,.agg (rvC rv A c B d).toArray,.int .i64 t] w fun e' w'=>e' = .returned (.int .i64 (borE b rv t))/\Below w.heap.size w w':=by
 have HT:=aF (fun W (hb:Below w.heap.size w W)=>eO b bh r rv.place A c W (H.keep hb).at_ (hp.keep RPj.keeps hb) H.ok.okay);have HM:=aF (fun W (hb:Below w.heap.size w W)=>kF b.types b.locals rv.place.loc rv.place.proj bh.A3 bh.A4 A bh.c3 bh.c4 c W (H.keep hb).at_.typ (H.keep hb).at_.loc (hp.keep RPj.keeps hb) H.ok.okay);have HG:=aF (fun W (hb:Below w.heap.size w W)=>pT b.types b.locals rv.place.loc rv.place.proj bh.A3 bh.A4 A bh.c3 bh.c4 c W (H.keep hb).at_.typ (H.keep hb).at_.loc (hp.keep RPj.keeps hb) H.ok.okay);have HO:=aF (fun W (hb:Below w.heap.size w W) (x:Int)=>jF b.outl b.regions.length x rv.reg r W (H.keep hb).rel H.ok.pairs (by have:=H.ok.nreg;omega) H.ok.nout);change Hid (∀W,Below w.heap.size w W->Calls Tryz.prog 148 _ W fun e' w'=>e' = .returned (.bool (mutB b rv.place))/\Below W.heap.size W w') at HM;have hbl:=H.at_.reg.le;have hbg:=H.at_.reg.big;obtain ⟨bb,oo,hA3,hbb,hxx⟩:=H.at_.typ.sl.at_ ht;have hle3:=H.at_.typ.le;have hbig3:=H.at_.typ.big;obtain ⟨ty,hty⟩:∃ty,b.types[t]=ty:=⟨_,rfl⟩;rw [hty] at hxx;obtain ⟨q0,q1,q2,q3,A5,c5,q4,-,-,-⟩:=hxx;obtain ⟨R,hR⟩:∃R,borE b rv t=R:=⟨_,rfl⟩;rw [hR]
 have HR:Hid (R=if (tyB b rv.place).2≠0 then (tyB b rv.place).2 else if rv.reg<0\/(b.regions.length:Int)<=rv.reg then 3 else if ty.kind≠3\/ty.reg≠rv.reg\/ty.mu≠rv.mu\/ty.elem≠(tyB b rv.place).1 then 22 else if rv.mu=true/\mutB b rv.place=false then 22 else if ((refsOf b.types b.locals rv.place.loc rv.place.proj).1.map (·.reg)).all (fun x=>outB b.outl b.regions.length x rv.reg)=true then 0 else 22):=aF (by
  rw [<- hR,borE];simp only [bV];rw [bD ht,hty,List.all_map]
  rfl)
 have HLN:Hid (((refsOf b.types b.locals rv.place.loc rv.place.proj).1.map (·.reg)).length=(refsOf b.types b.locals rv.place.loc rv.place.proj).1.length):=aF (cF _);generalize (refsOf b.types b.locals rv.place.loc rv.place.proj).1.length=nl at HLN HG;generalize (refsOf b.types b.locals rv.place.loc rv.place.proj).1.map (·.reg)=rs at HG HR HLN;generalize tyB b rv.place=q at HT HR;generalize mutB b rv.place=mb at HM HR;obtain ⟨ti,te⟩:=q;simp only at HR HT;clear hR hty H hp;unfold ckC at HT ⊢;unfold rvC;rw [hA3] at HT HM HG ⊢;by_cases he:te=0
 case neg=>
  have HF:Hid (R=te):=aF (by rw [HR.out,bA he]);have e1:(te != 0)=true:=by simp [he]
  clear HR he HM HG HO;go_enter Tryz.func150,Tryz.ntmps150
  go_wp2_with (go_at_call 119;refine (HT.out _ (bel2 _ _ _)).mono ?_;rintro e' w1 ⟨rfl,hb1⟩;have HB:=aF ((bel2 _ _ _).trans (hb1.mono (bel2 _ _ _).size));obtain ⟨y,z⟩:=cU hb1;have HY:=aF y;have HZ:=aF z;obtain ⟨y0,y1,y2,y3,y4,y5,y6,y7⟩:=aT HY.out;obtain ⟨z0,z1,z2,z3,z4,z5,z6⟩:=aS HZ.out;have v0:=cO HB.out q0;have v1:=cO HB.out q1;have v2:=cO HB.out q2;have v3:=cO HB.out q3;have v4:=cO HB.out q4;have hlw:=hb1.size;simp only [bI] at hlw;have hlw1:w.heap.size+1<w1.heap.size:=hlw;have hlw0:w.heap.size<w1.heap.size:=cC hlw;clear y z hb1)
  go_ret;exact ⟨by rw [HF.out];rfl,HB.out.alloc HB.out.size _⟩
 case pos=>
 subst he;by_cases h0:rv.reg<0\/(b.regions.length:Int)<=rv.reg
 case pos=>
  have HF:Hid (R=3):=aF (by rw [HR.out,aZ (by simp),bA h0]);clear HR HM HG HO;go_enter Tryz.func150,Tryz.ntmps150
  go_wp2_with (go_at_call 119;refine (HT.out _ (bel2 _ _ _)).mono ?_;rintro e' w1 ⟨rfl,hb1⟩;have HB:=aF ((bel2 _ _ _).trans (hb1.mono (bel2 _ _ _).size));obtain ⟨y,z⟩:=cU hb1;have HY:=aF y;have HZ:=aF z;obtain ⟨y0,y1,y2,y3,y4,y5,y6,y7⟩:=aT HY.out;obtain ⟨z0,z1,z2,z3,z4,z5,z6⟩:=aS HZ.out;have v0:=cO HB.out q0;have v1:=cO HB.out q1;have v2:=cO HB.out q2;have v3:=cO HB.out q3;have v4:=cO HB.out q4;have hlw:=hb1.size;simp only [bI] at hlw;have hlw1:w.heap.size+1<w1.heap.size:=hlw;have hlw0:w.heap.size<w1.heap.size:=cC hlw;clear y z hb1)
  all_goals first
   | (exfalso;omega)
   | (go_ret;exact ⟨by rw [HF.out];rfl,HB.out.alloc HB.out.size _⟩)
 case neg=>
 have h1:¬rv.reg<0:=by omega
 have h2:¬(b.regions.length:Int)<=rv.reg:=by omega
 have HR2:Hid (R=if ty.kind≠3\/ty.reg≠rv.reg\/ty.mu≠rv.mu\/ty.elem≠ti then 22 else if rv.mu=true/\mb=false then 22 else if rs.all (fun x=>outB b.outl b.regions.length x rv.reg)=true then 0 else 22):=aF (by rw [HR.out,aZ (by simp),aZ h0]);clear HR h0;obtain ⟨p1,hp1⟩:∃p,(ty.kind != 3)=p:=⟨_,rfl⟩;obtain ⟨p2,hp2⟩:∃p,(ty.reg != rv.reg)=p:=⟨_,rfl⟩;obtain ⟨p3,hp3⟩:∃p,(ty.mu != rv.mu)=p:=⟨_,rfl⟩;obtain ⟨p4,hp4⟩:∃p,(ty.elem != ti)=p:=⟨_,rfl⟩
 have HR3:Hid (R=if p1=true\/p2=true\/p3=true\/p4=true then 22 else if rv.mu=true/\mb=false then 22 else if rs.all (fun x=>outB b.outl b.regions.length x rv.reg)=true then 0 else 22):=aF (by
  rw [HR2.out,<- hp1,<- hp2,<- hp3,<- hp4]
  simp only [bne_iff_ne])
 clear HR2;by_cases hor:p1=true\/p2=true\/p3=true\/p4=true
 ·have HF:Hid (R=22):=aF (by rw [HR3.out,bA hor]);rcases (show p1=true\/(p1=false/\p2=true)\/(p1=false/\p2=false/\p3=true)\/(p1=false/\p2=false/\p3=false/\p4=true) by revert hor;cases p1 <;> cases p2 <;> cases p3 <;> cases p4 <;> simp) with rfl | ⟨rfl,rfl⟩ | ⟨rfl,rfl,rfl⟩ | ⟨rfl,rfl,rfl,rfl⟩
  all_goals
   clear hor HR3 HM HG HO;go_enter Tryz.func150,Tryz.ntmps150
   go_wp2_with (go_at_call 119;refine (HT.out _ (bel2 _ _ _)).mono ?_;rintro e' w1 ⟨rfl,hb1⟩;have HB:=aF ((bel2 _ _ _).trans (hb1.mono (bel2 _ _ _).size));obtain ⟨y,z⟩:=cU hb1;have HY:=aF y;have HZ:=aF z;obtain ⟨y0,y1,y2,y3,y4,y5,y6,y7⟩:=aT HY.out;obtain ⟨z0,z1,z2,z3,z4,z5,z6⟩:=aS HZ.out;have v0:=cO HB.out q0;have v1:=cO HB.out q1;have v2:=cO HB.out q2;have v3:=cO HB.out q3;have v4:=cO HB.out q4;have hlw:=hb1.size;simp only [bI] at hlw;have hlw1:w.heap.size+1<w1.heap.size:=hlw;have hlw0:w.heap.size<w1.heap.size:=cC hlw;clear y z hb1)
   all_goals first
    | (exfalso;omega)
    | (go_ret;exact ⟨by rw [HF.out];rfl,HB.out.alloc HB.out.size _⟩)
    | (exfalso;simp_all;done)
 have HR4:Hid (R=if rv.mu=true/\mb=false then 22 else if rs.all (fun x=>outB b.outl b.regions.length x rv.reg)=true then 0 else 22):=aF (by rw [HR3.out,aZ hor]);obtain ⟨rfl,rfl,rfl,rfl⟩:p1=false/\p2=false/\p3=false/\p4=false:=by revert hor;cases p1 <;> cases p2 <;> cases p3 <;> cases p4 <;> simp
 clear HR3 hor;obtain ⟨mu,hmu⟩:∃mu,rv.mu=mu:=⟨_,rfl⟩;rw [hmu] at HR4 hp3 ⊢;have hm3:ty.mu=mu:=by revert hp3;cases ty.mu <;> cases mu <;> simp
 clear hp3 hmu;by_cases hbad:mu=true/\mb=false
 ·obtain ⟨rfl,rfl⟩:=hbad;have HF:Hid (R=22):=aF (by rw [HR4.out];simp);clear HR4 HG HO;go_enter Tryz.func150,Tryz.ntmps150
  go_wp2_with (first | (go_at_call 119;refine (HT.out _ (bel2 _ _ _)).mono ?_;rintro e' w1 ⟨rfl,hb1⟩;have HB:=aF ((bel2 _ _ _).trans (hb1.mono (bel2 _ _ _).size));obtain ⟨y,z⟩:=cU hb1;have HY:=aF y;have HZ:=aF z;obtain ⟨y0,y1,y2,y3,y4,y5,y6,y7⟩:=aT HY.out;obtain ⟨z0,z1,z2,z3,z4,z5,z6⟩:=aS HZ.out;have v0:=cO HB.out q0;have v1:=cO HB.out q1;have v2:=cO HB.out q2;have v3:=cO HB.out q3;have v4:=cO HB.out q4;have hlw:=hb1.size;simp only [bI] at hlw;have hlw1:w.heap.size+1<w1.heap.size:=hlw;have hlw0:w.heap.size<w1.heap.size:=cC hlw;clear y z hb1) | (go_at_call 148;refine (HM.out _ (HB.out.alloc HB.out.size _)).mono ?_;rintro e' w2 ⟨rfl,hb2⟩;have HB2:=aF ((HB.out.alloc HB.out.size _).trans (hb2.mono (HB.out.alloc HB.out.size _).size));clear hb2))
  all_goals try (exfalso;omega)
  go_ret;exact ⟨by rw [HF.out];rfl,HB2.out⟩
 have HQ:Hid (R=if rs.all (fun x=>outB b.outl b.regions.length x rv.reg)=true then 0 else 22):=aF (by rw [HR4.out,aZ hbad]);clear HR4;rcases (show mu=false\/(mu=true/\mb=true) by revert hbad;cases mu <;> cases mb <;> simp) with rfl | ⟨rfl,rfl⟩
 ·clear hbad HM;go_enter Tryz.func150,Tryz.ntmps150
  go_wp2_with (first | (go_at_call 119;refine (HT.out _ (bel2 _ _ _)).mono ?_;rintro e' w1 ⟨rfl,hb1⟩;have HB:=aF ((bel2 _ _ _).trans (hb1.mono (bel2 _ _ _).size));obtain ⟨y,z⟩:=cU hb1;have HY:=aF y;have HZ:=aF z;obtain ⟨y0,y1,y2,y3,y4,y5,y6,y7⟩:=aT HY.out;obtain ⟨z0,z1,z2,z3,z4,z5,z6⟩:=aS HZ.out;have v0:=cO HB.out q0;have v1:=cO HB.out q1;have v2:=cO HB.out q2;have v3:=cO HB.out q3;have v4:=cO HB.out q4;have hlw:=hb1.size;simp only [bI] at hlw;have hlw1:w.heap.size+1<w1.heap.size:=hlw;have hlw0:w.heap.size<w1.heap.size:=cC hlw;clear y z hb1) | (go_at_call 190;refine (HG.out _ (HB.out.alloc HB.out.size _)).mono ?_;rintro e' w3 ⟨A8,c8,rfl,hs8,hb2⟩;have HB3:=aF ((HB.out.alloc HB.out.size _).trans (hb2.mono (HB.out.alloc HB.out.size _).size));have HY3:=aF (dN HY.out hb2);have HZ3:=aF (dN HZ.out hb2);have HS8:=aF hs8;have hs8l:=hs8.le;have hs8b:=hs8.big;have hsz3:=hb2.size;simp only [bI] at hsz3;clear hb2 hs8))
  all_goals try (exfalso;omega)
  rw [HLN.out] at hs8l;go_loopw [91] (fun v wr=>∃k:Nat,k<=nl/\v = .int .i64 k/\Hid (aA (bdM b bh.A1 bh.c1 bh.A2 bh.c2 (some ⟨bb,oo,none⟩) bh.c3 bh.A4 bh.c4 bh.A5 bh.c5 [.pointer (some ⟨r,0,none⟩)]) wr w.heap.size)/\Hid (aA [Value.int .i64 rv.kind,.int .i64 rv.op,.int .i64 rv.reg,.bool false,.int .i64 rv.place.loc,.slice A rv.place.proj.length c,.slice B rv.args.length d] wr (w.heap.size+1))/\Hid (Below w.heap.size w wr)/\Hid (Below w3.heap.size w3 wr)/\Hid (R=if (rs.drop k).all (fun x=>outB b.outl b.regions.length x rv.reg)=true then 0 else 22)) (fun v _=>nl - (intOf v).toNat)
  case atStart=>exact ⟨0,by omega,rfl,HY3,HZ3,HB3,aF (aX _ _),HQ⟩
  case round=>
   clear HQ HY3 HZ3 HB3;obtain ⟨k,hk,rfl,HYR,HZR,HBR,HB9,hr⟩:=hrel;have y7:=HYR.out 7 _ rfl;have z2:=HZR.out 2 _ rfl;by_cases hlt:k<nl
   ·have hlt2:k<rs.length:=by rw [HLN.out];exact hlt
    have hd:=cV hlt2;obtain ⟨b8,o8,rfl,hb8,hx⟩:=(HS8.out.keep RInt.keeps HB9.out).sl.at_ hlt2;obtain ⟨x,hxx⟩:∃x,rs[k]=x:=⟨_,rfl⟩;rw [hxx] at hx hd;have x0:wr.cell? ⟨b8,o8+k,none⟩=some (.int .i64 x):=(by simpa [RInt] using hx);have HOX:=aF (HO.out wr HBR.out x);have HQX:Hid (R=if outB b.outl b.regions.length x rv.reg=true then (if (rs.drop (k+1)).all (fun x=>outB b.outl b.regions.length x rv.reg)=true then 0 else 22) else 22):=aF (by rw [hr.out,hd,cB];cases outB b.outl b.regions.length x rv.reg <;> rfl);clear hx hd hxx hr hlt2;generalize outB b.outl b.regions.length x rv.reg=ob at HOX HQX;cases ob
    ·have HF:Hid (R=22):=HQX;go_wp2_with (go_at_call 191;refine HOX.out.mono ?_;rintro e' w4 ⟨rfl,hb4⟩;have HB4:=aF (HBR.out.trans (hb4.mono HBR.out.size));clear hb4)
     go_ret;exact ⟨by rw [HF.out];rfl,HB4.out⟩
    ·have HF:Hid (R=if (rs.drop (k+1)).all (fun x=>outB b.outl b.regions.length x rv.reg)=true then 0 else 22):=HQX;go_wp2_with (go_at_call 191;refine HOX.out.mono ?_;rintro e' w4 ⟨rfl,hb4⟩;have HB4:=aF (HBR.out.trans (hb4.mono HBR.out.size));have HB5:=aF (HB9.out.trans (hb4.mono HB9.out.size));have HY5:=aF (cP HYR.out hb4);have HZ5:=aF (cP HZR.out hb4);clear hb4)
     go_roundw
     case rel=>exact ⟨k+1,by omega,by go_num,HY5,HZ5,HB4,HB5,HF⟩
     case measure=>simp [intOf];omega
   ·have HF:Hid (R=0):=aF (by rw [hr.out,bE (by rw [HLN.out];omega:rs.length<=k)];rfl);clear hr;go_wp2_with fail
    go_ret;exact ⟨by rw [HF.out];rfl,HBR.out⟩
 ·clear hbad;go_enter Tryz.func150,Tryz.ntmps150
  go_wp2_with (first | (go_at_call 119;refine (HT.out _ (bel2 _ _ _)).mono ?_;rintro e' w1 ⟨rfl,hb1⟩;have HB:=aF ((bel2 _ _ _).trans (hb1.mono (bel2 _ _ _).size));obtain ⟨y,z⟩:=cU hb1;have HY:=aF y;have HZ:=aF z;obtain ⟨y0,y1,y2,y3,y4,y5,y6,y7⟩:=aT HY.out;obtain ⟨z0,z1,z2,z3,z4,z5,z6⟩:=aS HZ.out;have v0:=cO HB.out q0;have v1:=cO HB.out q1;have v2:=cO HB.out q2;have v3:=cO HB.out q3;have v4:=cO HB.out q4;have hlw:=hb1.size;simp only [bI] at hlw;have hlw1:w.heap.size+1<w1.heap.size:=hlw;have hlw0:w.heap.size<w1.heap.size:=cC hlw;clear y z hb1) | (go_at_call 148;refine (HM.out _ (HB.out.alloc HB.out.size _)).mono ?_;rintro e' w2 ⟨rfl,hb2⟩;have HB2:=aF ((HB.out.alloc HB.out.size _).trans (hb2.mono (HB.out.alloc HB.out.size _).size));have HY2:=aF (dN HY.out hb2);have HZ2:=aF (dN HZ.out hb2);clear HY HZ;have HY:=HY2;have HZ:=HZ2;obtain ⟨y0,y1,y2,y3,y4,y5,y6,y7⟩:=aT HY.out;obtain ⟨z0,z1,z2,z3,z4,z5,z6⟩:=aS HZ.out;have hsz2:=hb2.size;simp only [bI] at hsz2;clear hb2) | (go_at_call 190;refine (HG.out _ HB2.out).mono ?_;rintro e' w3 ⟨A8,c8,rfl,hs8,hb2⟩;have HB3:=aF (HB2.out.trans (hb2.mono HB2.out.size));have HY3:=aF (cP HY2.out hb2);have HZ3:=aF (cP HZ2.out hb2);have HS8:=aF hs8;have hs8l:=hs8.le;have hs8b:=hs8.big;have hsz3:=hb2.size;clear hb2 hs8))
  all_goals try (exfalso;omega)
  rw [HLN.out] at hs8l;go_loopw [91] (fun v wr=>∃k:Nat,k<=nl/\v = .int .i64 k/\Hid (aA (bdM b bh.A1 bh.c1 bh.A2 bh.c2 (some ⟨bb,oo,none⟩) bh.c3 bh.A4 bh.c4 bh.A5 bh.c5 [.pointer (some ⟨r,0,none⟩)]) wr w.heap.size)/\Hid (aA [Value.int .i64 rv.kind,.int .i64 rv.op,.int .i64 rv.reg,.bool true,.int .i64 rv.place.loc,.slice A rv.place.proj.length c,.slice B rv.args.length d] wr (w.heap.size+1))/\Hid (Below w.heap.size w wr)/\Hid (Below w3.heap.size w3 wr)/\Hid (R=if (rs.drop k).all (fun x=>outB b.outl b.regions.length x rv.reg)=true then 0 else 22)) (fun v _=>nl - (intOf v).toNat)
  case atStart=>exact ⟨0,by omega,rfl,HY3,HZ3,HB3,aF (aX _ _),HQ⟩
  case round=>
   clear HQ HY3 HZ3 HB3;obtain ⟨k,hk,rfl,HYR,HZR,HBR,HB9,hr⟩:=hrel;have y7:=HYR.out 7 _ rfl;have z2:=HZR.out 2 _ rfl;by_cases hlt:k<nl
   ·have hlt2:k<rs.length:=by rw [HLN.out];exact hlt
    have hd:=cV hlt2;obtain ⟨b8,o8,rfl,hb8,hx⟩:=(HS8.out.keep RInt.keeps HB9.out).sl.at_ hlt2;obtain ⟨x,hxx⟩:∃x,rs[k]=x:=⟨_,rfl⟩;rw [hxx] at hx hd;have x0:wr.cell? ⟨b8,o8+k,none⟩=some (.int .i64 x):=(by simpa [RInt] using hx);have HOX:=aF (HO.out wr HBR.out x);have HQX:Hid (R=if outB b.outl b.regions.length x rv.reg=true then (if (rs.drop (k+1)).all (fun x=>outB b.outl b.regions.length x rv.reg)=true then 0 else 22) else 22):=aF (by rw [hr.out,hd,cB];cases outB b.outl b.regions.length x rv.reg <;> rfl);clear hx hd hxx hr hlt2;generalize outB b.outl b.regions.length x rv.reg=ob at HOX HQX;cases ob
    ·have HF:Hid (R=22):=HQX;go_wp2_with (go_at_call 191;refine HOX.out.mono ?_;rintro e' w4 ⟨rfl,hb4⟩;have HB4:=aF (HBR.out.trans (hb4.mono HBR.out.size));clear hb4)
     go_ret;exact ⟨by rw [HF.out];rfl,HB4.out⟩
    ·have HF:Hid (R=if (rs.drop (k+1)).all (fun x=>outB b.outl b.regions.length x rv.reg)=true then 0 else 22):=HQX;go_wp2_with (go_at_call 191;refine HOX.out.mono ?_;rintro e' w4 ⟨rfl,hb4⟩;have HB4:=aF (HBR.out.trans (hb4.mono HBR.out.size));have HB5:=aF (HB9.out.trans (hb4.mono HB9.out.size));have HY5:=aF (cP HYR.out hb4);have HZ5:=aF (cP HZR.out hb4);clear hb4)
     go_roundw
     case rel=>exact ⟨k+1,by omega,by go_num,HY5,HZ5,HB4,HB5,HF⟩
     case measure=>simp [intOf];omega
   ·have HF:Hid (R=0):=aF (by rw [hr.out,bE (by rw [HLN.out];omega:rs.length<=k)];rfl);clear hr;go_wp2_with fail
    go_ret;exact ⟨by rw [HF.out];rfl,HBR.out⟩
structure TabsOk (w:World):Prop where
 un:Slc 2 RPr w (some ⟨0,0,none⟩) 2 iD
 bi:Slc 2 RPr w (some ⟨1,0,none⟩) 6 gB
theorem TabsOk.keep {w w':World} (h:TabsOk w) (hb:Below w.heap.size w w'):TabsOk w':=⟨h.un.keep RPr.keeps hb,h.bi.keep RPr.keeps hb⟩
theorem zI (W:World) (x:Int) (T:TypeId) (k:Nat) (hk:k=W.heap.size):Slc 1 RInt (W.alloc (.cells #[.int .i64 x] T)) (some ⟨k,0,none⟩) 1 [x]:=by
 subst hk;refine ⟨fun _=>⟨_,_,rfl,by simp,fun i q hi=>?_⟩,by simp,by omega⟩;show (W.alloc _).cell? ⟨W.heap.size,0+i * 1,none⟩=_;rw [World.cell?_alloc_at _ _ _ _ (by simp),Nat.zero_add,Nat.mul_one];match i,hi with
 | 0,hi=>simp at hi;subst hi;rfl
 | i+1,hi=>simp at hi
theorem sY {b:Bdy} {bh:BH} {r:Nat} {w:World} (H:Ck w b bh r) (hT:TabsOk w) (rv:Rvl) (t:Nat) (ht:t<b.types.length) (A B:Option Addr) (c d:Nat) (hp:Slc 2 RPj w A c rv.place.proj) (hl:Slc 4 ROp w B d rv.args):
 Calls Tryz.prog 113 #[.agg (ckC b bh r).toArray,.agg (rvC rv A c B d).toArray,.int .i64 t] w fun e' w'=>e' = .returned (.int .i64 (rvE b rv t))/\Below w.heap.size w w':=by
 have HU:=aF (fun W=>sR rv A B c d W);obtain ⟨R,hR⟩:∃R,rvE b rv t=R:=⟨_,rfl⟩;rw [hR]
 have HR:Hid (R=if rv.kind<0\/4<rv.kind then 14 else if unusedR rv=false then 2 else if rv.kind=0 then opsE b rv.args [(t:Int)] else if rv.kind=1 then borE b rv t else if rv.kind=2 then operE b rv t iD else if rv.kind=3 then operE b rv t gB else if b.types[t].kind≠4\/b.types[t].flds.length≠rv.args.length then 22 else opsE b rv.args b.types[t].flds):=aF (by
  rw [<- hR,rvE];simp only [bV]
  rw [bD ht])
 have HH:=aF H;have HT:=aF hT;have HL:=aF hl;have HP:=aF hp;have hle:=hl.le;have hbig:=hl.big;clear hR H hT hl hp;unfold ckC;by_cases h0:rv.kind<0\/4<rv.kind
 ·have HF:Hid (R=14):=aF (by rw [HR.out,bA h0]);clear HR HU;unfold rvC;go_enter Tryz.func113,Tryz.ntmps113
  go_wp2_with fail
  all_goals first
   | (exfalso;omega)
   | (go_ret;exact ⟨by rw [HF.out];rfl,aH⟩)
 obtain ⟨u,hu⟩:∃u,unusedR rv=u:=⟨_,rfl⟩;rw [hu] at HU HR;cases u
 ·have HF:Hid (R=2):=aF (by rw [HR.out,aZ h0,bA rfl]);have h1:¬rv.kind<0:=by omega
  have h2:¬4<rv.kind:=by omega
  clear HR h0;unfold rvC at HU ⊢;go_enter Tryz.func113,Tryz.ntmps113
  go_wp2_with (go_at_call 149;refine (HU.out _).mono ?_;rintro e' w1 ⟨rfl,hb1⟩;have HB:=aF ((bel2 _ _ _).trans (hb1.mono (bel2 _ _ _).size));obtain ⟨y,z⟩:=cU hb1;have HY:=aF y;have HZ:=aF z;obtain ⟨y0,y1,y2,y3,y4,y5,y6,y7⟩:=aT HY.out;obtain ⟨z0,z1,z2,z3,z4,z5,z6⟩:=aS HZ.out;have hlw:=hb1.size;simp only [bI] at hlw;have hlw1:w.heap.size+1<w1.heap.size:=hlw;have hlw0:w.heap.size<w1.heap.size:=cC hlw;clear y z hb1)
  all_goals first
   | (exfalso;omega)
   | (go_ret;exact ⟨by rw [HF.out];rfl,HB.out⟩)
 have HR2:Hid (R=if rv.kind=0 then opsE b rv.args [(t:Int)] else if rv.kind=1 then borE b rv t else if rv.kind=2 then operE b rv t iD else if rv.kind=3 then operE b rv t gB else if b.types[t].kind≠4\/b.types[t].flds.length≠rv.args.length then 22 else opsE b rv.args b.types[t].flds):=aF (by rw [HR.out,aZ h0,aZ (by simp)]);clear HR;rcases (show rv.kind=0\/rv.kind=1\/rv.kind=2\/rv.kind=3\/rv.kind=4 by omega) with hk | hk | hk | hk | hk
 ·have HF:Hid (R=opsE b rv.args [(t:Int)]):=aF (by rw [HR2.out,bA hk]);have HC:=aF (fun (W:World) (hb:Below w.heap.size w W) (C:Option Addr) (f:Nat) (hf:Slc 1 RInt W C f [(t:Int)])=>fJ (HH.out.keep hb) rv.args [(t:Int)] B C d f (HL.out.keep ROp.keeps hb) hf (by simp;omega));clear HR2 hu h0;unfold rvC at HU ⊢;unfold ckC at HC;rw [hk] at HU ⊢;go_enter Tryz.func113,Tryz.ntmps113
  go_wp2_with (first | (go_at_call 149;refine (HU.out _).mono ?_;rintro e' w1 ⟨rfl,hb1⟩;have HB:=aF ((bel2 _ _ _).trans (hb1.mono (bel2 _ _ _).size));obtain ⟨y,z⟩:=cU hb1;have HY:=aF y;have HZ:=aF z;obtain ⟨y0,y1,y2,y3,y4,y5,y6,y7⟩:=aT HY.out;obtain ⟨z0,z1,z2,z3,z4,z5,z6⟩:=aS HZ.out;have hlw:=hb1.size;simp only [bI] at hlw;have hlw1:w.heap.size+1<w1.heap.size:=hlw;have hlw0:w.heap.size<w1.heap.size:=cC hlw;clear y z hb1) | (go_at_call 118;refine (HC.out _ (HB.out.alloc HB.out.size _) _ _ (zI _ _ _ _ rfl)).mono ?_;rintro e' w2 ⟨rfl,hb2⟩;have HB2:=aF ((HB.out.alloc HB.out.size _).trans (hb2.mono (HB.out.alloc HB.out.size _).size));clear hb2))
  go_ret;exact ⟨by rw [HF.out];rfl,HB2.out⟩
 ·have HF:Hid (R=borE b rv t):=aF (by rw [HR2.out,aZ (by omega),bA hk]);have HC:=aF (fun (W:World) (hb:Below w.heap.size w W)=>uK (HH.out.keep hb) rv t ht A B c d (HP.out.keep RPj.keeps hb));clear HR2 hu h0;unfold rvC at HU HC ⊢;unfold ckC at HC;rw [hk] at HU HC ⊢;go_enter Tryz.func113,Tryz.ntmps113
  go_wp2_with (first | (go_at_call 149;refine (HU.out _).mono ?_;rintro e' w1 ⟨rfl,hb1⟩;have HB:=aF ((bel2 _ _ _).trans (hb1.mono (bel2 _ _ _).size));obtain ⟨y,z⟩:=cU hb1;have HY:=aF y;have HZ:=aF z;obtain ⟨y0,y1,y2,y3,y4,y5,y6,y7⟩:=aT HY.out;obtain ⟨z0,z1,z2,z3,z4,z5,z6⟩:=aS HZ.out;have hlw:=hb1.size;simp only [bI] at hlw;have hlw1:w.heap.size+1<w1.heap.size:=hlw;have hlw0:w.heap.size<w1.heap.size:=cC hlw;clear y z hb1) | (go_at_call 150;refine (HC.out _ HB.out).mono ?_;rintro e' w2 ⟨rfl,hb2⟩;have HB2:=aF (HB.out.trans (hb2.mono HB.out.size));clear hb2))
  go_ret;exact ⟨by rw [HF.out];rfl,HB2.out⟩
 ·have HF:Hid (R=operE b rv t iD):=aF (by rw [HR2.out,aZ (by omega),aZ (by omega),bA hk]);have HC:=aF (fun (W:World) (hb:Below w.heap.size w W)=>iO (HH.out.keep hb) rv t ht iD A B _ c d 2 (HL.out.keep ROp.keeps hb) (HT.out.keep hb).un);clear HR2 hu h0;unfold rvC at HU HC ⊢;unfold ckC at HC;rw [hk] at HU HC ⊢;go_enter Tryz.func113,Tryz.ntmps113
  go_wp2_with (go_at_call 149;refine (HU.out _).mono ?_;rintro e' w1 ⟨rfl,hb1⟩;have HB:=aF ((bel2 _ _ _).trans (hb1.mono (bel2 _ _ _).size));obtain ⟨y,z⟩:=cU hb1;have HY:=aF y;have HZ:=aF z;obtain ⟨y0,y1,y2,y3,y4,y5,y6,y7⟩:=aT HY.out;obtain ⟨z0,z1,z2,z3,z4,z5,z6⟩:=aS HZ.out;have hlw:=hb1.size;simp only [bI] at hlw;have hlw1:w.heap.size+1<w1.heap.size:=hlw;have hlw0:w.heap.size<w1.heap.size:=cC hlw;clear y z hb1)
  clear y0 y1 y2 y3 y4 y5 y6 y7 z0 z1 z2 z3 z4 z5 z6;have hS:(aA (bdH b bh [.pointer (some ⟨r,0,none⟩)]) w1.drew w.heap.size)/\(aA [Value.int .i64 2,.int .i64 rv.op,.int .i64 rv.reg,.bool rv.mu,.int .i64 rv.place.loc,.slice A rv.place.proj.length c,.slice B rv.args.length d] w1.drew (w.heap.size+1)):=⟨HY.out,HZ.out⟩;refine cT (S:=fun X=>(aA (bdH b bh [.pointer (some ⟨r,0,none⟩)]) X w.heap.size)/\(aA [Value.int .i64 2,.int .i64 rv.op,.int .i64 rv.reg,.bool rv.mu,.int .i64 rv.place.loc,.slice A rv.place.proj.length c,.slice B rv.args.length d] X (w.heap.size+1))) [0,1,2,3,4,5] (by kernel_rfl) ?_;(iterate 4 (refine cR (v:=?_) ?_ hS ?_;rotate_left;(next=>(rintro X ⟨hX,hY⟩;obtain ⟨s0,s1,s2,s3,s4,s5,s6,s7⟩:=aT hX;obtain ⟨u0,u1,u2,u3,u4,u5,u6⟩:=aS hY;(try simp only [aI]);go_simp;rfl));simp only [aM]));(refine cY (fun K1 hK1=>?_);simp only [aM];rw [bA (by rfl)];go_simp);refine (HC.out _ HB.out.drew).mono ?_;rintro e' w2 ⟨rfl,hb⟩;replace hS:=bJ (cP hS.1 hb) (cP hS.2 hb);have HB2:=aF (HB.out.drew.trans (hb.mono HB.out.size));clear hb;refine hK1.out _ _ (fun _=>hS) ?_;((refine cR (v:=?_) ?_ hS ?_;rotate_left;(next=>(rintro X -;(try simp only [aI]);go_simp;rfl));simp only [aM]))
  refine cZ ?_;go_wp2_with fail
  go_ret;exact ⟨by rw [HF.out];rfl,HB2.out⟩
 ·have HF:Hid (R=operE b rv t gB):=aF (by rw [HR2.out,aZ (by omega),aZ (by omega),aZ (by omega),bA hk]);have HC:=aF (fun (W:World) (hb:Below w.heap.size w W)=>iO (HH.out.keep hb) rv t ht gB A B _ c d 6 (HL.out.keep ROp.keeps hb) (HT.out.keep hb).bi);clear HR2 hu h0;unfold rvC at HU HC ⊢;unfold ckC at HC;rw [hk] at HU HC ⊢;go_enter Tryz.func113,Tryz.ntmps113
  go_wp2_with (go_at_call 149;refine (HU.out _).mono ?_;rintro e' w1 ⟨rfl,hb1⟩;have HB:=aF ((bel2 _ _ _).trans (hb1.mono (bel2 _ _ _).size));obtain ⟨y,z⟩:=cU hb1;have HY:=aF y;have HZ:=aF z;obtain ⟨y0,y1,y2,y3,y4,y5,y6,y7⟩:=aT HY.out;obtain ⟨z0,z1,z2,z3,z4,z5,z6⟩:=aS HZ.out;have hlw:=hb1.size;simp only [bI] at hlw;have hlw1:w.heap.size+1<w1.heap.size:=hlw;have hlw0:w.heap.size<w1.heap.size:=cC hlw;clear y z hb1)
  clear y0 y1 y2 y3 y4 y5 y6 y7 z0 z1 z2 z3 z4 z5 z6;have hS:(aA (bdH b bh [.pointer (some ⟨r,0,none⟩)]) w1.drew w.heap.size)/\(aA [Value.int .i64 3,.int .i64 rv.op,.int .i64 rv.reg,.bool rv.mu,.int .i64 rv.place.loc,.slice A rv.place.proj.length c,.slice B rv.args.length d] w1.drew (w.heap.size+1)):=⟨HY.out,HZ.out⟩;refine cT (S:=fun X=>(aA (bdH b bh [.pointer (some ⟨r,0,none⟩)]) X w.heap.size)/\(aA [Value.int .i64 3,.int .i64 rv.op,.int .i64 rv.reg,.bool rv.mu,.int .i64 rv.place.loc,.slice A rv.place.proj.length c,.slice B rv.args.length d] X (w.heap.size+1))) [0,1,2,3,4,5] (by kernel_rfl) ?_;(iterate 4 (refine cR (v:=?_) ?_ hS ?_;rotate_left;(next=>(rintro X ⟨hX,hY⟩;obtain ⟨s0,s1,s2,s3,s4,s5,s6,s7⟩:=aT hX;obtain ⟨u0,u1,u2,u3,u4,u5,u6⟩:=aS hY;(try simp only [aI]);go_simp;rfl));simp only [aM]));(refine cY (fun K1 hK1=>?_);simp only [aM];rw [bA (by rfl)];go_simp);refine (HC.out _ HB.out.drew).mono ?_;rintro e' w2 ⟨rfl,hb⟩;replace hS:=bJ (cP hS.1 hb) (cP hS.2 hb);have HB2:=aF (HB.out.drew.trans (hb.mono HB.out.size));clear hb;refine hK1.out _ _ (fun _=>hS) ?_;((refine cR (v:=?_) ?_ hS ?_;rotate_left;(next=>(rintro X -;(try simp only [aI]);go_simp;rfl));simp only [aM]))
  refine cZ ?_;go_wp2_with fail
  go_ret;exact ⟨by rw [HF.out];rfl,HB2.out⟩
 ·obtain ⟨bb,oo,hA3,hbb,hxx⟩:=HH.out.at_.typ.sl.at_ ht;have hgd:=HH.out.ok.tyok t ht;obtain ⟨ty,hty⟩:∃ty,b.types[t]=ty:=⟨_,rfl⟩;have hle3:=HH.out.at_.typ.le;have hbig3:=HH.out.at_.typ.big;rw [hty] at hxx hgd HR2;obtain ⟨q0,q1,q2,q3,A5,c5,q4,q6,q7,q8⟩:=hxx;have HFS:Hid (Slc 1 RInt w A5 c5 ty.flds):=aF ⟨q8,q6,q7⟩;have HF0:Hid (R=if ty.kind≠4\/ty.flds.length≠rv.args.length then 22 else opsE b rv.args ty.flds):=aF (by rw [HR2.out,aZ (by omega),aZ (by omega),aZ (by omega),aZ (by omega)]);have HC:=aF (fun (W:World) (hb:Below w.heap.size w W)=>fJ (HH.out.keep hb) rv.args ty.flds B A5 d c5 (HL.out.keep ROp.keeps hb) (HFS.out.keep RInt.keeps hb) (fun x hx=>by have:=hgd.2 x hx;omega));obtain ⟨p1,hp1⟩:∃p,(ty.kind != 4)=p:=⟨_,rfl⟩;obtain ⟨p2,hp2⟩:∃p,((ty.flds.length:Int) != (rv.args.length:Int))=p:=⟨_,rfl⟩
  have HF1:Hid (R=if p1=true\/p2=true then 22 else opsE b rv.args ty.flds):=aF (by
   rw [HF0.out,<- hp1,<- hp2]
   simp only [bne_iff_ne,ne_eq,Int.ofNat_inj])
  generalize opsE b rv.args ty.flds=oe at HC HF1;have HF:Hid (R=firstE [fail22 (p1 || p2),oe]):=aF (by rw [HF1.out];cases p1 <;> cases p2 <;> simp [firstE,fail22]);have HP1:=aF hp1;have HP2:=aF hp2;clear HR2 HF0 HF1 hu h0 hty hgd q8;unfold rvC at HU ⊢;unfold ckC at HC;rw [hA3] at HC ⊢;rw [hk] at HU ⊢;go_enter Tryz.func113,Tryz.ntmps113
  go_wp2_with (go_at_call 149;refine (HU.out _).mono ?_;rintro e' w1 ⟨rfl,hb1⟩;have HB:=aF ((bel2 _ _ _).trans (hb1.mono (bel2 _ _ _).size));obtain ⟨y,z⟩:=cU hb1;have HY:=aF y;have HZ:=aF z;obtain ⟨y0,y1,y2,y3,y4,y5,y6,y7⟩:=aT HY.out;obtain ⟨z0,z1,z2,z3,z4,z5,z6⟩:=aS HZ.out;have v0:=cO HB.out q0;have v1:=cO HB.out q1;have v2:=cO HB.out q2;have v3:=cO HB.out q3;have v4:=cO HB.out q4;have hlw:=hb1.size;simp only [bI] at hlw;have hlw1:w.heap.size+1<w1.heap.size:=hlw;have hlw0:w.heap.size<w1.heap.size:=cC hlw;clear y z hb1)
  have HBX:=aF ((HB.out.alloc HB.out.size (.cells (tyL ty A5 c5).toArray 65)).drew)
  have hS:(∀i v,[Value.string b.name,.slice bh.A1 b.regions.length bh.c1,.slice bh.A2 b.outl.length bh.c2,.slice (some ⟨bb,oo,none⟩) b.types.length bh.c3,.slice bh.A4 b.locals.length bh.c4,.int .i64 b.args,.slice bh.A5 b.blocks.length bh.c5,.pointer (some ⟨r,0,none⟩)][i]?=some v->(w1.alloc (.cells (tyL ty A5 c5).toArray 65)).drew.cell? ⟨w.heap.size,i,none⟩=some v)/\(∀i v,[Value.int .i64 4,.int .i64 rv.op,.int .i64 rv.reg,.bool rv.mu,.int .i64 rv.place.loc,.slice A rv.place.proj.length c,.slice B rv.args.length d][i]?=some v->(w1.alloc (.cells (tyL ty A5 c5).toArray 65)).drew.cell? ⟨w.heap.size+1,i,none⟩=some v)/\(∀i v,(tyL ty A5 c5)[i]?=some v->(w1.alloc (.cells (tyL ty A5 c5).toArray 65)).drew.cell? ⟨w1.heap.size,i,none⟩=some v):=
   ⟨fun i v hi=>cO (((aX _ _).alloc (aY _) _).drew) (HY.out i v hi),fun i v hi=>cO (((aX _ _).alloc (aY _) _).drew) (HZ.out i v hi),cQ w1 (tyL ty A5 c5) _⟩
  clear y0 y1 y2 y3 y4 y5 y6 y7 z0 z1 z2 z3 z4 z5 z6 v0 v1 v2 v3 v4 q0 q1 q2 q3 q4;refine cT (S:=fun X=>(aA (bdM b bh.A1 bh.c1 bh.A2 bh.c2 (some ⟨bb,oo,none⟩) bh.c3 bh.A4 bh.c4 bh.A5 bh.c5 [.pointer (some ⟨r,0,none⟩)]) X w.heap.size)/\(aA [Value.int .i64 4,.int .i64 rv.op,.int .i64 rv.reg,.bool rv.mu,.int .i64 rv.place.loc,.slice A rv.place.proj.length c,.slice B rv.args.length d] X (w.heap.size+1))/\(aA (tyL ty A5 c5) X w1.heap.size)) [0,1,2,3,4,5,6,7,8,9,10,11,13,14,15,16,17,12,18,19,20,21] (by kernel_rfl) ?_;(iterate 3 (refine cR (v:=?_) ?_ hS ?_;rotate_left;(next=>(rintro X ⟨hX,hY,hZ⟩;have u0:=hZ 0 _ rfl;(try simp only [aI]);go_simp;rfl));simp only [aM]));try rw [HP1.out]
  cases p1
  ·((refine cR (v:=?_) ?_ hS ?_;rotate_left;(next=>(rintro X -;(try simp only [aI]);go_simp;rfl));simp only [aM]))
   (iterate 6 (refine cR (v:=?_) ?_ hS ?_;rotate_left;(next=>(rintro X ⟨hX,hY,hZ⟩;have u4:=hZ 4 _ rfl;have u6:=hY 6 _ rfl;(try simp only [aI]);go_simp;rfl));simp only [aM]));((refine cR (v:=?_) ?_ hS ?_;rotate_left;(next=>(rintro X -;(try simp only [aI]);go_simp;rfl));simp only [aM]))
   try rw [HP2.out]
   ((refine cR (v:=?_) ?_ hS ?_;rotate_left;(next=>(rintro X -;(try simp only [aI]);go_simp;rfl));simp only [aM]))
   (iterate 5 (refine cR (v:=?_) ?_ hS ?_;rotate_left;(next=>(rintro X ⟨hX,hY,hZ⟩;obtain ⟨s0,s1,s2,s3,s4,s5,s6,s7⟩:=aT hX;have u4:=hZ 4 _ rfl;have u6:=hY 6 _ rfl;(try simp only [aI]);go_simp;rfl));simp only [aM]));(refine cY (fun K1 hK1=>?_);simp only [aM];rw [bA (by rfl)];go_simp);refine (eC _ _).mono ?_;rintro e' w3 ⟨rfl,hw⟩;obtain rfl:=hw.symm;refine hK1.out _ _ (fun _=>hS) ?_;clear hK1;(refine cY (fun K1 hK1=>?_);simp only [aM];rw [bA (by rfl)];go_simp);refine (HC.out _ HBX.out).mono ?_;rintro e' w2 ⟨rfl,hb⟩;replace hS:=bJ (cP hS.1 hb) (bJ (cP hS.2.1 hb) (cP hS.2.2 hb));have HB2:=aF (HBX.out.trans (hb.mono HBX.out.size));clear hb;refine hK1.out _ _ (fun _=>hS) ?_;clear hK1;(refine cY (fun K1 hK1=>?_);simp only [aM];rw [bA (by rfl)];go_simp);replace hS:=bJ (fun i v hi=>cO ((aX _ _).alloc (aY _) (.cells #[Value.int .i64 (fail22 p2),.int .i64 oe] 37)) (hS.1 i v hi)) (bJ (fun i v hi=>cO ((aX _ _).alloc (aY _) (.cells #[Value.int .i64 (fail22 p2),.int .i64 oe] 37)) (hS.2.1 i v hi)) (fun i v hi=>cO ((aX _ _).alloc (aY _) (.cells #[Value.int .i64 (fail22 p2),.int .i64 oe] 37)) (hS.2.2 i v hi)));refine hK1.out _ _ (fun _=>hS) ?_;clear hK1;(refine cY (fun K1 hK1=>?_);simp only [aM];rw [bA (by rfl)];go_simp);refine (fP [fail22 p2,oe] _ 2 _ (nB _ _ _ _ _ rfl)).mono ?_;rintro e' w4 ⟨rfl,hw⟩;obtain rfl:=hw.symm;refine hK1.out _ _ (fun _=>hS) ?_;clear hK1;((refine cR (v:=?_) ?_ hS ?_;rotate_left;(next=>(rintro X -;(try simp only [aI]);go_simp;rfl));simp only [aM]))
   refine cZ ?_;go_wp2_with fail
   go_ret;exact ⟨by rw [HF.out];rfl,HB2.out.alloc HB2.out.size _⟩
  ·((refine cR (v:=?_) ?_ hS ?_;rotate_left;(next=>(rintro X -;(try simp only [aI]);go_simp;rfl));simp only [aM]))
   (iterate 7 (refine dA (v:=undef) (by kernel_rfl) (fun _ _ _ h=>h) (Or.inr ⟨by rfl,rfl⟩) hS ?_;simp only [aM]));((refine cR (v:=?_) ?_ hS ?_;rotate_left;(next=>(rintro X -;(try simp only [aI]);go_simp;rfl));simp only [aM]))
   (iterate 5 (refine cR (v:=?_) ?_ hS ?_;rotate_left;(next=>(rintro X ⟨hX,hY,hZ⟩;obtain ⟨s0,s1,s2,s3,s4,s5,s6,s7⟩:=aT hX;have u4:=hZ 4 _ rfl;have u6:=hY 6 _ rfl;(try simp only [aI]);go_simp;rfl));simp only [aM]));(refine cY (fun K1 hK1=>?_);simp only [aM];rw [bA (by rfl)];go_simp);refine (eC _ _).mono ?_;rintro e' w3 ⟨rfl,hw⟩;obtain rfl:=hw.symm;refine hK1.out _ _ (fun _=>hS) ?_;clear hK1;(refine cY (fun K1 hK1=>?_);simp only [aM];rw [bA (by rfl)];go_simp);refine (HC.out _ HBX.out).mono ?_;rintro e' w2 ⟨rfl,hb⟩;replace hS:=bJ (cP hS.1 hb) (bJ (cP hS.2.1 hb) (cP hS.2.2 hb));have HB2:=aF (HBX.out.trans (hb.mono HBX.out.size));clear hb;refine hK1.out _ _ (fun _=>hS) ?_;clear hK1;(refine cY (fun K1 hK1=>?_);simp only [aM];rw [bA (by rfl)];go_simp);replace hS:=bJ (fun i v hi=>cO ((aX _ _).alloc (aY _) (.cells #[Value.int .i64 (fail22 true),.int .i64 oe] 37)) (hS.1 i v hi)) (bJ (fun i v hi=>cO ((aX _ _).alloc (aY _) (.cells #[Value.int .i64 (fail22 true),.int .i64 oe] 37)) (hS.2.1 i v hi)) (fun i v hi=>cO ((aX _ _).alloc (aY _) (.cells #[Value.int .i64 (fail22 true),.int .i64 oe] 37)) (hS.2.2 i v hi)));refine hK1.out _ _ (fun _=>hS) ?_;clear hK1;(refine cY (fun K1 hK1=>?_);simp only [aM];rw [bA (by rfl)];go_simp);refine (fP [fail22 true,oe] _ 2 _ (nB _ _ _ _ _ rfl)).mono ?_;rintro e' w4 ⟨rfl,hw⟩;obtain rfl:=hw.symm;refine hK1.out _ _ (fun _=>hS) ?_;clear hK1;((refine cR (v:=?_) ?_ hS ?_;rotate_left;(next=>(rintro X -;(try simp only [aI]);go_simp;rfl));simp only [aM]))
   refine cZ ?_;go_wp2_with fail
   go_ret;exact ⟨by rw [HF.out];rfl,HB2.out.alloc HB2.out.size _⟩
def stC (s:Stm) (A0:Option Addr) (c0:Nat) (A:Option Addr) (c:Nat) (B:Option Addr) (d:Nat):List Value:=[.int .i64 s.kind,.int .i64 s.place.loc,.slice A0 s.place.proj.length c0,.int .i64 s.rv.kind,.int .i64 s.rv.op,.int .i64 s.rv.reg,.bool s.rv.mu,.int .i64 s.rv.place.loc,.slice A s.rv.place.proj.length c,.slice B s.rv.args.length d,.int .i64 s.loc]
theorem bel3 (w:World) (x y z:Obj):Below w.heap.size w (((w.alloc x).alloc y).alloc z):=aH
theorem dL {w w1:World} {l1 l2 l3:List Value} {t1 t2 t3:TypeId} (hb:Below (((w.alloc (.cells l1.toArray t1)).alloc (.cells l2.toArray t2)).alloc (.cells l3.toArray t3)).heap.size (((w.alloc (.cells l1.toArray t1)).alloc (.cells l2.toArray t2)).alloc (.cells l3.toArray t3)) w1):
 (∀i v,l1[i]?=some v->w1.cell? ⟨w.heap.size,i,none⟩=some v)/\(∀i v,l2[i]?=some v->w1.cell? ⟨w.heap.size+1,i,none⟩=some v)/\(∀i v,l3[i]?=some v->w1.cell? ⟨w.heap.size+1+1,i,none⟩=some v):=by
 refine ⟨fun i v hi=>cO hb ?_,fun i v hi=>cO hb ?_,fun i v hi=>cO hb ?_⟩
 ·exact cO (((aX _ _).alloc (aY _) _).alloc (by simp) _) (cQ w l1 t1 i v hi)
 ·have:=cQ (w.alloc (.cells l1.toArray t1)) l2 t2 i v hi;rw [bI] at this;exact cO ((aX _ _).alloc (aY _) _) this
 ·have:=cQ ((w.alloc (.cells l1.toArray t1)).alloc (.cells l2.toArray t2)) l3 t3 i v hi;simp only [bI] at this;exact this
theorem yX {b:Bdy} {bh:BH} {r:Nat} {w:World} (H:Ck w b bh r) (hT:TabsOk w) (s:Stm) (A0 A B:Option Addr) (c0 c d:Nat) (hp0:Slc 2 RPj w A0 c0 s.place.proj) (hp:Slc 2 RPj w A c s.rv.place.proj) (hl:Slc 4 ROp w B d s.rv.args) (hk:s.kind=0) (hloc:s.loc≠0):
 Calls Tryz.prog 75 #[.agg (ckC b bh r).toArray,.agg (stC s A0 c0 A c B d).toArray] w fun e' w'=>e' = .returned (.int .i64 (stE b s))/\Below w.heap.size w w':=by
 have HZZ:=aF eW;have HH:=aF H;have HT:=aF hT;have HP0:=aF hp0;have HP:=aF hp;have HL:=aF hl;have hle:=hl.le;have hbig:=hl.big;have hlocl:=H.at_.loc.le;have hlocb:=H.at_.loc.big;obtain ⟨R,hR⟩:∃R,stE b s=R:=⟨_,rfl⟩;rw [hR];have HR:=aF hR;obtain ⟨q1,hq1⟩:∃q,zeroP s.place=q:=⟨_,rfl⟩;obtain ⟨q2,hq2⟩:∃q,(s.rv.kind == 0)=q:=⟨_,rfl⟩;obtain ⟨q3,hq3⟩:∃q,(s.rv.op == 0)=q:=⟨_,rfl⟩;obtain ⟨q4,hq4⟩:∃q,((s.rv.args.length:Int) == 0)=q:=⟨_,rfl⟩;obtain ⟨q5,hq5⟩:∃q,(s.rv.reg == 0)=q:=⟨_,rfl⟩;obtain ⟨q6,hq6⟩:∃q,s.rv.mu=q:=⟨_,rfl⟩;obtain ⟨q7,hq7⟩:∃q,zeroP s.rv.place=q:=⟨_,rfl⟩
 have HBL:Hid (blankR s.rv=(q2 && q3 && q4 && q5 && !q6 && q7)):=aF (by
  unfold blankR;rw [<- hq2,<- hq3,<- hq4,<- hq5,<- hq6,<- hq7,eP]
  rfl)
 have HQ1:=aF hq1;have HQ7:=aF hq7;have HQ2:=aF hq2;have HQ3:=aF hq3;have HQ4:=aF hq4;have HQ5:=aF hq5;have HQ6:=aF hq6;clear hq1 hq2 hq3 hq4 hq5 hq7;have HF:Hid (R=2):=aF (by rw [<- HR.out,stE,bA hk,bA hloc]);have e1:(s.loc != 0)=true:=by simp [hloc]
 clear HBL;clear HR hR H hT hp0 hp hl;clear hloc;rcases (show q1=false\/(q1=true/\q2=false)\/(q1=true/\q2=true/\q3=false)\/(q1=true/\q2=true/\q3=true/\q4=false)\/(q1=true/\q2=true/\q3=true/\q4=true/\q5=false)\/(q1=true/\q2=true/\q3=true/\q4=true/\q5=true/\q6=true)\/(q1=true/\q2=true/\q3=true/\q4=true/\q5=true/\q6=false) by cases q1 <;> cases q2 <;> cases q3 <;> cases q4 <;> cases q5 <;> cases q6 <;> simp) with rfl | ⟨rfl,rfl⟩ | ⟨rfl,rfl,rfl⟩ | ⟨rfl,rfl,rfl,rfl⟩ | ⟨rfl,rfl,rfl,rfl,rfl⟩ | ⟨rfl,rfl,rfl,rfl,rfl,rfl⟩ | ⟨rfl,rfl,rfl,rfl,rfl,rfl⟩
 all_goals
  have g2:=HQ2.out;have g3:=HQ3.out;have g4:=HQ4.out;have g5:=HQ5.out;have g6:=HQ6.out;unfold ckC at *;unfold stC;rw [hk];go_enter Tryz.func75,Tryz.ntmps75
  go_wp2_with (first | (go_at_call 111;refine (HZZ.out _ _ _ _).mono ?_;rintro e' w2 ⟨rfl,hb2⟩;rw [HQ7.out];have HB2:=aF (HB.out.trans (hb2.mono HB.out.size));have HY2:=aF (cP HY.out hb2);have HZ3:=aF (cP HZ.out hb2);have HU2:=aF (cP HU.out hb2);clear y0 y1 y2 y3 y4 y5 y6 y7 z0 z1 z2 z10 u0 u1 u2 u3 u4 u5 u6 HY HZ HU HB;have HB:=HB2;have HY:=HY2;have HZ:=HZ3;have HU:=HU2;obtain ⟨y0,y1,y2,y3,y4,y5,y6,y7⟩:=aT HY.out;obtain ⟨z0,z1,z2,-,-,-,-,-,-,-,z10⟩:=aW HZ.out;obtain ⟨u0,u1,u2,u3,u4,u5,u6⟩:=aS HU.out;clear hb2 HB2 HY2 HZ3 HU2) | (go_at_call 111;refine (HZZ.out _ _ _ _).mono ?_;rintro e' w1 ⟨rfl,hb1⟩;rw [HQ1.out];have HB:=aF ((bel3 _ _ _ _).trans (hb1.mono (bel3 _ _ _ _).size));obtain ⟨y,z,u⟩:=dL hb1;have HY:=aF y;have HZ:=aF z;have HU:=aF u;obtain ⟨y0,y1,y2,y3,y4,y5,y6,y7⟩:=aT HY.out;obtain ⟨z0,z1,z2,-,-,-,-,-,-,-,z10⟩:=aW HZ.out;obtain ⟨u0,u1,u2,u3,u4,u5,u6⟩:=aS HU.out;clear y z u hb1))
  all_goals first
   | (exfalso;omega)
   | (go_ret;exact ⟨by rw [HF.out];rfl,by first | exact HBW2.out | exact HBW.out | exact HB.out⟩)
theorem qY {b:Bdy} {bh:BH} {r:Nat} {w:World} (H:Ck w b bh r) (t:Trm) (A B C:Option Addr) (c d f:Nat) (ht:Slc 1 RInt w A c t.targets) (hl:Slc 4 ROp w B d t.args) (hp:Slc 2 RPj w C f t.place.proj) (hk:(t.kind<0\/5<t.kind)\/(¬(t.kind<0\/5<t.kind)/\fieldsT t=false)):
 Calls Tryz.prog 76 #[.agg (ckC b bh r).toArray,.agg (tmC t A c B d C f).toArray] w fun e' w'=>e' = .returned (.int .i64 (tmE b t))/\Below w.heap.size w w':=by
 have HFD:=aF (fun W=>fQ t A B C c d f W);have HH:=aF H;have HTG:=aF ht;have HL:=aF hl;have HP:=aF hp;have hle:=hl.le;have hbig:=hl.big;have hle2:=ht.le;have hbig2:=ht.big;have hblkl:=H.at_.blk.le;have hblkb:=H.at_.blk.big;obtain ⟨R,hR⟩:∃R,tmE b t=R:=⟨_,rfl⟩;rw [hR];have HR:=aF hR;clear hR H ht hl hp;rcases hk with h0 | ⟨h0,hfd⟩
 ·have HF:Hid (R=14):=aF (by rw [<- HR.out,tmE,bA h0]);clear HR HFD;unfold ckC tmC;go_enter Tryz.func76,Tryz.ntmps76
  go_wp2_with fail
  all_goals first
   | (exfalso;omega)
   | (go_ret;exact ⟨by rw [HF.out];rfl,aH⟩)
 ·have HF:Hid (R=2):=aF (by rw [<- HR.out,tmE,aZ h0,bA hfd]);rw [hfd] at HFD;clear HR hfd;unfold ckC;unfold tmC at *;go_enter Tryz.func76,Tryz.ntmps76
  go_wp2_with (go_at_call 114;refine (HFD.out _).mono ?_;rintro e' w1 ⟨rfl,hb1⟩;have HB:=aF ((bel2 _ _ _).trans (hb1.mono (bel2 _ _ _).size));obtain ⟨y,z⟩:=cU hb1;have HY:=aF y;have HZ:=aF z;obtain ⟨y0,y1,y2,y3,y4,y5,y6,y7⟩:=aT HY.out;obtain ⟨z0,z1,z2,z3,z4,z5⟩:=aR HZ.out;clear y z hb1)
  all_goals first
   | (exfalso;omega)
   | (go_ret;exact ⟨by rw [HF.out];rfl,HB.out⟩)
end
end Go.Proofs.YtcfchohkmkilpaaGreatDoor
