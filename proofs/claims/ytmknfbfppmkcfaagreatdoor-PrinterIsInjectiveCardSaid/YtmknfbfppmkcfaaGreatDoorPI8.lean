/-
  Parts of the proof: V26 V33 V34 V35 V36 V45.
-/
import Derived.Test.YtmknfbfppmkcfaaGreatDoorPI0
import Derived.Test.YtmknfbfppmkcfaaGreatDoorPI7
import Derived.Test.YtmknfbfppmkcfaaGreatDoorPI6
namespace Go.Proofs.YtmknfbfppmkcfaaGreatDoor
set_option maxRecDepth 100000
set_option maxHeartbeats 16000000
section
open Go Go.RowKit
theorem xCU (b:Bdy) (bh:BH) (r:Nat) (o:Opd) (f:Nat) (A:Option Addr) (c:Nat) (w:World) (H:BdAt w b bh) (hp:Slc 2 RPj w A c o.place.proj) (hok:Okay b.types b.locals)
 (hty:o.kind≠2->o.kind≠3->o.kind≠4->(tyB b o.place).2=0) (hf:f<b.types.length)
 (hsub:∀W,Below w.heap.size w W->∀i:Int,0<=i->i<b.types.length->Calls Tryz.prog 193 #[.pointer (some ⟨r,0,none⟩),.slice bh.A3 b.types.length bh.c3,.int .i64 i,.int .i64 f] W fun e' w'=>e' = .returned (.bool (subB b i f))/\Below W.heap.size W w'):
 Calls Tryz.prog 155 #[.agg (ckC b bh r).toArray,.agg (opC o A c).toArray,.int .i64 f] w fun e' w'=>e' = .returned (.bool (fitsO b o f))/\Below w.heap.size w w':=by
 have HT:=aF (fun W (hb:Below w.heap.size w W)=>eM b bh r o.place A c W (H.keep hb) (hp.keep RPj.keeps hb) hok);have HK:=aF (fun W (hb:Below w.heap.size w W)=>nH b bh r o A c W (H.keep hb) (hp.keep RPj.keeps hb) hok hty);have HQ:Hid (fitsO b o f=if o.kind≠0/\o.kind≠1 then decide (kindO b o=kindT b f) else subB b (tyB b o.place).1 f):=aF rfl;have HS:=aF H.typ;have hin:=fL hok (l:=o.place.loc) (ps:=o.place.proj);change (tyB b o.place).2=0->0<=(tyB b o.place).1/\(tyB b o.place).1<b.types.length at hin;have HIN:=aF (fun W (hb:Below w.heap.size w W) (h:(tyB b o.place).2=0)=>hsub W hb (tyB b o.place).1 (hin h).1 (hin h).2);clear hsub hin;generalize fitsO b o f=q at HQ ⊢;generalize tyB b o.place=t at HT HQ HIN hty;generalize kindO b o=ko at HK HQ;obtain ⟨t,e⟩:=t;simp only at HQ HIN hty;clear H hp hok;unfold ckC at HT HK ⊢;unfold opC at HK ⊢;by_cases h01:o.kind=0\/o.kind=1
 ·obtain rfl:e=0:=hty (by omega) (by omega) (by omega);have HF:Hid (q=subB b t f):=aF (by rw [HQ.out,aZ (by omega)]);have HC:=aF (fun W hb=>HIN.out W hb rfl);clear HQ HIN HK HS hty;generalize subB b t f=sb at HF HC;obtain ⟨k,hk⟩:∃k,o.kind=k:=⟨_,rfl⟩;rw [hk] at h01 ⊢;clear hk;rcases h01 with rfl | rfl
  all_goals
   go_enter Tryz.func155,Tryz.ntmps155
   go_wp2_with (first
    | (go_at_call 123;refine (HT.out _ (bel2 _ _ _)).mono ?_;rintro e' w1 ⟨rfl,hb1⟩;have HB:=aF ((bel2 _ _ _).trans (hb1.mono (bel2 _ _ _).size));obtain ⟨y,-⟩:=cT hb1;obtain ⟨-,-,-,y3,-,-,-,y7⟩:=aT y;clear y hb1)
    | (go_at_call 193;refine (HC.out _ HB.out).mono ?_;rintro e' w2 ⟨rfl,hb2⟩;have HB2:=aF (HB.out.trans (hb2.mono HB.out.size));clear hb2))
   go_ret;exact ⟨by rw [HF.out];rfl,HB2.out⟩
 ·have HF:Hid (q=decide (ko=kindT b f)):=aF (by rw [HQ.out,bA ⟨fun h=>h01 (Or.inl h),fun h=>h01 (Or.inr h)⟩]);have e0:(o.kind != 0)=true:=by simp;omega
  have e1:(o.kind != 1)=true:=by simp;omega
  clear HQ HIN HT hty h01;obtain ⟨A3,h3⟩:∃x,bh.A3=x:=⟨_,rfl⟩;rw [h3] at HS HK ⊢;clear h3;obtain ⟨bb,oo,rfl,hbb,hx⟩:=HS.out.sl.at_ hf;have HF2:Hid (q=decide (ko=b.types[f].kind)):=aF (by rw [HF.out,kindT];simp [hf]);generalize b.types[f]=ty at hx HF2;obtain ⟨r1,-⟩:=hx;clear HS HF;have HB1:=aF (fun (W:World) (h:Below w.heap.size w W)=>h.drew);go_enter Tryz.func155,Tryz.ntmps155
  go_wp2_with fail
  have HB2:=aF (HB1.out _ (bel2 w (.cells #[.string b.name,.slice bh.A1 b.regions.length bh.c1,.slice bh.A2 b.outl.length bh.c2,.slice (some ⟨bb,oo,none⟩) b.types.length bh.c3,.slice bh.A4 b.locals.length bh.c4,.int .i64 b.args,.slice bh.A5 b.blocks.length bh.c5,.pointer (some ⟨r,0,none⟩)] 122) (.cells #[.int .i64 o.kind,.int .i64 o.place.loc,.slice A o.place.proj.length c,.int .i64 o.n] 160)));obtain ⟨y,z⟩:=cT (w:=w) (l1:=[.string b.name,.slice bh.A1 b.regions.length bh.c1,.slice bh.A2 b.outl.length bh.c2,.slice (some ⟨bb,oo,none⟩) b.types.length bh.c3,.slice bh.A4 b.locals.length bh.c4,.int .i64 b.args,.slice bh.A5 b.blocks.length bh.c5,.pointer (some ⟨r,0,none⟩)]) (l2:=[.int .i64 o.kind,.int .i64 o.place.loc,.slice A o.place.proj.length c,.int .i64 o.n]) (t1:=122) (t2:=160) ((aX _ _).drew);have hS:=bJ y (bJ z (cM HB2.out r1));clear y z;refine cO (S:=fun X=>(aA [.string b.name,.slice bh.A1 b.regions.length bh.c1,.slice bh.A2 b.outl.length bh.c2,.slice (some ⟨bb,oo,none⟩) b.types.length bh.c3,.slice bh.A4 b.locals.length bh.c4,.int .i64 b.args,.slice bh.A5 b.blocks.length bh.c5,.pointer (some ⟨r,0,none⟩)] X w.heap.size)/\(aA [.int .i64 o.kind,.int .i64 o.place.loc,.slice A o.place.proj.length c,.int .i64 o.n] X (w.heap.size+1))/\X.cell? ⟨bb,oo+f * 5,none⟩=some (.int .i64 ty.kind)) [0,1,3,4,5,6,7,8,9,2,10,11] (by kernel_rfl) ?_;(iterate 9 (refine cP (v:=?_) ?_ hS ?_;rotate_left;(next=>(rintro X ⟨hX,hY,hZ⟩;obtain ⟨s0,s1,s2,s3,s4,s5,s6,s7⟩:=aT hX;obtain ⟨u0,u1,u2,u3⟩:=aP hY;(try simp only [aI]);go_simp;rfl));simp only [aM]));(refine cS (fun K1 hK1=>?_);simp only [aM];rw [bA (by rfl)];go_simp);refine (HK.out _ HB2.out).mono ?_;rintro e' w2 ⟨rfl,hb⟩;replace hS:=bJ (fun i v hi=>cM hb (hS.1 i v hi)) (bJ (fun i v hi=>cM hb (hS.2.1 i v hi)) (cM hb hS.2.2));have HB3:=aF (HB2.out.trans (hb.mono HB2.out.size));clear hb;refine hK1.out _ _ (fun _=>hS) ?_;(iterate 2 (refine cP (v:=?_) ?_ hS ?_;rotate_left;(next=>(rintro X -;(try simp only [aI]);go_simp;rfl));simp only [aM]));refine cZ ?_;go_wp2_with fail
  go_ret;exact ⟨by rw [HF2.out];rfl,HB3.out⟩
end
section
open Go Go.RowKit Go.Maps Go.WideMaps
theorem xHF (w:World) (b:Bdy) (A:Option Addr) (c r:Nat) (t0 t1 t2 t3:TypeId):
 SubE.St ⟨w,A,c,w.heap.size+3,w.heap.size+1,w.heap.size,w.heap.size+4,w.heap.size+2,r⟩ b (((((w.alloc (.cells #[.pointer (some ⟨r,0,none⟩)] t0)).alloc (.cells #[.slice A b.types.length c] t1)).alloc (.map #[] 0)).alloc (.cells #[.map (some (w.heap.size+2))] t2)).alloc (.cells #[SubE.F ⟨w,A,c,w.heap.size+3,w.heap.size+1,w.heap.size,w.heap.size+4,w.heap.size+2,r⟩] t3)) []:=by
 obtain ⟨F,hF⟩:∃F,SubE.F ⟨w,A,c,w.heap.size+3,w.heap.size+1,w.heap.size,w.heap.size+4,w.heap.size+2,r⟩=F:=⟨_,rfl⟩;rw [hF];have keepA:∀(W W':World) (p:Addr) (v:Value),Below W.heap.size W W'->W.cell? p=some v->W'.cell? p=some v:=fun W W' p v hb h=>cM hb h
 refine ⟨aH,?_,?_,?_,?_,?_,by simp,by simp⟩
 ·have:=cU (((w.alloc (.cells #[.pointer (some ⟨r,0,none⟩)] t0)).alloc (.cells #[.slice A b.types.length c] t1)).alloc (.map #[] 0)) [.map (some (w.heap.size+2))] t2 0 _ rfl;simp only [bI] at this;exact cM ((aX _ _).alloc (aY _) _) this
 ·have:=cU (w.alloc (.cells #[.pointer (some ⟨r,0,none⟩)] t0)) [.slice A b.types.length c] t1 0 _ rfl;simp only [bI] at this;exact cM ((((aX _ _).alloc (aY _) _).alloc (by simp) _).alloc (by simp) _) this
 ·have:=cU w [.pointer (some ⟨r,0,none⟩)] t0 0 _ rfl;exact cM (((((aX _ _).alloc (aY _) _).alloc (by simp) _).alloc (by simp) _).alloc (by simp) _) this
 ·have:=cU ((((w.alloc (.cells #[.pointer (some ⟨r,0,none⟩)] t0)).alloc (.cells #[.slice A b.types.length c] t1)).alloc (.map #[] 0)).alloc (.cells #[.map (some (w.heap.size+2))] t2)) [F] t3 0 _ rfl;simp only [bI] at this;rw [hF];exact this
 ·have:=Memo.made ((w.alloc (.cells #[.pointer (some ⟨r,0,none⟩)] t0)).alloc (.cells #[.slice A b.types.length c] t1)) Tryz.prog 77 (subB b);simp only [bI] at this;exact (this.alloc _).alloc _
theorem xEQ (b:Bdy) (A:Option Addr) (c r:Nat) (s t:Int) (w:World) (hs:Slc 5 RTy w A c b.types) (hok:DeclOk b) (hrel:Rel3 w r b.regions.length (relL b.outl)):
 Calls Tryz.prog 193 #[.pointer (some ⟨r,0,none⟩),.slice A b.types.length c,.int .i64 s,.int .i64 t] w fun e' w'=>e' = .returned (.bool (subB b s t))/\Below w.heap.size w w':=by
 have hle:=hs.le;have hbig:=hs.big;by_cases hr:0<=s/\s<(b.types.length:Int)/\0<=t/\t<(b.types.length:Int)
 case neg=>
  rw [sO (by omega)];clear hs hrel hok;go_enter Tryz.func193,Tryz.ntmps193
  go_wp2_with fail
  all_goals first
   | (exfalso;omega)
   | (go_ret;exact ⟨rfl,aH⟩)
 case pos=>
 obtain ⟨i,rfl⟩:=bG hr.1;obtain ⟨j,rfl⟩:=bG hr.2.2.1;have hi:i<b.types.length:=by omega
 have hj:j<b.types.length:=by omega
 have HE:SubE.Ok ⟨w,A,c,w.heap.size+3,w.heap.size+1,w.heap.size,w.heap.size+4,w.heap.size+2,r⟩ b:=⟨hs,hok,hrel,by simp,by simp,by simp,by simp,by simp⟩;have HC:=aF (fun W h=>sP _ b HE (i+j+1) i j (by omega) hi hj W [] h);have hmm:= @run_makeMap Tryz.prog;have hst:∀(a:Addr) (fn:Fn) (f c:Array Value) (W:World),(store a (.func fn f c)).run Tryz.prog W=stored Tryz.prog W a (.func fn f c) .plain:=fun a fn f c W=>run_store Tryz.prog W a (.func fn f c) _ rfl
 clear hs HE hok hrel;generalize hq:subB b (i:Int) (j:Int)=q at HC ⊢;go_enter Tryz.func193,Tryz.ntmps193
 go_wp2_with (go_at_call 212;refine (HC.out _ (xHF w b A c r _ _ _ _)).mono ?_;rintro e' w1 ⟨rfl,hq⟩;have HQ:=aF hq;clear hq)
 all_goals first
  | (exfalso;omega)
  | (go_ret
     obtain ⟨ks,h1,-⟩:=HQ.out
     exact ⟨rfl,h1.low⟩)
structure Ck (w:World) (b:Bdy) (bh:BH) (r:Nat):Prop where
 at_:BdAt w b bh
 ok:DeclOk b
 rel:Rel3 w r b.regions.length (relL b.outl)
theorem Ck.keep {w w':World} {b:Bdy} {bh:BH} {r:Nat} (h:Ck w b bh r) (hb:Below w.heap.size w w'):Ck w' b bh r:=⟨h.at_.keep hb,h.ok,h.rel.keep hb⟩
theorem pZ {b:Bdy} {bh:BH} {r:Nat} {w:World} (H:Ck w b bh r) (o:Opd) (A:Option Addr) (c:Nat) (hp:Slc 2 RPj w A c o.place.proj):
 Calls Tryz.prog 119 #[.agg (ckC b bh r).toArray,.agg (opC o A c).toArray] w fun e' w'=>e' = .returned (.int .i64 (opE b o))/\Below w.heap.size w w':=
 rP b bh r o A c w H.at_ hp H.ok.okay (fun W hb i _h0 _h1=>xGO b.types H.ok.tyok H.ok.ntyp i bh.A3 bh.c3 W (H.keep hb).at_.typ)
theorem tI {b:Bdy} {o:Opd} (h:opE b o=0):o.kind≠2->o.kind≠3->o.kind≠4->(tyB b o.place).2=0:=by
 intro h2 h3 h4;unfold opE at h;by_cases c1:o.kind<0\/4<o.kind
 ·rw [bA c1] at h;cases h
 rw [aZ c1] at h;by_cases c2:(o.kind≠2/\o.kind≠3/\o.n≠0)\/(1<o.kind/\zeroP o.place=false)
 ·rw [bA c2] at h;cases h
 rw [aZ c2,aZ (by omega),aZ (by omega)] at h;by_cases c3:(tyB b o.place).2≠0
 ·rw [bA c3] at h;exact h
 ·simpa using c3
theorem tJ {b:Bdy} {o:Opd} (h:opE b o=0):0<=o.kind/\o.kind<=4:=by
 unfold opE at h;by_cases c1:o.kind<0\/4<o.kind
 ·rw [bA c1] at h;cases h
 ·omega
theorem tS {b:Bdy} {bh:BH} {r:Nat} {w:World} (H:Ck w b bh r) (o:Opd) (A:Option Addr) (c:Nat) (hp:Slc 2 RPj w A c o.place.proj) (ho:opE b o=0):
 Calls Tryz.prog 121 #[.agg (ckC b bh r).toArray,.agg (opC o A c).toArray] w fun e' w'=>e' = .returned (.int .i64 (kindO b o))/\Below w.heap.size w w':=
 nH b bh r o A c w H.at_ hp H.ok.okay (tI ho)
theorem xID {b:Bdy} {bh:BH} {r:Nat} {w:World} (H:Ck w b bh r) (o:Opd) (A:Option Addr) (c:Nat) (hp:Slc 2 RPj w A c o.place.proj) (ho:opE b o=0) (f:Int) (h0:0<=f) (hf:f<b.types.length):
 Calls Tryz.prog 155 #[.agg (ckC b bh r).toArray,.agg (opC o A c).toArray,.int .i64 f] w fun e' w'=>e' = .returned (.bool (fitsO b o f))/\Below w.heap.size w w':=by
 obtain ⟨f,rfl⟩:=bG h0;exact xCU b bh r o f A c w H.at_ hp H.ok.okay (tI ho) (by omega) (fun W hb i _ _=>xEQ b bh.A3 bh.c3 r i f W (H.keep hb).at_.typ H.ok (H.keep hb).rel)
end
section
open Go Go.RowKit Go.Maps
theorem dG (b:Bdy) (fs:List Int):opsE b [] fs=0:=by rw [opsE]
theorem eW {b:Bdy} {o:Opd} (h:opE b o≠0) (r:List Opd) (fs:List Int):opsE b (o :: r) fs=opE b o:=by
 cases fs <;> (rw [opsE,aZ h])
theorem fD {b:Bdy} {o:Opd} (h:opE b o=0) (r:List Opd):opsE b (o :: r) []=opsE b r []:=by rw [opsE,bA h]
theorem lN {b:Bdy} {o:Opd} (h:opE b o=0) (r:List Opd) (f:Int) (fs:List Int):opsE b (o :: r) (f :: fs)=if fitsO b o f=true then opsE b r fs else 22:=by rw [opsE,bA h]
theorem keepO {w W:World} {o:Obj} {p:Addr} {v:Value} (hb:Below (w.alloc o).heap.size (w.alloc o) W) (h:w.cell? p=some v):W.cell? p=some v:=
 cM hb (((((aX w.heap.size w).alloc (aY _) o).cell (p:=p) (cD w p h))).trans h)
theorem dL {W w1:World} {n:Nat} {l:List Value} {o:Obj} (h:∀i v,l[i]?=some v->W.cell? ⟨n,i,none⟩=some v) (hb:Below (W.alloc o).heap.size (W.alloc o) w1):∀i v,l[i]?=some v->w1.cell? ⟨n,i,none⟩=some v:=
 fun i v hi=>keepO hb (h i v hi)
theorem fK {b:Bdy} {bh:BH} {r:Nat} {w:World} (H:Ck w b bh r) (l:List Opd) (fs:List Int) (A C:Option Addr) (d f:Nat) (hl:Slc 4 ROp w A d l) (hf:Slc 1 RInt w C f fs) (hfr:∀x∈fs,0<=x/\x<(b.types.length:Int)):
 Calls Tryz.prog 122 #[.agg (ckC b bh r).toArray,.slice A l.length d,.slice C fs.length f] w fun e' w'=>e' = .returned (.int .i64 (opsE b l fs))/\Below w.heap.size w w':=by
 have hle:=hl.le;have hbig:=hl.big;have hle2:=hf.le;have hbig2:=hf.big;have HO:=aF (fun (W:World) (hb:Below w.heap.size w W) (o:Opd) (A:Option Addr) (c:Nat) (hp:Slc 2 RPj w A c o.place.proj)=>pZ (H.keep hb) o A c (hp.keep RPj.keeps hb));have HFT:=aF (fun (W:World) (hb:Below w.heap.size w W) (o:Opd) (A:Option Addr) (c:Nat) (hp:Slc 2 RPj w A c o.place.proj) (ho:opE b o=0) (f:Int) (h0:0<=f) (hf:f<b.types.length)=>xID (H.keep hb) o A c (hp.keep RPj.keeps hb) ho f h0 hf);have HL:=aF hl;have HFS:=aF hf;obtain ⟨R,hR⟩:∃R,opsE b l fs=R:=⟨_,rfl⟩;rw [hR];have HR:=aF hR;have HX0:=aF (cU w (ckC b bh r) 122);clear hR hl hf H;unfold ckC at HO HFT HX0 ⊢;go_enter Tryz.func122,Tryz.ntmps122
 go_wp2_with fail
 go_loopw [12] (fun v wr=>∃k:Nat,k<=l.length/\v = .int .i64 k/\Hid (aA (bdH b bh [.pointer (some ⟨r,0,none⟩)]) wr w.heap.size)/\Hid (Below w.heap.size w wr)/\w.heap.size+1<=wr.heap.size/\Hid (R=opsE b (l.drop k) (fs.drop k))) (fun v _=>l.length - (intOf v).toNat)
 case atStart=>exact ⟨0,by omega,rfl,HX0,aF ((aX _ _).alloc (aY _) _),by simp,aF HR.out.symm⟩
 case round=>
  clear HX0;obtain ⟨k,hk,rfl,HX,HB,hsz,hr⟩:=hrel;have hlw:w.heap.size<wr.heap.size:=hsz;obtain ⟨x0,x1,x2,x3,x4,x5,x6,x7⟩:=aT HX.out;by_cases hlt:k<l.length
  ·have hd:=cV hlt;obtain ⟨bb,oo,rfl,hbb,hx⟩:=HL.out.sl.at_ hlt;obtain ⟨o,hxx⟩:∃o,l[k]=o:=⟨_,rfl⟩;rw [hxx] at hd hx;obtain ⟨p0,⟨p1,A2,c2,p2,hc1,hc2,hsl⟩,p3⟩:=hx;have HPJ:Hid (Slc 2 RPj w A2 c2 o.place.proj):=aF ⟨hsl,hc1,hc2⟩;replace p0:=cM HB.out p0;replace p1:=cM HB.out p1;replace p2:=cM HB.out p2;replace p3:=cM HB.out p3;rw [Nat.add_assoc (oo+k * 4) 1 1] at p2;have HOK:=aF (fun W hb=>HO.out W hb o A2 c2 HPJ.out);have HQ:Hid (R=opsE b (o :: l.drop (k+1)) (fs.drop k)):=aF (by rw [hr.out,hd]);clear hd hxx hsl hc1 hc2 hr;unfold opC at HOK;by_cases he:opE b o=0
   ·have HE:=aF he;rw [he] at HOK;have HBA:=aF (HB.out.alloc (by omega) (.cells (opC o A2 c2).toArray 160));by_cases hkf:k<fs.length
    ·obtain ⟨b3,o3,rfl,hb3,hy⟩:=HFS.out.sl.at_ hkf;have hyr:=hfr fs[k] (bN hkf);obtain ⟨y,hyy⟩:∃y,fs[k]=y:=⟨_,rfl⟩;have hd2:=cV hkf;rw [hyy] at hy hyr hd2;have y0:w.cell? ⟨b3,o3+k,none⟩=some (.int .i64 y):=(by simpa [RInt] using hy);have HY0:=aF y0;have HQ2:Hid (R=if fitsO b o y=true then opsE b (l.drop (k+1)) (fs.drop (k+1)) else 22):=aF (by rw [HQ.out,hd2,lN he]);have HFK:=aF (fun W hb=>HFT.out W hb o A2 c2 HPJ.out he y hyr.1 hyr.2);unfold opC at HFK;have ek:decide ((k:Int)<(fs.length:Int))=true:=by simp;omega
     have EK:=aF ek;clear hy hyy hyr hd2 he HQ y0 ek;generalize fitsO b o y=q at HFK HQ2;go_wp2_with (go_at_call 119;refine (HOK.out _ HBA.out).mono ?_;rintro e' w1 ⟨rfl,hb1⟩;have HB1:=aF hb1;have HW1:=aF (HBA.out.trans (hb1.mono HBA.out.size));clear hb1)
     have hS:=bJ (dL HX.out HB1.out) (bJ (cN (cU wr (opC o A2 c2) 160) HB1.out) (cM HW1.out HY0.out));replace hS:(aA (bdH b bh [.pointer (some ⟨r,0,none⟩)]) w1.drew w.heap.size)/\(aA (opC o A2 c2) w1.drew wr.heap.size)/\w1.drew.cell? ⟨b3,o3+k,none⟩=some (.int .i64 y):=hS;clear x0 x1 x2 x3 x4 x5 x6 x7 p0 p1 p2 p3;refine cO (S:=fun X=>(aA (bdH b bh [.pointer (some ⟨r,0,none⟩)]) X w.heap.size)/\(aA (opC o A2 c2) X wr.heap.size)/\X.cell? ⟨b3,o3+k,none⟩=some (.int .i64 y)) [0,1,2,3,4,5,6,7,8,9,10,11,12,13] (by kernel_rfl) ?_;(iterate 4 (refine cP (v:=?_) ?_ hS ?_;rotate_left;(next=>(rintro X -;(try simp only [aI]);go_simp;rfl));simp only [aM]));try rw [EK.out]
     (iterate 7 (refine cP (v:=?_) ?_ hS ?_;rotate_left;(next=>(rintro X ⟨hX,hY,s8⟩;obtain ⟨s0,s1,s2,s3,s4,s5,s6,s7⟩:=aT hX;obtain ⟨u0,u1,u2,u3⟩:=aP hY;(try simp only [aI]);go_simp;rfl));simp only [aM]));(refine cS (fun K1 hK1=>?_);simp only [aM];rw [bA (by rfl)];go_simp);refine (HFK.out _ HW1.out.drew).mono ?_;rintro e' w2 ⟨rfl,hb⟩;replace hS:=bJ (fun i v hi=>cM hb (hS.1 i v hi)) (bJ (fun i v hi=>cM hb (hS.2.1 i v hi)) (cM hb hS.2.2));have HW2:=aF (HW1.out.drew.trans (hb.mono HW1.out.size));have hsz2:=HW1.out.size;have hsz3:=hb.size;have hsz4:=HB1.out.size;simp only [bI] at hsz4;clear hb;refine hK1.out _ _ (fun _=>hS) ?_;(iterate 2 (refine cP (v:=?_) ?_ hS ?_;rotate_left;(next=>(rintro X -;(try simp only [aI]);go_simp;rfl));simp only [aM]));refine cZ ?_;cases q
     ·have HF:Hid (R=22):=HQ2;clear HQ2;go_wp2_with fail
      go_ret;exact ⟨by rw [HF.out];rfl,HW2.out⟩
     ·have HF:Hid (R=opsE b (l.drop (k+1)) (fs.drop (k+1))):=HQ2;have HX2:=aF hS.1;clear HQ2 hS;go_wp2_with fail
      go_roundw
      case rel=>exact ⟨k+1,by omega,by go_num,HX2,HW2,by have:w1.drew.heap.size=w1.heap.size:=rfl;omega,HF⟩
      case measure=>simp [intOf];omega
    ·have ek:decide ((k:Int)<(fs.length:Int))=false:=by simp;omega
     have EK:=aF ek;have HF:Hid (R=opsE b (l.drop (k+1)) (fs.drop (k+1))):=aF (by rw [HQ.out,bE (by omega:fs.length<=k),bE (by omega:fs.length<=k+1),fD he]);clear he HQ ek;go_wp2_with (go_at_call 119;refine (HOK.out _ HBA.out).mono ?_;rintro e' w1 ⟨rfl,hb1⟩;have HB1:=aF hb1;have HW1:=aF (HBA.out.trans (hb1.mono HBA.out.size));clear hb1)
     have hS:True:=trivial;have HX2:=aF (dL HX.out HB1.out);have hsz4:=HB1.out.size;simp only [bI] at hsz4;clear x0 x1 x2 x3 x4 x5 x6 x7 p0 p1 p2 p3;refine cO (S:=fun _=>True) [0,1,2,3,4,5,6,7,8,9,10,11,12,13] (by kernel_rfl) ?_;(iterate 4 (refine cP (v:=?_) ?_ hS ?_;rotate_left;(next=>(rintro X -;(try simp only [aI]);go_simp;rfl));simp only [aM]));try rw [EK.out]
     ((refine cP (v:=?_) ?_ hS ?_;rotate_left;(next=>(rintro X -;(try simp only [aI]);go_simp;rfl));simp only [aM]))
     (iterate 8 (refine cY (v:=undef) (by kernel_rfl) (fun _ _ _ h=>h) (Or.inr ⟨by rfl,rfl⟩) hS ?_;simp only [aM]));((refine cP (v:=?_) ?_ hS ?_;rotate_left;(next=>(rintro X -;(try simp only [aI]);go_simp;rfl));simp only [aM]))
     refine cZ ?_;go_wp2_with fail
     go_roundw
     case rel=>exact ⟨k+1,by omega,by go_num,HX2,aF HW1.out.drew,by have:w1.drew.heap.size=w1.heap.size:=rfl;omega,HF⟩
     case measure=>simp [intOf];omega
   ·have HF:Hid (R=opE b o):=aF (by rw [HQ.out,eW he]);generalize opE b o=eo at HOK HF he;have e1:(eo != 0)=true:=by simp [he]
    have HBA:=aF (HB.out.alloc (by omega) (.cells (opC o A2 c2).toArray 160));clear he HQ;go_wp2_with (go_at_call 119;refine (HOK.out _ HBA.out).mono ?_;rintro e' w1 ⟨rfl,hb1⟩;have HW1:=aF (HBA.out.trans (hb1.mono HBA.out.size));clear hb1)
    go_ret;exact ⟨by rw [HF.out];rfl,HW1.out⟩
  ·have HF:Hid (R=0):=aF (by rw [hr.out,bE (by omega:l.length<=k),dG]);clear hr;go_wp2_with fail
   go_ret;exact ⟨by rw [HF.out];rfl,HB.out⟩
theorem iH {b:Bdy}:∀{l:List Opd},opsE b l []=0->∀o∈l,opE b o=0
 | [],_=>by simp
 | o :: r,h=>by
   by_cases he:opE b o=0
   ·rw [fD he] at h;intro x hx;rcases List.mem_cons.1 hx with rfl | hx
    ·exact he
    ·exact iH h x hx
   ·rw [eW he] at h;exact absurd h he
theorem wR (w:World) (x y:Value) (t:TypeId) (k:Nat) (hk:k=w.heap.size):(w.alloc (.cells #[x,y] t)).cell? ⟨k,0,none⟩=some x/\(w.alloc (.cells #[x,y] t)).cell? ⟨k,1,none⟩=some y:=by
 subst hk;exact ⟨cU w [x,y] t 0 _ rfl,cU w [x,y] t 1 _ rfl⟩
theorem iI {b:Bdy} {bh:BH} {r:Nat} {w:World} (H:Ck w b bh r) (rv:Rvl) (t:Nat) (ht:t<b.types.length) (tab:List (Int × Int)) (A B T:Option Addr) (c d tc:Nat) (hl:Slc 4 ROp w B d rv.args) (hT:Slc 2 RPr w T tc tab):
 Calls Tryz.prog 152 #[.agg (ckC b bh r).toArray,.agg (rvC rv A c B d).toArray,.int .i64 t,.slice T tab.length tc] w fun e' w'=>e' = .returned (.int .i64 (operE b rv t tab))/\Below w.heap.size w w':=by
 have hle:=hl.le;have hbig:=hl.big;have hle2:=hT.le;have hbig2:=hT.big;have HP:=aF (fun (W:World) (hb:Below w.heap.size w W)=>fK (H.keep hb) rv.args [] B none d 0 (hl.keep ROp.keeps hb) ⟨Sl.nil,by simp,by omega⟩ (by simp));have HK:=aF (fun (W:World) (hb:Below w.heap.size w W) (o:Opd) (A:Option Addr) (c:Nat) (hp:Slc 2 RPj w A c o.place.proj) (ho:opE b o=0)=>tS (H.keep hb) o A c (hp.keep RPj.keeps hb) ho);have HL:=aF hl;have HTB:=aF hT;have HTY:=aF H.at_.typ;obtain ⟨R,hR⟩:∃R,operE b rv t tab=R:=⟨_,rfl⟩;rw [hR];have HR:=aF hR;clear hR hl hT H;unfold operE at HR;unfold ckC at HP HK ⊢;unfold rvC;by_cases h0:rv.op<0\/(tab.length:Int)<=rv.op
 ·have HF:Hid (R=14):=aF (by rw [<- HR.out,bA h0]);clear HR HP HK;go_enter Tryz.func152,Tryz.ntmps152
  go_wp2_with fail
  all_goals first
   | (exfalso;omega)
   | (go_ret;exact ⟨by rw [HF.out];rfl,aH⟩)
 have h1:¬rv.op<0:=by omega
 have h2:¬(tab.length:Int)<=rv.op:=by omega
 obtain ⟨n,hn⟩:=bG (show 0<=rv.op by omega);have hnl:n<tab.length:=by omega
 by_cases he:opsE b rv.args []=0
 case neg=>
  have HF:Hid (R=opsE b rv.args []):=aF (by rw [<- HR.out,aZ h0,bA he]);generalize opsE b rv.args []=eo at HP HF he;have e1:(eo != 0)=true:=by simp [he]
  clear HR HK he h0;go_enter Tryz.func152,Tryz.ntmps152
  go_wp2_with (go_at_call 122;refine (HP.out _ (bel2 _ _ _)).mono ?_;rintro e' w1 ⟨rfl,hb1⟩;have HB:=aF ((bel2 _ _ _).trans (hb1.mono (bel2 _ _ _).size));clear hb1)
  go_ret;exact ⟨by rw [HF.out];rfl,HB.out⟩
 case pos=>
 obtain ⟨bt,ot,rfl,hbt,hxt⟩:=HTB.out.sl.at_ hnl;obtain ⟨bb,oo,hA3,hbb,hxx⟩:=HTY.out.sl.at_ ht;obtain ⟨ty,hty⟩:∃ty,b.types[t]=ty:=⟨_,rfl⟩;obtain ⟨x,hx⟩:∃x,tab[n]=x:=⟨_,rfl⟩;rw [hty] at hxx;rw [hx] at hxt;obtain ⟨q0,-⟩:=hxx;obtain ⟨u0,u1⟩:=hxt;have HE:=aF (iH he);have hkt:kindT b (t:Int)=ty.kind:=by unfold kindT;simp [ht,hty]
 have HF:Hid (R=if rv.args.all (fun o=>decide (kindO b o=x.1))=true then fail22 (decide (ty.kind≠x.2)) else 22):=aF (by
  rw [<- HR.out,aZ h0,aZ (by simpa using he),hn];simp only [bW];rw [bD hnl,hx]
  simp only [hkt])
 rw [he] at HP;have Q0:=aF q0;clear HR h0 he hx hty hkt;obtain ⟨x1,x2⟩:=x;simp only at u0 u1 HF;rw [hA3] at HP HK ⊢;rw [hn];rw [hn] at h1 h2;go_enter Tryz.func152,Tryz.ntmps152
 go_wp2_with (go_at_call 122;refine (HP.out _ (bel2 _ _ _)).mono ?_;rintro e' w1 ⟨rfl,hb1⟩;have HB:=aF ((bel2 _ _ _).trans (hb1.mono (bel2 _ _ _).size));obtain ⟨y,z⟩:=cT hb1;have HY:=aF y;have HZ:=aF z;have y3:=y 3 _ rfl;obtain ⟨-,z1,-,-,-,-,z5⟩:=aS z;have v0:=cM HB.out u0;have v1:=cM HB.out u1;have hlw:=hb1.size;simp only [bI] at hlw;have hlw1:w.heap.size+1<w1.heap.size:=hlw;have hlw0:w.heap.size<w1.heap.size:=cC hlw;clear y z hb1)
 have HXC:=aF (wR w1 (.int .i64 x1) (.int .i64 x2) 213 _ rfl);have HY1:Hid (∀i v,[Value.string b.name,.slice bh.A1 b.regions.length bh.c1,.slice bh.A2 b.outl.length bh.c2,.slice (some ⟨bb,oo,none⟩) b.types.length bh.c3,.slice bh.A4 b.locals.length bh.c4,.int .i64 b.args,.slice bh.A5 b.blocks.length bh.c5,.pointer (some ⟨r,0,none⟩)][i]?=some v->(w1.alloc (.cells #[.int .i64 x1,.int .i64 x2] 213)).cell? ⟨w.heap.size,i,none⟩=some v):=aF (fun i v hi=>cM ((aX _ _).alloc (aY _) _) (HY.out i v hi));have HBL:=aF (HB.out.alloc HB.out.size (.cells #[.int .i64 x1,.int .i64 x2] 213));clear HY HZ;go_loopw [38] (fun v wr=>∃k:Nat,k<=rv.args.length/\v = .int .i64 k/\Hid (aA (bdM b bh.A1 bh.c1 bh.A2 bh.c2 (some ⟨bb,oo,none⟩) bh.c3 bh.A4 bh.c4 bh.A5 bh.c5 [.pointer (some ⟨r,0,none⟩)]) wr w.heap.size)/\Hid (wr.cell? ⟨w1.heap.size,0,none⟩=some (.int .i64 x1)/\wr.cell? ⟨w1.heap.size,1,none⟩=some (.int .i64 x2))/\Hid (Below w.heap.size w wr)/\w1.heap.size+1<=wr.heap.size/\Hid (R=if (rv.args.drop k).all (fun o=>decide (kindO b o=x1))=true then fail22 (decide (ty.kind≠x2)) else 22)) (fun v _=>rv.args.length - (intOf v).toNat)
 case atStart=>exact ⟨0,by omega,rfl,HY1,HXC,HBL,by simp,HF⟩
 case round=>
  clear HY1 HXC HBL HF;obtain ⟨k,hk,rfl,HX,HXC,HBR,hsz,hr⟩:=hrel;by_cases hlt:k<rv.args.length
  ·have hd:=cV hlt;obtain ⟨b5,o5,rfl,hb5,hx⟩:=HL.out.sl.at_ hlt;have he:=HE.out _ (bN hlt);obtain ⟨o,hxx⟩:∃o,rv.args[k]=o:=⟨_,rfl⟩;rw [hxx] at hd hx he;obtain ⟨p0,⟨p1,A2,c2,p2,hc1,hc2,hsl⟩,p3⟩:=hx;have HPJ:Hid (Slc 2 RPj w A2 c2 o.place.proj):=aF ⟨hsl,hc1,hc2⟩;replace p0:=cM HBR.out p0;replace p1:=cM HBR.out p1;replace p2:=cM HBR.out p2;replace p3:=cM HBR.out p3;rw [Nat.add_assoc (o5+k * 4) 1 1] at p2;have HKK:=aF (fun W hb=>HK.out W hb o A2 c2 HPJ.out he);have HQ:Hid (R=if kindO b o=x1 then (if (rv.args.drop (k+1)).all (fun o=>decide (kindO b o=x1))=true then fail22 (decide (ty.kind≠x2)) else 22) else 22):=aF (by rw [hr.out,hd,cB];by_cases h:kindO b o=x1 <;> simp [h]);clear hd hxx hsl hc1 hc2 hr he;unfold opC at HKK;generalize kindO b o=ko at HKK HQ;have HBA:=aF ((HBR.out.alloc HBR.out.size (.cells (opC o A2 c2).toArray 160)).drew);have HQ2:Hid ((ko=x1->R=(if (rv.args.drop (k+1)).all (fun o=>decide (kindO b o=x1))=true then fail22 (decide (ty.kind≠x2)) else 22))/\(ko≠x1->R=22)):=aF ⟨fun h=>by rw [HQ.out,bA h],fun h=>by rw [HQ.out,aZ h]⟩;clear HQ;go_wp2_with fail
   have hS:(∀i v,[Value.string b.name,.slice bh.A1 b.regions.length bh.c1,.slice bh.A2 b.outl.length bh.c2,.slice (some ⟨bb,oo,none⟩) b.types.length bh.c3,.slice bh.A4 b.locals.length bh.c4,.int .i64 b.args,.slice bh.A5 b.blocks.length bh.c5,.pointer (some ⟨r,0,none⟩)][i]?=some v->(wr.alloc (.cells (opC o A2 c2).toArray 160)).drew.cell? ⟨w.heap.size,i,none⟩=some v)/\(∀i v,(opC o A2 c2)[i]?=some v->(wr.alloc (.cells (opC o A2 c2).toArray 160)).drew.cell? ⟨wr.heap.size,i,none⟩=some v)/\(wr.alloc (.cells (opC o A2 c2).toArray 160)).drew.cell? ⟨w1.heap.size,0,none⟩=some (.int .i64 x1)/\(wr.alloc (.cells (opC o A2 c2).toArray 160)).drew.cell? ⟨w1.heap.size,1,none⟩=some (.int .i64 x2):=
    ⟨fun i v hi=>cM (((aX _ _).alloc (aY _) _).drew) (HX.out i v hi),cU wr (opC o A2 c2) 160,cM (((aX _ _).alloc (aY _) _).drew) HXC.out.1,cM (((aX _ _).alloc (aY _) _).drew) HXC.out.2⟩
   clear p0 p1 p2 p3;refine cO (S:=fun X=>(aA (bdM b bh.A1 bh.c1 bh.A2 bh.c2 (some ⟨bb,oo,none⟩) bh.c3 bh.A4 bh.c4 bh.A5 bh.c5 [.pointer (some ⟨r,0,none⟩)]) X w.heap.size)/\(aA (opC o A2 c2) X wr.heap.size)/\X.cell? ⟨w1.heap.size,0,none⟩=some (.int .i64 x1)/\X.cell? ⟨w1.heap.size,1,none⟩=some (.int .i64 x2)) [0,1,3,4,2,5] (by kernel_rfl) ?_;(iterate 4 (refine cP (v:=?_) ?_ hS ?_;rotate_left;(next=>(rintro X ⟨hX,hY,s8,s9⟩;obtain ⟨s0,s1,s2,s3,s4,s5,s6,s7⟩:=aT hX;obtain ⟨u0,u1,u2,u3⟩:=aP hY;(try simp only [aI]);go_simp;rfl));simp only [aM]));(refine cS (fun K1 hK1=>?_);simp only [aM];rw [bA (by rfl)];go_simp);refine (HKK.out _ HBA.out).mono ?_;rintro e' w2 ⟨rfl,hb⟩;replace hS:=bJ (fun i v hi=>cM hb (hS.1 i v hi)) (bJ (fun i v hi=>cM hb (hS.2.1 i v hi)) (bJ (cM hb hS.2.2.1) (cM hb hS.2.2.2)));have HW2:=aF (HBA.out.trans (hb.mono HBA.out.size));have hsz3:=hb.size;have hsz4:wr.heap.size+1<=w2.heap.size:=by simpa using hsz3
   clear hb hsz3;refine hK1.out _ _ (fun _=>hS) ?_;clear hK1;have HX2:=aF hS.1;have HXC2:=aF hS.2.2;((refine cP (v:=?_) ?_ hS ?_;rotate_left;(next=>(rintro X -;(try simp only [aI]);go_simp;rfl));simp only [aM]))
   refine cZ ?_;clear hS;by_cases hkx:ko=x1
   ·have e1:(ko != x1)=false:=by simp [hkx]
    have HF:=aF (HQ2.out.1 hkx);clear HQ2 hkx;go_wp2_with fail
    go_roundw
    case rel=>exact ⟨k+1,by omega,by go_num,HX2,HXC2,HW2,by omega,HF⟩
    case measure=>simp [intOf];omega
   ·have e1:(ko != x1)=true:=by simp [hkx]
    have HF:=aF (HQ2.out.2 hkx);clear HQ2 hkx;go_wp2_with fail
    go_ret;exact ⟨by rw [HF.out];rfl,HW2.out⟩
  ·have HF:Hid (R=fail22 (decide (ty.kind≠x2))):=aF (by rw [hr.out,bE (by omega:rv.args.length<=k)];rfl);clear hr;go_wp2_with fail
   have hS:=bJ HX.out (bJ HXC.out (cM HBR.out Q0.out));refine cO (S:=fun X=>(aA (bdM b bh.A1 bh.c1 bh.A2 bh.c2 (some ⟨bb,oo,none⟩) bh.c3 bh.A4 bh.c4 bh.A5 bh.c5 [.pointer (some ⟨r,0,none⟩)]) X w.heap.size)/\(X.cell? ⟨w1.heap.size,0,none⟩=some (.int .i64 x1)/\X.cell? ⟨w1.heap.size,1,none⟩=some (.int .i64 x2))/\X.cell? ⟨bb,oo+t * 5,none⟩=some (.int .i64 ty.kind)) [0,1,2,3,4,5,6,7,8,9,10,11] (by kernel_rfl) ?_;(iterate 10 (refine cP (v:=?_) ?_ hS ?_;rotate_left;(next=>(rintro X ⟨hX,⟨s8,s9⟩,sT⟩;have s3:=hX 3 _ rfl;(try simp only [aI]);go_simp;rfl));simp only [aM]));(refine cS (fun K1 hK1=>?_);simp only [aM];rw [bA (by rfl)];go_simp);refine (dY _ _).mono ?_;rintro e' w3 ⟨rfl,hw⟩;obtain rfl:=hw.symm;refine hK1.out _ _ (fun _=>hS) ?_;((refine cP (v:=?_) ?_ hS ?_;rotate_left;(next=>(rintro X -;(try simp only [aI]);go_simp;rfl));simp only [aM]))
   refine cZ ?_;go_wp2_with fail
   go_ret;exact ⟨by rw [HF.out];show Ending.returned (.int .i64 (fail22 (ty.kind != x2)))=_;have e:(ty.kind != x2)=decide (ty.kind≠x2):=(by rw [bR];simp);rw [e],HBR.out.drew⟩
theorem wE {b:Bdy} {bh:BH} {r:Nat} {w:World} (H:Ck w b bh r) (rv:Rvl) (t:Nat) (ht:t<b.types.length) (A B:Option Addr) (c d:Nat) (hp:Slc 2 RPj w A c rv.place.proj):
 Calls Tryz.prog 151 #[.agg (ckC b bh r).toArray,.agg (rvC rv A c B d).toArray,.int .i64 t] w fun e' w'=>e' = .returned (.int .i64 (borE b rv t))/\Below w.heap.size w w':=by
 have HT:=aF (fun W (hb:Below w.heap.size w W)=>eM b bh r rv.place A c W (H.keep hb).at_ (hp.keep RPj.keeps hb) H.ok.okay);have HM:=aF (fun W (hb:Below w.heap.size w W)=>lS b.types b.locals rv.place.loc rv.place.proj bh.A3 bh.A4 A bh.c3 bh.c4 c W (H.keep hb).at_.typ (H.keep hb).at_.loc (hp.keep RPj.keeps hb) H.ok.okay);have HG:=aF (fun W (hb:Below w.heap.size w W)=>rF b.types b.locals rv.place.loc rv.place.proj bh.A3 bh.A4 A bh.c3 bh.c4 c W (H.keep hb).at_.typ (H.keep hb).at_.loc (hp.keep RPj.keeps hb) H.ok.okay);have HO:=aF (fun W (hb:Below w.heap.size w W) (x:Int)=>kS b.outl b.regions.length x rv.reg r W (H.keep hb).rel H.ok.pairs (by have:=H.ok.nreg;omega) H.ok.nout);change Hid (∀W,Below w.heap.size w W->Calls Tryz.prog 149 _ W fun e' w'=>e' = .returned (.bool (mutB b rv.place))/\Below W.heap.size W w') at HM;have hbl:=H.at_.reg.le;have hbg:=H.at_.reg.big;obtain ⟨bb,oo,hA3,hbb,hxx⟩:=H.at_.typ.sl.at_ ht;have hle3:=H.at_.typ.le;have hbig3:=H.at_.typ.big;obtain ⟨ty,hty⟩:∃ty,b.types[t]=ty:=⟨_,rfl⟩;rw [hty] at hxx;obtain ⟨q0,q1,q2,q3,A5,c5,q4,-,-,-⟩:=hxx;obtain ⟨R,hR⟩:∃R,borE b rv t=R:=⟨_,rfl⟩;rw [hR]
 have HR:Hid (R=if (tyB b rv.place).2≠0 then (tyB b rv.place).2 else if rv.reg<0\/(b.regions.length:Int)<=rv.reg then 3 else if ty.kind≠3\/ty.reg≠rv.reg\/ty.mu≠rv.mu\/ty.elem≠(tyB b rv.place).1 then 22 else if rv.mu=true/\mutB b rv.place=false then 22 else if ((refsOf b.types b.locals rv.place.loc rv.place.proj).1.map (·.reg)).all (fun x=>outB b.outl b.regions.length x rv.reg)=true then 0 else 22):=aF (by
  rw [<- hR,borE];simp only [bW];rw [bD ht,hty,List.all_map]
  rfl)
 have HLN:Hid (((refsOf b.types b.locals rv.place.loc rv.place.proj).1.map (·.reg)).length=(refsOf b.types b.locals rv.place.loc rv.place.proj).1.length):=aF (cF _);generalize (refsOf b.types b.locals rv.place.loc rv.place.proj).1.length=nl at HLN HG;generalize (refsOf b.types b.locals rv.place.loc rv.place.proj).1.map (·.reg)=rs at HG HR HLN;generalize tyB b rv.place=q at HT HR;generalize mutB b rv.place=mb at HM HR;obtain ⟨ti,te⟩:=q;simp only at HR HT;clear hR hty H hp;unfold ckC at HT ⊢;unfold rvC;rw [hA3] at HT HM HG ⊢;by_cases he:te=0
 case neg=>
  have HF:Hid (R=te):=aF (by rw [HR.out,bA he]);have e1:(te != 0)=true:=by simp [he]
  clear HR he HM HG HO;go_enter Tryz.func151,Tryz.ntmps151
  go_wp2_with (go_at_call 123;refine (HT.out _ (bel2 _ _ _)).mono ?_;rintro e' w1 ⟨rfl,hb1⟩;have HB:=aF ((bel2 _ _ _).trans (hb1.mono (bel2 _ _ _).size));obtain ⟨y,z⟩:=cT hb1;have HY:=aF y;have HZ:=aF z;obtain ⟨y0,y1,y2,y3,y4,y5,y6,y7⟩:=aT HY.out;obtain ⟨z0,z1,z2,z3,z4,z5,z6⟩:=aS HZ.out;have v0:=cM HB.out q0;have v1:=cM HB.out q1;have v2:=cM HB.out q2;have v3:=cM HB.out q3;have v4:=cM HB.out q4;have hlw:=hb1.size;simp only [bI] at hlw;have hlw1:w.heap.size+1<w1.heap.size:=hlw;have hlw0:w.heap.size<w1.heap.size:=cC hlw;clear y z hb1)
  go_ret;exact ⟨by rw [HF.out];rfl,HB.out.alloc HB.out.size _⟩
 case pos=>
 subst he;by_cases h0:rv.reg<0\/(b.regions.length:Int)<=rv.reg
 case pos=>
  have HF:Hid (R=3):=aF (by rw [HR.out,aZ (by simp),bA h0]);clear HR HM HG HO;go_enter Tryz.func151,Tryz.ntmps151
  go_wp2_with (go_at_call 123;refine (HT.out _ (bel2 _ _ _)).mono ?_;rintro e' w1 ⟨rfl,hb1⟩;have HB:=aF ((bel2 _ _ _).trans (hb1.mono (bel2 _ _ _).size));obtain ⟨y,z⟩:=cT hb1;have HY:=aF y;have HZ:=aF z;obtain ⟨y0,y1,y2,y3,y4,y5,y6,y7⟩:=aT HY.out;obtain ⟨z0,z1,z2,z3,z4,z5,z6⟩:=aS HZ.out;have v0:=cM HB.out q0;have v1:=cM HB.out q1;have v2:=cM HB.out q2;have v3:=cM HB.out q3;have v4:=cM HB.out q4;have hlw:=hb1.size;simp only [bI] at hlw;have hlw1:w.heap.size+1<w1.heap.size:=hlw;have hlw0:w.heap.size<w1.heap.size:=cC hlw;clear y z hb1)
  all_goals first
   | (exfalso;omega)
   | (go_ret;exact ⟨by rw [HF.out];rfl,HB.out.alloc HB.out.size _⟩)
 case neg=>
 have h1:¬rv.reg<0:=by omega
 have h2:¬(b.regions.length:Int)<=rv.reg:=by omega
 have HR2:Hid (R=if ty.kind≠3\/ty.reg≠rv.reg\/ty.mu≠rv.mu\/ty.elem≠ti then 22 else if rv.mu=true/\mb=false then 22 else if rs.all (fun x=>outB b.outl b.regions.length x rv.reg)=true then 0 else 22):=aF (by rw [HR.out,aZ (by simp),aZ h0]);clear HR h0;obtain ⟨p1,hp1⟩:∃p,(ty.kind != 3)=p:=⟨_,rfl⟩;obtain ⟨p2,hp2⟩:∃p,(ty.reg != rv.reg)=p:=⟨_,rfl⟩;obtain ⟨p3,hp3⟩:∃p,(ty.mu != rv.mu)=p:=⟨_,rfl⟩;obtain ⟨p4,hp4⟩:∃p,(ty.elem != ti)=p:=⟨_,rfl⟩
 have HR3:Hid (R=if p1=true\/p2=true\/p3=true\/p4=true then 22 else if rv.mu=true/\mb=false then 22 else if rs.all (fun x=>outB b.outl b.regions.length x rv.reg)=true then 0 else 22):=aF (by
  rw [HR2.out,<- hp1,<- hp2,<- hp3,<- hp4]
  simp only [bne_iff_ne])
 clear HR2;by_cases hor:p1=true\/p2=true\/p3=true\/p4=true
 ·have HF:Hid (R=22):=aF (by rw [HR3.out,bA hor]);rcases (show p1=true\/(p1=false/\p2=true)\/(p1=false/\p2=false/\p3=true)\/(p1=false/\p2=false/\p3=false/\p4=true) by revert hor;cases p1 <;> cases p2 <;> cases p3 <;> cases p4 <;> simp) with rfl | ⟨rfl,rfl⟩ | ⟨rfl,rfl,rfl⟩ | ⟨rfl,rfl,rfl,rfl⟩
  all_goals
   clear hor HR3 HM HG HO;go_enter Tryz.func151,Tryz.ntmps151
   go_wp2_with (go_at_call 123;refine (HT.out _ (bel2 _ _ _)).mono ?_;rintro e' w1 ⟨rfl,hb1⟩;have HB:=aF ((bel2 _ _ _).trans (hb1.mono (bel2 _ _ _).size));obtain ⟨y,z⟩:=cT hb1;have HY:=aF y;have HZ:=aF z;obtain ⟨y0,y1,y2,y3,y4,y5,y6,y7⟩:=aT HY.out;obtain ⟨z0,z1,z2,z3,z4,z5,z6⟩:=aS HZ.out;have v0:=cM HB.out q0;have v1:=cM HB.out q1;have v2:=cM HB.out q2;have v3:=cM HB.out q3;have v4:=cM HB.out q4;have hlw:=hb1.size;simp only [bI] at hlw;have hlw1:w.heap.size+1<w1.heap.size:=hlw;have hlw0:w.heap.size<w1.heap.size:=cC hlw;clear y z hb1)
   all_goals first
    | (exfalso;omega)
    | (go_ret;exact ⟨by rw [HF.out];rfl,HB.out.alloc HB.out.size _⟩)
    | (exfalso;simp_all;done)
 have HR4:Hid (R=if rv.mu=true/\mb=false then 22 else if rs.all (fun x=>outB b.outl b.regions.length x rv.reg)=true then 0 else 22):=aF (by rw [HR3.out,aZ hor]);obtain ⟨rfl,rfl,rfl,rfl⟩:p1=false/\p2=false/\p3=false/\p4=false:=by revert hor;cases p1 <;> cases p2 <;> cases p3 <;> cases p4 <;> simp
 clear HR3 hor;obtain ⟨mu,hmu⟩:∃mu,rv.mu=mu:=⟨_,rfl⟩;rw [hmu] at HR4 hp3 ⊢;have hm3:ty.mu=mu:=by revert hp3;cases ty.mu <;> cases mu <;> simp
 clear hp3 hmu;by_cases hbad:mu=true/\mb=false
 ·obtain ⟨rfl,rfl⟩:=hbad;have HF:Hid (R=22):=aF (by rw [HR4.out];simp);clear HR4 HG HO;go_enter Tryz.func151,Tryz.ntmps151
  go_wp2_with (first | (go_at_call 123;refine (HT.out _ (bel2 _ _ _)).mono ?_;rintro e' w1 ⟨rfl,hb1⟩;have HB:=aF ((bel2 _ _ _).trans (hb1.mono (bel2 _ _ _).size));obtain ⟨y,z⟩:=cT hb1;have HY:=aF y;have HZ:=aF z;obtain ⟨y0,y1,y2,y3,y4,y5,y6,y7⟩:=aT HY.out;obtain ⟨z0,z1,z2,z3,z4,z5,z6⟩:=aS HZ.out;have v0:=cM HB.out q0;have v1:=cM HB.out q1;have v2:=cM HB.out q2;have v3:=cM HB.out q3;have v4:=cM HB.out q4;have hlw:=hb1.size;simp only [bI] at hlw;have hlw1:w.heap.size+1<w1.heap.size:=hlw;have hlw0:w.heap.size<w1.heap.size:=cC hlw;clear y z hb1) | (go_at_call 149;refine (HM.out _ (HB.out.alloc HB.out.size _)).mono ?_;rintro e' w2 ⟨rfl,hb2⟩;have HB2:=aF ((HB.out.alloc HB.out.size _).trans (hb2.mono (HB.out.alloc HB.out.size _).size));clear hb2))
  all_goals try (exfalso;omega)
  go_ret;exact ⟨by rw [HF.out];rfl,HB2.out⟩
 have HQ:Hid (R=if rs.all (fun x=>outB b.outl b.regions.length x rv.reg)=true then 0 else 22):=aF (by rw [HR4.out,aZ hbad]);clear HR4;rcases (show mu=false\/(mu=true/\mb=true) by revert hbad;cases mu <;> cases mb <;> simp) with rfl | ⟨rfl,rfl⟩
 ·clear hbad HM;go_enter Tryz.func151,Tryz.ntmps151
  go_wp2_with (first | (go_at_call 123;refine (HT.out _ (bel2 _ _ _)).mono ?_;rintro e' w1 ⟨rfl,hb1⟩;have HB:=aF ((bel2 _ _ _).trans (hb1.mono (bel2 _ _ _).size));obtain ⟨y,z⟩:=cT hb1;have HY:=aF y;have HZ:=aF z;obtain ⟨y0,y1,y2,y3,y4,y5,y6,y7⟩:=aT HY.out;obtain ⟨z0,z1,z2,z3,z4,z5,z6⟩:=aS HZ.out;have v0:=cM HB.out q0;have v1:=cM HB.out q1;have v2:=cM HB.out q2;have v3:=cM HB.out q3;have v4:=cM HB.out q4;have hlw:=hb1.size;simp only [bI] at hlw;have hlw1:w.heap.size+1<w1.heap.size:=hlw;have hlw0:w.heap.size<w1.heap.size:=cC hlw;clear y z hb1) | (go_at_call 188;refine (HG.out _ (HB.out.alloc HB.out.size _)).mono ?_;rintro e' w3 ⟨A8,c8,rfl,hs8,hb2⟩;have HB3:=aF ((HB.out.alloc HB.out.size _).trans (hb2.mono (HB.out.alloc HB.out.size _).size));have HY3:=aF (dL HY.out hb2);have HZ3:=aF (dL HZ.out hb2);have HS8:=aF hs8;have hs8l:=hs8.le;have hs8b:=hs8.big;have hsz3:=hb2.size;simp only [bI] at hsz3;clear hb2 hs8))
  all_goals try (exfalso;omega)
  rw [HLN.out] at hs8l;go_loopw [91] (fun v wr=>∃k:Nat,k<=nl/\v = .int .i64 k/\Hid (aA (bdM b bh.A1 bh.c1 bh.A2 bh.c2 (some ⟨bb,oo,none⟩) bh.c3 bh.A4 bh.c4 bh.A5 bh.c5 [.pointer (some ⟨r,0,none⟩)]) wr w.heap.size)/\Hid (aA [Value.int .i64 rv.kind,.int .i64 rv.op,.int .i64 rv.reg,.bool false,.int .i64 rv.place.loc,.slice A rv.place.proj.length c,.slice B rv.args.length d] wr (w.heap.size+1))/\Hid (Below w.heap.size w wr)/\Hid (Below w3.heap.size w3 wr)/\Hid (R=if (rs.drop k).all (fun x=>outB b.outl b.regions.length x rv.reg)=true then 0 else 22)) (fun v _=>nl - (intOf v).toNat)
  case atStart=>exact ⟨0,by omega,rfl,HY3,HZ3,HB3,aF (aX _ _),HQ⟩
  case round=>
   clear HQ HY3 HZ3 HB3;obtain ⟨k,hk,rfl,HYR,HZR,HBR,HB9,hr⟩:=hrel;have y7:=HYR.out 7 _ rfl;have z2:=HZR.out 2 _ rfl;by_cases hlt:k<nl
   ·have hlt2:k<rs.length:=by rw [HLN.out];exact hlt
    have hd:=cV hlt2;obtain ⟨b8,o8,rfl,hb8,hx⟩:=(HS8.out.keep RInt.keeps HB9.out).sl.at_ hlt2;obtain ⟨x,hxx⟩:∃x,rs[k]=x:=⟨_,rfl⟩;rw [hxx] at hx hd;have x0:wr.cell? ⟨b8,o8+k,none⟩=some (.int .i64 x):=(by simpa [RInt] using hx);have HOX:=aF (HO.out wr HBR.out x);have HQX:Hid (R=if outB b.outl b.regions.length x rv.reg=true then (if (rs.drop (k+1)).all (fun x=>outB b.outl b.regions.length x rv.reg)=true then 0 else 22) else 22):=aF (by rw [hr.out,hd,cB];cases outB b.outl b.regions.length x rv.reg <;> rfl);clear hx hd hxx hr hlt2;generalize outB b.outl b.regions.length x rv.reg=ob at HOX HQX;cases ob
    ·have HF:Hid (R=22):=HQX;go_wp2_with (go_at_call 189;refine HOX.out.mono ?_;rintro e' w4 ⟨rfl,hb4⟩;have HB4:=aF (HBR.out.trans (hb4.mono HBR.out.size));clear hb4)
     go_ret;exact ⟨by rw [HF.out];rfl,HB4.out⟩
    ·have HF:Hid (R=if (rs.drop (k+1)).all (fun x=>outB b.outl b.regions.length x rv.reg)=true then 0 else 22):=HQX;go_wp2_with (go_at_call 189;refine HOX.out.mono ?_;rintro e' w4 ⟨rfl,hb4⟩;have HB4:=aF (HBR.out.trans (hb4.mono HBR.out.size));have HB5:=aF (HB9.out.trans (hb4.mono HB9.out.size));have HY5:=aF (cN HYR.out hb4);have HZ5:=aF (cN HZR.out hb4);clear hb4)
     go_roundw
     case rel=>exact ⟨k+1,by omega,by go_num,HY5,HZ5,HB4,HB5,HF⟩
     case measure=>simp [intOf];omega
   ·have HF:Hid (R=0):=aF (by rw [hr.out,bE (by rw [HLN.out];omega:rs.length<=k)];rfl);clear hr;go_wp2_with fail
    go_ret;exact ⟨by rw [HF.out];rfl,HBR.out⟩
 ·clear hbad;go_enter Tryz.func151,Tryz.ntmps151
  go_wp2_with (first | (go_at_call 123;refine (HT.out _ (bel2 _ _ _)).mono ?_;rintro e' w1 ⟨rfl,hb1⟩;have HB:=aF ((bel2 _ _ _).trans (hb1.mono (bel2 _ _ _).size));obtain ⟨y,z⟩:=cT hb1;have HY:=aF y;have HZ:=aF z;obtain ⟨y0,y1,y2,y3,y4,y5,y6,y7⟩:=aT HY.out;obtain ⟨z0,z1,z2,z3,z4,z5,z6⟩:=aS HZ.out;have v0:=cM HB.out q0;have v1:=cM HB.out q1;have v2:=cM HB.out q2;have v3:=cM HB.out q3;have v4:=cM HB.out q4;have hlw:=hb1.size;simp only [bI] at hlw;have hlw1:w.heap.size+1<w1.heap.size:=hlw;have hlw0:w.heap.size<w1.heap.size:=cC hlw;clear y z hb1) | (go_at_call 149;refine (HM.out _ (HB.out.alloc HB.out.size _)).mono ?_;rintro e' w2 ⟨rfl,hb2⟩;have HB2:=aF ((HB.out.alloc HB.out.size _).trans (hb2.mono (HB.out.alloc HB.out.size _).size));have HY2:=aF (dL HY.out hb2);have HZ2:=aF (dL HZ.out hb2);clear HY HZ;have HY:=HY2;have HZ:=HZ2;obtain ⟨y0,y1,y2,y3,y4,y5,y6,y7⟩:=aT HY.out;obtain ⟨z0,z1,z2,z3,z4,z5,z6⟩:=aS HZ.out;have hsz2:=hb2.size;simp only [bI] at hsz2;clear hb2) | (go_at_call 188;refine (HG.out _ HB2.out).mono ?_;rintro e' w3 ⟨A8,c8,rfl,hs8,hb2⟩;have HB3:=aF (HB2.out.trans (hb2.mono HB2.out.size));have HY3:=aF (cN HY2.out hb2);have HZ3:=aF (cN HZ2.out hb2);have HS8:=aF hs8;have hs8l:=hs8.le;have hs8b:=hs8.big;have hsz3:=hb2.size;clear hb2 hs8))
  all_goals try (exfalso;omega)
  rw [HLN.out] at hs8l;go_loopw [91] (fun v wr=>∃k:Nat,k<=nl/\v = .int .i64 k/\Hid (aA (bdM b bh.A1 bh.c1 bh.A2 bh.c2 (some ⟨bb,oo,none⟩) bh.c3 bh.A4 bh.c4 bh.A5 bh.c5 [.pointer (some ⟨r,0,none⟩)]) wr w.heap.size)/\Hid (aA [Value.int .i64 rv.kind,.int .i64 rv.op,.int .i64 rv.reg,.bool true,.int .i64 rv.place.loc,.slice A rv.place.proj.length c,.slice B rv.args.length d] wr (w.heap.size+1))/\Hid (Below w.heap.size w wr)/\Hid (Below w3.heap.size w3 wr)/\Hid (R=if (rs.drop k).all (fun x=>outB b.outl b.regions.length x rv.reg)=true then 0 else 22)) (fun v _=>nl - (intOf v).toNat)
  case atStart=>exact ⟨0,by omega,rfl,HY3,HZ3,HB3,aF (aX _ _),HQ⟩
  case round=>
   clear HQ HY3 HZ3 HB3;obtain ⟨k,hk,rfl,HYR,HZR,HBR,HB9,hr⟩:=hrel;have y7:=HYR.out 7 _ rfl;have z2:=HZR.out 2 _ rfl;by_cases hlt:k<nl
   ·have hlt2:k<rs.length:=by rw [HLN.out];exact hlt
    have hd:=cV hlt2;obtain ⟨b8,o8,rfl,hb8,hx⟩:=(HS8.out.keep RInt.keeps HB9.out).sl.at_ hlt2;obtain ⟨x,hxx⟩:∃x,rs[k]=x:=⟨_,rfl⟩;rw [hxx] at hx hd;have x0:wr.cell? ⟨b8,o8+k,none⟩=some (.int .i64 x):=(by simpa [RInt] using hx);have HOX:=aF (HO.out wr HBR.out x);have HQX:Hid (R=if outB b.outl b.regions.length x rv.reg=true then (if (rs.drop (k+1)).all (fun x=>outB b.outl b.regions.length x rv.reg)=true then 0 else 22) else 22):=aF (by rw [hr.out,hd,cB];cases outB b.outl b.regions.length x rv.reg <;> rfl);clear hx hd hxx hr hlt2;generalize outB b.outl b.regions.length x rv.reg=ob at HOX HQX;cases ob
    ·have HF:Hid (R=22):=HQX;go_wp2_with (go_at_call 189;refine HOX.out.mono ?_;rintro e' w4 ⟨rfl,hb4⟩;have HB4:=aF (HBR.out.trans (hb4.mono HBR.out.size));clear hb4)
     go_ret;exact ⟨by rw [HF.out];rfl,HB4.out⟩
    ·have HF:Hid (R=if (rs.drop (k+1)).all (fun x=>outB b.outl b.regions.length x rv.reg)=true then 0 else 22):=HQX;go_wp2_with (go_at_call 189;refine HOX.out.mono ?_;rintro e' w4 ⟨rfl,hb4⟩;have HB4:=aF (HBR.out.trans (hb4.mono HBR.out.size));have HB5:=aF (HB9.out.trans (hb4.mono HB9.out.size));have HY5:=aF (cN HYR.out hb4);have HZ5:=aF (cN HZR.out hb4);clear hb4)
     go_roundw
     case rel=>exact ⟨k+1,by omega,by go_num,HY5,HZ5,HB4,HB5,HF⟩
     case measure=>simp [intOf];omega
   ·have HF:Hid (R=0):=aF (by rw [hr.out,bE (by rw [HLN.out];omega:rs.length<=k)];rfl);clear hr;go_wp2_with fail
    go_ret;exact ⟨by rw [HF.out];rfl,HBR.out⟩
end
section
open Go Go.RowKit
def shapeE (r:Rvl):Int:=if r.kind<0\/4<r.kind then 14 else if unusedR r=false then 2 else 0
theorem vG (r:Rvl) (A B:Option Addr) (c d:Nat) (w:World):
 Calls Tryz.prog 99 #[.agg (rvC r A c B d).toArray] w fun e' w'=>e' = .returned (.bool (blankR r))/\Below w.heap.size w w':=by
 have HZ:=aF (fun W=>dQ r.place A c W);obtain ⟨q2,hq2⟩:∃q,(r.kind == 0)=q:=⟨_,rfl⟩;obtain ⟨q3,hq3⟩:∃q,(r.op == 0)=q:=⟨_,rfl⟩;obtain ⟨q4,hq4⟩:∃q,((r.args.length:Int) == 0)=q:=⟨_,rfl⟩;obtain ⟨q5,hq5⟩:∃q,(r.reg == 0)=q:=⟨_,rfl⟩;obtain ⟨q6,hq6⟩:∃q,r.mu=q:=⟨_,rfl⟩;obtain ⟨q7,hq7⟩:∃q,zeroP r.place=q:=⟨_,rfl⟩
 have HBL:Hid (blankR r=(q2 && q3 && q4 && q5 && !q6 && q7)):=aF (by
  unfold blankR;rw [<- hq2,<- hq3,<- hq4,<- hq5,<- hq6,<- hq7,eN]
  rfl)
 rw [hq7] at HZ;generalize blankR r=R at HBL ⊢;clear hq7;unfold rvC;rcases (show q2=false\/(q2=true/\q3=false)\/(q2=true/\q3=true/\q5=false)\/(q2=true/\q3=true/\q5=true/\q6=true)\/(q2=true/\q3=true/\q5=true/\q6=false/\q7=false)\/(q2=true/\q3=true/\q5=true/\q6=false/\q7=true) by cases q2 <;> cases q3 <;> cases q5 <;> cases q6 <;> cases q7 <;> simp) with rfl | ⟨rfl,rfl⟩ | ⟨rfl,rfl,rfl⟩ | ⟨rfl,rfl,rfl,rfl⟩ | ⟨rfl,rfl,rfl,rfl,rfl⟩ | ⟨rfl,rfl,rfl,rfl,rfl⟩
 all_goals
  go_enter Tryz.func99,Tryz.ntmps99
  go_wp2_with (go_at_call 98;refine (HZ.out _).mono ?_;rintro e' w1 ⟨rfl,hb1⟩;have HB:=aF (((aX _ _).alloc (aY _) _).trans (hb1.mono ((aX _ _).alloc (aY _) _).size));have y:=cN (cU w _ _) hb1;obtain ⟨y0,y1,y2,y3,y4,y5,y6⟩:=aS y;clear y hb1)
  go_ret;refine ⟨?_,by first | exact HB.out | exact aH⟩;rw [HBL.out];clear HZ HBL;first | rfl | (simp;done) | (cases q4 <;> simp;done) | (cases q3 <;> cases q4 <;> cases q5 <;> cases q6 <;> cases q7 <;> simp;done)
theorem eG (r:Rvl) (A B:Option Addr) (c d:Nat) (w:World):
 Calls Tryz.prog 141 #[.agg (rvC r A c B d).toArray] w fun e' w'=>e' = .returned (.int .i64 (shapeE r))/\Below w.heap.size w w':=by
 have HZ:=aF (fun W=>dQ r.place A c W);obtain ⟨R,hR⟩:∃R,shapeE r=R:=⟨_,rfl⟩;rw [hR];unfold shapeE at hR;by_cases h0:r.kind<0\/4<r.kind
 ·have HF:Hid (R=14):=aF (by rw [<- hR,bA h0]);clear hR HZ;unfold rvC;go_enter Tryz.func141,Tryz.ntmps141
  go_wp2_with fail
  all_goals first
   | (exfalso;omega)
   | (go_ret;exact ⟨by rw [HF.out];rfl,aH⟩)
 rw [aZ h0] at hR;obtain ⟨q3,hq3⟩:∃q,(r.op != 0)=q:=⟨_,rfl⟩;obtain ⟨q5,hq5⟩:∃q,(r.reg != 0)=q:=⟨_,rfl⟩;obtain ⟨q6,hq6⟩:∃q,r.mu=q:=⟨_,rfl⟩;obtain ⟨q7,hq7⟩:∃q,zeroP r.place=q:=⟨_,rfl⟩;obtain ⟨n,hn⟩:∃n,r.args.length=n:=⟨_,rfl⟩;have k3:decide (r.op=0) = !q3:=by rw [<- hq3,bR];simp
 have k5:decide (r.reg=0) = !q5:=by rw [<- hq5,bR];simp
 have HR:Hid (R=if (let plain:=(!q5) && !q6 && q7;if r.kind=0 then plain && !q3 && decide (n=1) else if r.kind=1 then !q3 && decide (n=0) else if r.kind=2 then plain && decide (n=1) else if r.kind=3 then plain && decide (n=2) else plain && !q3)=false then 2 else 0):=aF (by
  rw [<- hR];unfold unusedR
  rw [k3,k5,hq6,hq7,hn])
 rw [hq7] at HZ;clear hR k3 k5 hq7;unfold rvC;rw [hn,hq6];rcases (show r.kind=0\/r.kind=1\/r.kind=2\/r.kind=3\/r.kind=4 by omega) with hk | hk | hk | hk | hk
 ·rw [hk] at HR ⊢;have HF:=aF HR.out;clear HR hk h0 hn hq6;simp only at HF;rcases (show q3=true\/(q3=false/\q5=true)\/(q3=false/\q5=false/\q6=true)\/(q3=false/\q5=false/\q6=false/\q7=false)\/(q3=false/\q5=false/\q6=false/\q7=true) by cases q3 <;> cases q5 <;> cases q6 <;> cases q7 <;> simp) with rfl | ⟨rfl,rfl⟩ | ⟨rfl,rfl,rfl⟩ | ⟨rfl,rfl,rfl,rfl⟩ | ⟨rfl,rfl,rfl,rfl⟩
  all_goals
   go_enter Tryz.func141,Tryz.ntmps141
   go_wp2_with (go_at_call 98;refine (HZ.out _).mono ?_;rintro e' w1 ⟨rfl,hb1⟩;have HB:=aF (((aX _ _).alloc (aY _) _).trans (hb1.mono ((aX _ _).alloc (aY _) _).size));have y:=cN (cU w _ _) hb1;obtain ⟨y0,y1,y2,y3,y4,y5,y6⟩:=aS y;clear y hb1)
   all_goals first
    | (exfalso;omega)
    | (go_ret
       refine ⟨?_,by first | exact HB.out | exact aH⟩;rw [HF.out];refine congrArg (fun i=>Ending.returned (Value.int .i64 i)) ?_;clear HF HZ;try clear HB y0 y1 y2 y3 y4 y5 y6
       first | rfl | (simp;done) | (simp;omega) | (simp_all;done) | (simp_all;omega) | grind)
 ·rw [hk] at HR ⊢;have HF:=aF HR.out;clear HR hk h0 hn hq6;simp only at HF;cases q3
  all_goals
   go_enter Tryz.func141,Tryz.ntmps141
   go_wp2_with (go_at_call 98;refine (HZ.out _).mono ?_;rintro e' w1 ⟨rfl,hb1⟩;have HB:=aF (((aX _ _).alloc (aY _) _).trans (hb1.mono ((aX _ _).alloc (aY _) _).size));have y:=cN (cU w _ _) hb1;obtain ⟨y0,y1,y2,y3,y4,y5,y6⟩:=aS y;clear y hb1)
   all_goals first
    | (exfalso;omega)
    | (go_ret
       refine ⟨?_,by first | exact HB.out | exact aH⟩;rw [HF.out];refine congrArg (fun i=>Ending.returned (Value.int .i64 i)) ?_;clear HF HZ;try clear HB y0 y1 y2 y3 y4 y5 y6
       first | rfl | (simp;done) | (simp;omega) | (simp_all;done) | (simp_all;omega) | grind)
 ·rw [hk] at HR ⊢;have HF:=aF HR.out;clear HR hk h0 hn hq6;simp only at HF;rcases (show q5=true\/(q5=false/\q6=true)\/(q5=false/\q6=false/\q7=false)\/(q5=false/\q6=false/\q7=true) by cases q5 <;> cases q6 <;> cases q7 <;> simp) with rfl | ⟨rfl,rfl⟩ | ⟨rfl,rfl,rfl⟩ | ⟨rfl,rfl,rfl⟩
  all_goals
   go_enter Tryz.func141,Tryz.ntmps141
   go_wp2_with (go_at_call 98;refine (HZ.out _).mono ?_;rintro e' w1 ⟨rfl,hb1⟩;have HB:=aF (((aX _ _).alloc (aY _) _).trans (hb1.mono ((aX _ _).alloc (aY _) _).size));have y:=cN (cU w _ _) hb1;obtain ⟨y0,y1,y2,y3,y4,y5,y6⟩:=aS y;clear y hb1)
   all_goals first
    | (exfalso;omega)
    | (go_ret
       refine ⟨?_,by first | exact HB.out | exact aH⟩;rw [HF.out];refine congrArg (fun i=>Ending.returned (Value.int .i64 i)) ?_;clear HF HZ;try clear HB y0 y1 y2 y3 y4 y5 y6
       first | rfl | (simp;done) | (simp;omega) | (simp_all;done) | (simp_all;omega) | grind)
 ·rw [hk] at HR ⊢;have HF:=aF HR.out;clear HR hk h0 hn hq6;simp only at HF;rcases (show q5=true\/(q5=false/\q6=true)\/(q5=false/\q6=false/\q7=false)\/(q5=false/\q6=false/\q7=true) by cases q5 <;> cases q6 <;> cases q7 <;> simp) with rfl | ⟨rfl,rfl⟩ | ⟨rfl,rfl,rfl⟩ | ⟨rfl,rfl,rfl⟩
  all_goals
   go_enter Tryz.func141,Tryz.ntmps141
   go_wp2_with (go_at_call 98;refine (HZ.out _).mono ?_;rintro e' w1 ⟨rfl,hb1⟩;have HB:=aF (((aX _ _).alloc (aY _) _).trans (hb1.mono ((aX _ _).alloc (aY _) _).size));have y:=cN (cU w _ _) hb1;obtain ⟨y0,y1,y2,y3,y4,y5,y6⟩:=aS y;clear y hb1)
   all_goals first
    | (exfalso;omega)
    | (go_ret
       refine ⟨?_,by first | exact HB.out | exact aH⟩;rw [HF.out];refine congrArg (fun i=>Ending.returned (Value.int .i64 i)) ?_;clear HF HZ;try clear HB y0 y1 y2 y3 y4 y5 y6
       first | rfl | (simp;done) | (simp;omega) | (simp_all;done) | (simp_all;omega) | grind)
 ·rw [hk] at HR ⊢;have HF:=aF HR.out;clear HR hk h0 hn hq6;simp only at HF;rcases (show q3=true\/(q3=false/\q5=true)\/(q3=false/\q5=false/\q6=true)\/(q3=false/\q5=false/\q6=false/\q7=false)\/(q3=false/\q5=false/\q6=false/\q7=true) by cases q3 <;> cases q5 <;> cases q6 <;> cases q7 <;> simp) with rfl | ⟨rfl,rfl⟩ | ⟨rfl,rfl,rfl⟩ | ⟨rfl,rfl,rfl,rfl⟩ | ⟨rfl,rfl,rfl,rfl⟩
  all_goals
   go_enter Tryz.func141,Tryz.ntmps141
   go_wp2_with (go_at_call 98;refine (HZ.out _).mono ?_;rintro e' w1 ⟨rfl,hb1⟩;have HB:=aF (((aX _ _).alloc (aY _) _).trans (hb1.mono ((aX _ _).alloc (aY _) _).size));have y:=cN (cU w _ _) hb1;obtain ⟨y0,y1,y2,y3,y4,y5,y6⟩:=aS y;clear y hb1)
   all_goals first
    | (exfalso;omega)
    | (go_ret
       refine ⟨?_,by first | exact HB.out | exact aH⟩;rw [HF.out];refine congrArg (fun i=>Ending.returned (Value.int .i64 i)) ?_;clear HF HZ;try clear HB y0 y1 y2 y3 y4 y5 y6
       first | rfl | (simp;done) | (simp;omega) | (simp_all;done) | (simp_all;omega) | grind)
end
end Go.Proofs.YtmknfbfppmkcfaaGreatDoor
