/-
  Parts of the proof: V32R V32D V32E V23 V24 V25 V26 V33 Y20 Y21.
-/
import Derived.Test.YtmknfbfppmkcfaaGreatDoorPP0
import Derived.Test.YtmknfbfppmkcfaaGreatDoorPP5
import Derived.Test.YtmknfbfppmkcfaaGreatDoorPP3
import Derived.Test.YtmknfbfppmkcfaaGreatDoorPP1
namespace Go.Proofs.YtmknfbfppmkcfaaGreatDoor
set_option maxRecDepth 100000
set_option maxHeartbeats 16000000
section
open Go Go.RowKit Go.Maps Go.WideMaps
theorem xD (E:SubE) (b:Bdy) (HE:E.Ok b) (m:Nat) (HREC0:E.Rec b m) (s t:Nat) (hm:s+t<m+1) (hs:s<b.types.length) (ht:t<b.types.length) (W:World) (ks:List (Int × Int)) (h:E.St b W ks) (hmem:((s:Int),(t:Int))∉ks) (hcase:((b.types[s].kind == b.types[t].kind) && (b.types[s].mu == b.types[t].mu) && ((b.types[s].flds.length:Int) == (b.types[t].flds.length:Int)) && (b.types[s].kind == 3))=true):
 Calls Tryz.prog 212 #[.int .i64 s,.int .i64 t,.pointer (some ⟨E.pk,0,none⟩),.pointer (some ⟨E.pl,0,none⟩),.pointer (some ⟨E.pr,0,none⟩),.pointer (some ⟨E.pf,0,none⟩)] W fun e' W'=>e' = .returned (.bool (subB b s t))/\E.Q b W ks s t W':=by
 have HREC:=aF HREC0;have HSB:=aF (mG HE.ok.tyok hs ht);have HOKS:=aF (HE.ok.tyok s hs);have HOKT:=aF (HE.ok.tyok t ht);have hn:=HE.ok.ntyp;have hlen:=h.lt HE;have wfs:(Lit.int .i64 (s:Int)).wf=true:=WalkArith.wf_i64 (by omega);have wft:(Lit.int .i64 (t:Int)).wf=true:=WalkArith.wf_i64 (by omega);have x1:=h.k;have x2:=h.l;have x3:=h.r;have x4:=h.f;have hmemo:=h.memo;have HST:=aF h;have HEE:=aF HE;have hle:=HE.ty.le;have hbig:=HE.ty.big;have HMD:Hid (decide (((s:Int),(t:Int))∈ks)=false):=aF (by simp [hmem]);have HM:=aF hmem;obtain ⟨bb,oo,hA,hbb,hxs⟩:=HE.ty.sl.at_ hs;obtain ⟨b2,o2,hA2,hbb2,hxt⟩:=HE.ty.sl.at_ ht;have hAA:some (⟨bb,oo,none⟩:Addr)=some ⟨b2,o2,none⟩:=hA.symm.trans hA2;simp only [Option.some.injEq,Addr.mk.injEq,and_true] at hAA;obtain ⟨rfl,rfl⟩:=hAA;clear hA2 hbb2;obtain ⟨ta,hta⟩:∃x,b.types[s]=x:=⟨_,rfl⟩;obtain ⟨tb,htb⟩:∃x,b.types[t]=x:=⟨_,rfl⟩;rw [hta] at hxs HSB HOKS hcase;rw [htb] at hxt HSB HOKT hcase;obtain ⟨r0,r1,r2,r3,A2,c2,r4,r6,r7,r8⟩:=hxs;obtain ⟨q0,q1,q2,q3,B2,d2,q4,q6,q7,q8⟩:=hxt;have HFA:Hid (Slc 1 RInt E.w0 A2 c2 ta.flds):=aF ⟨r8,r6,r7⟩;have HFB:Hid (Slc 1 RInt E.w0 B2 d2 tb.flds):=aF ⟨q8,q6,q7⟩;have hb0:=h.low;replace r0:=cJ hb0 r0;replace r1:=cJ hb0 r1;replace r2:=cJ hb0 r2;replace r3:=cJ hb0 r3;replace r4:=cJ hb0 r4;replace q0:=cJ hb0 q0;replace q1:=cJ hb0 q1;replace q2:=cJ hb0 q2;replace q3:=cJ hb0 q3;replace q4:=cJ hb0 q4;rw [hA] at x2;clear r8 q8 hta htb hb0 h HE hmem;go_enter Tryz.func212,Tryz.ntmps212;go_wp2_with (at_lookup;refine eP _ rfl _ _ 277 rfl 77 3 4 arrP Tryz.underlying3 progN Tryz.underlying277 (fG _) _ _ _ rfl hmemo _ _ rfl wfs wft ?_;rw [aZ HM.out,HMD.out])
 have hS:Below W.heap.size W W.drew:=(aX _ _).drew;refine cQ (S:=fun X=>Below W.heap.size W X) [0,1,2,3,4,5,6,7,8,9,10,11] (by kernel_rfl) ?_;(iterate 8 (refine cR (v:=?_) ?_ hS ?_;rotate_left;(next=>(rintro X hX;have s0:=cJ hX x2;have u0:=cJ hX r0;have u1:=cJ hX r1;have u2:=cJ hX r2;have u3:=cJ hX r3;have u4:=cJ hX r4;have v0:=cJ hX q0;have v1:=cJ hX q1;have v2:=cJ hX q2;have v3:=cJ hX q3;have v4:=cJ hX q4;(try simp only [aI]);go_simp;rfl));simp only [aM]));have hS1:Below W.heap.size W (W.drew.alloc ty0):=aH;have hS2:Below W.heap.size W ((W.drew.alloc ty0).alloc ty0):=aH;refine fW [0,1,2,3,4,5,6,7,9,8,10,11] ty0 (by kernel_rfl) ?_ ?_ ?_ hS1 hS2 ?_
 ·intro a1 w1 K hK;(simp only [aM]);rw [bA (by rfl)];go_simp;exact hK
 ·intro a1 w1 K hK;(simp only [aM]);rw [bA (by rfl)];go_simp;exact hK
 ·exact fun _ _=>rfl
 intro ga gb hg;obtain ⟨hB1,ya,yb⟩:=jQ W.drew ga gb ta tb A2 B2 c2 d2 hg;have hS3:Below W.heap.size W (((W.drew.alloc ty0).alloc ty0).setCells ga 0 (tyL ta A2 c2)):=dF (by rcases hg with h | h <;> (rw [h.1];simp)) _ _ _ hS2
 have tha:((W.drew.alloc ty0).alloc ty0).there ga 0 (tyL ta A2 c2).toArray.size:=by
  rcases hg with ⟨h,-⟩ | ⟨h,-⟩ <;> rw [h]
  ·exact World.there_alloc (dD _ _ _ _ 5 rfl (by simp)) _
  ·exact dD _ _ _ _ 5 (by simp) (by simp)
 have thb:((W.drew.alloc ty0).alloc ty0).there gb 0 (tyL tb B2 d2).toArray.size:=by
  rcases hg with ⟨-,h⟩ | ⟨-,h⟩ <;> rw [h]
  ·exact dD _ _ _ _ 5 (by simp) (by simp)
  ·exact World.there_alloc (dD _ _ _ _ 5 rfl (by simp)) _
 have hS4:Below W.heap.size W ((((W.drew.alloc ty0).alloc ty0).setCells ga 0 (tyL ta A2 c2)).setCells gb 0 (tyL tb B2 d2)):=hS.trans (hB1.mono (aY _));have hne:ga≠gb/\W.heap.size<=ga/\W.heap.size<=gb:=by rcases hg with ⟨rfl,rfl⟩ | ⟨rfl,rfl⟩ <;> simp
 have hML:=HST.out.memo.lt;have hM:E.M≠ga/\E.M≠gb:=by omega
 clear hg;have thc:=World.there_setCells thb ga 0 (tyL ta A2 c2);generalize (W.drew.alloc ty0).alloc ty0=W8 at *;have E9:∃W9,W8.setCells ga 0 (tyL ta A2 c2)=W9:=⟨_,rfl⟩;obtain ⟨W9,e9⟩:=E9;obtain ⟨W1,e1⟩:∃W1,W9.setCells gb 0 (tyL tb B2 d2)=W1:=⟨_,rfl⟩;rw [e9] at hB1 ya yb hS3 hS4 thc;rw [e1] at hB1 ya yb hS4;(refine cM (fun K1 hK1=>?_);simp only [aM];rw [bA (by rfl)]);refine wp_store_mid 81 (.tmp 11) (.tmp 27) rfl ga 0 (tyL ta A2 c2).toArray rfl rfl tha (by kernel_rfl) (by simp [tyL,Value.oneCell']) ?_;rw [List.toList_toArray,e9];refine hK1.out _ _ (fun _=>hS3) ?_;clear hK1;(refine cM (fun K1 hK1=>?_);simp only [aM];rw [bA (by rfl)]);refine wp_store_mid 81 (.tmp 12) (.tmp 31) rfl gb 0 (tyL tb B2 d2).toArray rfl rfl thc (by kernel_rfl) (by simp [tyL,Value.oneCell']) ?_;rw [List.toList_toArray,e1];refine hK1.out _ _ (fun _=>hS4) ?_;clear hK1;refine cV ?_;(simp only [aM]);obtain ⟨ya0,ya1,ya2,ya3,ya4⟩:=aQ ya;obtain ⟨yb0,yb1,yb2,yb3,yb4⟩:=aQ yb;have hst1:=HST.out.keep hS4;have HPH:=aF (SubE.Ph.start HST.out hS4 ((s:Int)+t));have HB1:=aF hS4;have HM1:=aF hM
 have HC:Hid (∀X,E.Ph b W1 ks ((s:Int)+t) X->(aA (tyL ta A2 c2) X ga)/\(aA (tyL tb B2 d2) X gb)/\X.cell? ⟨E.pf,0,none⟩=some E.F/\X.cell? ⟨E.pr,0,none⟩=some (.pointer (some ⟨E.r,0,none⟩))/\X.cell? ⟨E.pk,0,none⟩=some (.map (some E.M))/\Below E.w0.heap.size E.w0 X):=aF (fun X ⟨kx,h1,h2,h3⟩=>
  ⟨fun i v hi=>dQ h3 (ya i v hi) (by simpa using Ne.symm HM1.out.1),fun i v hi=>dQ h3 (yb i v hi) (by simpa using Ne.symm HM1.out.2),h1.f,h1.r,h1.k,h1.low⟩)
 have hbp:=HST.out.memo.lt;clear hS hS1 hS2 hS3 hS4 hB1 ya yb tha thb thc e9 e1 x1 x2 x3 x4 hmemo r0 r1 r2 r3 r4 q0 q1 q2 q3 q4 hM hML
 have HCALL:Hid (∀x y:Int,0<=x->0<=y->x+y<(s:Int)+t->x<(b.types.length:Int)->y<(b.types.length:Int)->∀X,E.Ph b W1 ks ((s:Int)+t) X->
  Calls Tryz.prog 212 #[.int .i64 x,.int .i64 y,.pointer (some ⟨E.pk,0,none⟩),.pointer (some ⟨E.pl,0,none⟩),.pointer (some ⟨E.pr,0,none⟩),.pointer (some ⟨E.pf,0,none⟩)] X fun e' X'=>e' = .returned (.bool (subB b x y))/\E.Ph b W1 ks ((s:Int)+t) X'):=aF (fun x y hx hy hxy hxl hyl X ⟨kx,h1,h2,h3⟩=>by
  obtain ⟨x,rfl⟩:=bG hx;obtain ⟨y,rfl⟩:=bG hy;refine (HREC.out x y (by omega) (by omega) (by omega) X kx h1).mono ?_;rintro e' X' ⟨rfl,hq⟩
  exact ⟨rfl,SubE.Ph.call h1 h2 h3 hq hxy⟩)
 clear HREC hn;obtain ⟨p1,hp1⟩:∃q,(ta.kind == tb.kind)=q:=⟨_,rfl⟩;obtain ⟨p2,hp2⟩:∃q,(ta.mu == tb.mu)=q:=⟨_,rfl⟩;obtain ⟨p3,hp3⟩:∃q,((ta.flds.length:Int) == (tb.flds.length:Int))=q:=⟨_,rfl⟩;obtain ⟨p4,hp4⟩:∃q,(ta.kind == 3)=q:=⟨_,rfl⟩;rw [hp1,hp2,hp3,hp4] at hcase;have HCASE:=aF hcase;clear hcase;have HP1:=aF hp1;have HP2:=aF hp2;have HP3:=aF hp3;have HP4:=aF hp4
 have HLAW:Hid (∀q:Bool,(p1=true->p2=true->p3=true->p4=true->q=(outB b.outl b.regions.length ta.reg tb.reg && subB b ta.elem tb.elem && (!ta.mu || subB b tb.elem ta.elem)))->(¬(p1=true/\p2=true/\p3=true/\p4=true)->q=(p1 && p2 && p3))->
  subB b s t=(q && (((ta.flds.drop 0).zip (tb.flds.drop 0)).all (fun p=>subB b p.1 p.2)))/\(q=true->ta.flds.length=tb.flds.length)):=aF (fun q h1 h2=>by
  rw [HSB.out];unfold subS;have g1:decide (ta.kind=tb.kind)=p1:=by rw [<- HP1.out];rfl
  have g2:decide (ta.mu=tb.mu)=p2:=by rw [<- HP2.out];cases ta.mu <;> cases tb.mu <;> rfl
  have g3:decide (ta.flds.length=tb.flds.length)=p3:=by rw [<- HP3.out,iA]
  have g4:decide (ta.kind≠3) = !p4:=by rw [<- HP4.out];by_cases h:ta.kind=3 <;> simp [h]
  have g5:p4=true->ta.flds=[]:=fun h=>(HOKS.out.1 (by rw [<- HP4.out] at h;simpa using h)).2.2
  rw [g1,g2,g3,g4,bX,bX];have g6:p3=true->ta.flds.length=tb.flds.length:=fun h=>by rw [<- g3] at h;simpa using h
  cases p1 <;> cases p2 <;> cases p3 <;> cases p4 <;> simp_all)
 clear HSB;have HR:Hid (0<=(s:Int)/\(s:Int)<(b.types.length:Int)/\0<=(t:Int)/\(t:Int)<(b.types.length:Int)):=aF ⟨by omega,by omega,by omega,by omega⟩
 have HO:Hid (∀X,E.Ph b W1 ks ((s:Int)+t) X->Calls Tryz.prog 189 #[.pointer (some ⟨E.r,0,none⟩),.int .i64 ta.reg,.int .i64 tb.reg] X fun e' X'=>e' = .returned (.bool (outB b.outl b.regions.length ta.reg tb.reg))/\E.Ph b W1 ks ((s:Int)+t) X'):=aF (fun X hX=>by
  refine (gP b.outl b.regions.length ta.reg tb.reg E.r X (HEE.out.rel.keep (HC.out X hX).2.2.2.2.2) HEE.out.ok.pairs (by have:=HEE.out.ok.nreg;omega) HEE.out.ok.nout).mono ?_;rintro e' X' ⟨rfl,hb⟩
  exact ⟨rfl,hX.keep hb⟩)
 obtain ⟨z1,z2,z3,z4⟩:W1.cell? ⟨E.pf,0,none⟩=some E.F/\W1.cell? ⟨E.pr,0,none⟩=some (.pointer (some ⟨E.r,0,none⟩))/\W1.cell? ⟨E.pk,0,none⟩=some (.map (some E.M))/\True:=⟨hst1.f,hst1.r,hst1.k,trivial⟩;clear hst1 z4;unfold SubE.F at z1;have hall:p1=true/\p2=true/\p3=true/\p4=true:=by have:=HCASE.out;revert this;cases p1 <;> cases p2 <;> cases p3 <;> cases p4 <;> simp
 clear HCASE
 ·obtain ⟨rfl,rfl,rfl,rfl⟩:=hall;have h3:ta.kind=3:=by simpa using hp4
  have h3b:tb.kind=3:=by have:ta.kind=tb.kind:=by simpa using hp1
                         rw [<- this];exact h3
  obtain ⟨a1,a2,-⟩:=HOKS.out.1 h3;obtain ⟨b1,b2,-⟩:=HOKT.out.1 h3b;have HSS:=aF (fun (x y:Int) (hxy:(x=ta.elem/\y=tb.elem)\/(x=tb.elem/\y=ta.elem))=>HCALL.out x y (by omega) (by omega) (by omega) (by omega) (by omega));have HF0:Hid (ta.flds.length=0):=aF (by rw [(HOKS.out.1 h3).2.2];rfl);clear a1 a2 b1 b2 h3 h3b HOKS HOKT;have HL2:Hid (∀q:Bool,q=(outB b.outl b.regions.length ta.reg tb.reg && subB b ta.elem tb.elem && (!ta.mu || subB b tb.elem ta.elem))->subB b s t=(q && (((ta.flds.drop 0).zip (tb.flds.drop 0)).all (fun p=>subB b p.1 p.2)))/\(q=true->ta.flds.length=tb.flds.length)):=aF (fun q hq=>HLAW.out q (fun _ _ _ _=>hq) (fun h=>absurd ⟨rfl,rfl,rfl,rfl⟩ h));clear HLAW HP1 HP2 HP3 HP4;generalize outB b.outl b.regions.length ta.reg tb.reg=o1 at HO HL2;obtain ⟨s1,hs1⟩:∃q,subB b ta.elem tb.elem=q:=⟨_,rfl⟩;obtain ⟨s2,hs2⟩:∃q,subB b tb.elem ta.elem=q:=⟨_,rfl⟩;rw [hs1,hs2] at HL2;have HE1:=aF hs1;have HE2:=aF hs2;clear HCALL hs1 hs2;generalize hmu:ta.mu=mu at *;rcases (show o1=false\/(o1=true/\s1=false)\/(o1=true/\s1=true/\mu=false)\/(o1=true/\s1=true/\mu=true) by cases o1 <;> cases s1 <;> cases mu <;> simp) with rfl | ⟨rfl,rfl⟩ | ⟨rfl,rfl,rfl⟩ | ⟨rfl,rfl,rfl⟩
  ·have HV:=aF (HL2.out false rfl);go_wp2_with (go_at_call 189;refine (HO.out _ HPH.out).mono ?_;rintro e' w1 ⟨rfl,hq⟩;have HQ1:=aF hq;obtain ⟨ca,cb,cf,cr,ck,-⟩:=HC.out _ hq;unfold SubE.F at cf;obtain ⟨ca0,ca1,ca2,ca3,ca4⟩:=aQ ca;obtain ⟨cb0,cb1,cb2,cb3,cb4⟩:=aQ cb;clear ca cb;try rw [hmu] at ca1;clear hq)
   have HPZ:=HQ1;have HVV:Hid (subB b s t=false):=aF (by rw [HV.out.1];rfl);(try clear HCALL);(try clear HSS);(try clear HE1);(try clear HE2); (try clear HO);(try clear HL2);(try clear HLAW);go_loopg [9,13] 0 (fun gk v i wr=>v = .bool false/\i = .int .i64 0/\Hid (E.Ph b W1 ks ((s:Int)+t) wr));(case atStart=>exact ⟨rfl,rfl,HPZ⟩);(case round=>(obtain ⟨rfl,rfl,HPZ⟩:=hrel;obtain ⟨kz,hstz,hnz,hgz⟩:=HPZ.out;have HSZ:=aF hstz;have HNZ:=aF hnz;have HGZ:=aF hgz;have hkz:=hstz.k;clear hnz hgz;go_wp2_with (at_mapUpdate;refine cX _ rfl _ _ _ 277 rfl 77 3 4 arrP Tryz.underlying3 progN Tryz.underlying277 _ _ _ rfl hstz.memo (hstz.lt HEE.out) _ _ rfl wfs wft (by rw [HVV.out];rfl) ?_;intro w9 hm9 hg9;have HM9:=aF hm9;have HG9:=aF hg9;clear hm9 hg9);clear hstz;go_ret;refine ⟨?_,SubE.fin HEE.out HM.out HR.out HB1.out HSZ.out HNZ.out HGZ.out HM9.out HG9.out⟩;rw [HVV.out];rfl))
  ·have HV:=aF (HL2.out false rfl);go_wp2_with (first | (go_at_call 189;refine (HO.out _ HPH.out).mono ?_;rintro e' w1 ⟨rfl,hq⟩;have HQ1:=aF hq;obtain ⟨ca,cb,cf,cr,ck,-⟩:=HC.out _ hq;unfold SubE.F at cf;obtain ⟨ca0,ca1,ca2,ca3,ca4⟩:=aQ ca;obtain ⟨cb0,cb1,cb2,cb3,cb4⟩:=aQ cb;clear ca cb;try rw [hmu] at ca1;clear hq) | (go_at_call 212;refine (HSS.out _ _ (by first | exact Or.inl ⟨rfl,rfl⟩ | exact Or.inr ⟨rfl,rfl⟩) _ (by exact HQ1.out)).mono ?_;rintro e' w2 ⟨rfl,hq⟩;rw [HE1.out];have HQ2:=aF hq;obtain ⟨ca,cb,cf,cr,ck,-⟩:=HC.out _ hq;unfold SubE.F at cf;obtain ⟨ca0,ca1,ca2,ca3,ca4⟩:=aQ ca;obtain ⟨cb0,cb1,cb2,cb3,cb4⟩:=aQ cb;clear ca cb;try rw [hmu] at ca1;clear hq))
   have HPZ:=HQ2;have HVV:Hid (subB b s t=false):=aF (by rw [HV.out.1];rfl);(try clear HCALL);(try clear HSS);(try clear HE1);(try clear HE2); (try clear HO);(try clear HL2);(try clear HLAW);go_loopg [9,13] 0 (fun gk v i wr=>v = .bool false/\i = .int .i64 0/\Hid (E.Ph b W1 ks ((s:Int)+t) wr));(case atStart=>exact ⟨rfl,rfl,HPZ⟩);(case round=>(obtain ⟨rfl,rfl,HPZ⟩:=hrel;obtain ⟨kz,hstz,hnz,hgz⟩:=HPZ.out;have HSZ:=aF hstz;have HNZ:=aF hnz;have HGZ:=aF hgz;have hkz:=hstz.k;clear hnz hgz;go_wp2_with (at_mapUpdate;refine cX _ rfl _ _ _ 277 rfl 77 3 4 arrP Tryz.underlying3 progN Tryz.underlying277 _ _ _ rfl hstz.memo (hstz.lt HEE.out) _ _ rfl wfs wft (by rw [HVV.out];rfl) ?_;intro w9 hm9 hg9;have HM9:=aF hm9;have HG9:=aF hg9;clear hm9 hg9);clear hstz;go_ret;refine ⟨?_,SubE.fin HEE.out HM.out HR.out HB1.out HSZ.out HNZ.out HGZ.out HM9.out HG9.out⟩;rw [HVV.out];rfl))
  ·have HV:=aF (HL2.out true rfl);go_wp2_with (first | (go_at_call 189;refine (HO.out _ HPH.out).mono ?_;rintro e' w1 ⟨rfl,hq⟩;have HQ1:=aF hq;obtain ⟨ca,cb,cf,cr,ck,-⟩:=HC.out _ hq;unfold SubE.F at cf;obtain ⟨ca0,ca1,ca2,ca3,ca4⟩:=aQ ca;obtain ⟨cb0,cb1,cb2,cb3,cb4⟩:=aQ cb;clear ca cb;try rw [hmu] at ca1;clear hq) | (go_at_call 212;refine (HSS.out _ _ (by first | exact Or.inl ⟨rfl,rfl⟩ | exact Or.inr ⟨rfl,rfl⟩) _ (by exact HQ1.out)).mono ?_;rintro e' w2 ⟨rfl,hq⟩;rw [HE1.out];have HQ2:=aF hq;obtain ⟨ca,cb,cf,cr,ck,-⟩:=HC.out _ hq;unfold SubE.F at cf;obtain ⟨ca0,ca1,ca2,ca3,ca4⟩:=aQ ca;obtain ⟨cb0,cb1,cb2,cb3,cb4⟩:=aQ cb;clear ca cb;try rw [hmu] at ca1;clear hq))
   have HPZ:=HQ2;have HVV:Hid (subB b s t=true):=aF (by rw [HV.out.1,List.length_eq_zero_iff.1 HF0.out];rfl);(try clear HCALL);(try clear HSS);(try clear HE1);(try clear HE2); (try clear HO);(try clear HL2);(try clear HLAW);go_loopg [9,13] 0 (fun gk v i wr=>v = .bool true/\i = .int .i64 0/\Hid (E.Ph b W1 ks ((s:Int)+t) wr));(case atStart=>exact ⟨rfl,rfl,HPZ⟩);(case round=>(obtain ⟨rfl,rfl,HPZ⟩:=hrel;have hq:=HPZ.out;obtain ⟨ca,cb,cf,cr,ck,-⟩:=HC.out _ hq;unfold SubE.F at cf;obtain ⟨ca0,ca1,ca2,ca3,ca4⟩:=aQ ca;obtain ⟨cb0,cb1,cb2,cb3,cb4⟩:=aQ cb;clear ca cb;have hf0:=HF0.out;have e0:¬((0:Int)<(ta.flds.length:Int)):=(by omega);clear hq;obtain ⟨kz,hstz,hnz,hgz⟩:=HPZ.out;have HSZ:=aF hstz;have HNZ:=aF hnz;have HGZ:=aF hgz;have hkz:=hstz.k;clear hnz hgz;go_wp2_with (at_mapUpdate;refine cX _ rfl _ _ _ 277 rfl 77 3 4 arrP Tryz.underlying3 progN Tryz.underlying277 _ _ _ rfl hstz.memo (hstz.lt HEE.out) _ _ rfl wfs wft (by rw [HVV.out];rfl) ?_;intro w9 hm9 hg9;have HM9:=aF hm9;have HG9:=aF hg9;clear hm9 hg9);clear hstz;go_ret;refine ⟨?_,SubE.fin HEE.out HM.out HR.out HB1.out HSZ.out HNZ.out HGZ.out HM9.out HG9.out⟩;rw [HVV.out];rfl))
  ·have HV:=aF (HL2.out s2 (by simp));cases s2
   ·go_wp2_with (first | (go_at_call 189;refine (HO.out _ HPH.out).mono ?_;rintro e' w1 ⟨rfl,hq⟩;have HQ1:=aF hq;obtain ⟨ca,cb,cf,cr,ck,-⟩:=HC.out _ hq;unfold SubE.F at cf;obtain ⟨ca0,ca1,ca2,ca3,ca4⟩:=aQ ca;obtain ⟨cb0,cb1,cb2,cb3,cb4⟩:=aQ cb;clear ca cb;try rw [hmu] at ca1;clear hq) | (go_at_call 212;refine (HSS.out _ _ (by first | exact Or.inl ⟨rfl,rfl⟩ | exact Or.inr ⟨rfl,rfl⟩) _ (by exact HQ1.out)).mono ?_;rintro e' w2 ⟨rfl,hq⟩;rw [HE1.out];have HQ2:=aF hq;obtain ⟨ca,cb,cf,cr,ck,-⟩:=HC.out _ hq;unfold SubE.F at cf;obtain ⟨ca0,ca1,ca2,ca3,ca4⟩:=aQ ca;obtain ⟨cb0,cb1,cb2,cb3,cb4⟩:=aQ cb;clear ca cb;try rw [hmu] at ca1;clear hq) | (go_at_call 212;refine (HSS.out _ _ (by first | exact Or.inl ⟨rfl,rfl⟩ | exact Or.inr ⟨rfl,rfl⟩) _ (by exact HQ2.out)).mono ?_;rintro e' w3 ⟨rfl,hq⟩;rw [HE2.out];have HQ3:=aF hq;obtain ⟨ca,cb,cf,cr,ck,-⟩:=HC.out _ hq;unfold SubE.F at cf;obtain ⟨ca0,ca1,ca2,ca3,ca4⟩:=aQ ca;obtain ⟨cb0,cb1,cb2,cb3,cb4⟩:=aQ cb;clear ca cb;try rw [hmu] at ca1;clear hq))
    have HPZ:=HQ3;have HVV:Hid (subB b s t=false):=aF (by rw [HV.out.1];rfl);(try clear HCALL);(try clear HSS);(try clear HE1);(try clear HE2); (try clear HO);(try clear HL2);(try clear HLAW);go_loopg [9,13] 0 (fun gk v i wr=>v = .bool false/\i = .int .i64 0/\Hid (E.Ph b W1 ks ((s:Int)+t) wr));(case atStart=>exact ⟨rfl,rfl,HPZ⟩);(case round=>(obtain ⟨rfl,rfl,HPZ⟩:=hrel;obtain ⟨kz,hstz,hnz,hgz⟩:=HPZ.out;have HSZ:=aF hstz;have HNZ:=aF hnz;have HGZ:=aF hgz;have hkz:=hstz.k;clear hnz hgz;go_wp2_with (at_mapUpdate;refine cX _ rfl _ _ _ 277 rfl 77 3 4 arrP Tryz.underlying3 progN Tryz.underlying277 _ _ _ rfl hstz.memo (hstz.lt HEE.out) _ _ rfl wfs wft (by rw [HVV.out];rfl) ?_;intro w9 hm9 hg9;have HM9:=aF hm9;have HG9:=aF hg9;clear hm9 hg9);clear hstz;go_ret;refine ⟨?_,SubE.fin HEE.out HM.out HR.out HB1.out HSZ.out HNZ.out HGZ.out HM9.out HG9.out⟩;rw [HVV.out];rfl))
   ·go_wp2_with (first | (go_at_call 189;refine (HO.out _ HPH.out).mono ?_;rintro e' w1 ⟨rfl,hq⟩;have HQ1:=aF hq;obtain ⟨ca,cb,cf,cr,ck,-⟩:=HC.out _ hq;unfold SubE.F at cf;obtain ⟨ca0,ca1,ca2,ca3,ca4⟩:=aQ ca;obtain ⟨cb0,cb1,cb2,cb3,cb4⟩:=aQ cb;clear ca cb;try rw [hmu] at ca1;clear hq) | (go_at_call 212;refine (HSS.out _ _ (by first | exact Or.inl ⟨rfl,rfl⟩ | exact Or.inr ⟨rfl,rfl⟩) _ (by exact HQ1.out)).mono ?_;rintro e' w2 ⟨rfl,hq⟩;rw [HE1.out];have HQ2:=aF hq;obtain ⟨ca,cb,cf,cr,ck,-⟩:=HC.out _ hq;unfold SubE.F at cf;obtain ⟨ca0,ca1,ca2,ca3,ca4⟩:=aQ ca;obtain ⟨cb0,cb1,cb2,cb3,cb4⟩:=aQ cb;clear ca cb;try rw [hmu] at ca1;clear hq) | (go_at_call 212;refine (HSS.out _ _ (by first | exact Or.inl ⟨rfl,rfl⟩ | exact Or.inr ⟨rfl,rfl⟩) _ (by exact HQ2.out)).mono ?_;rintro e' w3 ⟨rfl,hq⟩;rw [HE2.out];have HQ3:=aF hq;obtain ⟨ca,cb,cf,cr,ck,-⟩:=HC.out _ hq;unfold SubE.F at cf;obtain ⟨ca0,ca1,ca2,ca3,ca4⟩:=aQ ca;obtain ⟨cb0,cb1,cb2,cb3,cb4⟩:=aQ cb;clear ca cb;try rw [hmu] at ca1;clear hq))
    have HPZ:=HQ3;have HVV:Hid (subB b s t=true):=aF (by rw [HV.out.1,List.length_eq_zero_iff.1 HF0.out];rfl);(try clear HCALL);(try clear HSS);(try clear HE1);(try clear HE2); (try clear HO);(try clear HL2);(try clear HLAW);go_loopg [9,13] 0 (fun gk v i wr=>v = .bool true/\i = .int .i64 0/\Hid (E.Ph b W1 ks ((s:Int)+t) wr));(case atStart=>exact ⟨rfl,rfl,HPZ⟩);(case round=>(obtain ⟨rfl,rfl,HPZ⟩:=hrel;have hq:=HPZ.out;obtain ⟨ca,cb,cf,cr,ck,-⟩:=HC.out _ hq;unfold SubE.F at cf;obtain ⟨ca0,ca1,ca2,ca3,ca4⟩:=aQ ca;obtain ⟨cb0,cb1,cb2,cb3,cb4⟩:=aQ cb;clear ca cb;have hf0:=HF0.out;have e0:¬((0:Int)<(ta.flds.length:Int)):=(by omega);clear hq;obtain ⟨kz,hstz,hnz,hgz⟩:=HPZ.out;have HSZ:=aF hstz;have HNZ:=aF hnz;have HGZ:=aF hgz;have hkz:=hstz.k;clear hnz hgz;go_wp2_with (at_mapUpdate;refine cX _ rfl _ _ _ 277 rfl 77 3 4 arrP Tryz.underlying3 progN Tryz.underlying277 _ _ _ rfl hstz.memo (hstz.lt HEE.out) _ _ rfl wfs wft (by rw [HVV.out];rfl) ?_;intro w9 hm9 hg9;have HM9:=aF hm9;have HG9:=aF hg9;clear hm9 hg9);clear hstz;go_ret;refine ⟨?_,SubE.fin HEE.out HM.out HR.out HB1.out HSZ.out HNZ.out HGZ.out HM9.out HG9.out⟩;rw [HVV.out];rfl))
theorem uE (E:SubE) (b:Bdy) (HE:E.Ok b) (m:Nat) (HREC0:E.Rec b m) (s t:Nat) (hm:s+t<m+1) (hs:s<b.types.length) (ht:t<b.types.length) (W:World) (ks:List (Int × Int)) (h:E.St b W ks) (hmem:((s:Int),(t:Int))∉ks) (hcase:((b.types[s].kind == b.types[t].kind) && (b.types[s].mu == b.types[t].mu) && ((b.types[s].flds.length:Int) == (b.types[t].flds.length:Int)))=false):
 Calls Tryz.prog 212 #[.int .i64 s,.int .i64 t,.pointer (some ⟨E.pk,0,none⟩),.pointer (some ⟨E.pl,0,none⟩),.pointer (some ⟨E.pr,0,none⟩),.pointer (some ⟨E.pf,0,none⟩)] W fun e' W'=>e' = .returned (.bool (subB b s t))/\E.Q b W ks s t W':=by
 have HREC:=aF HREC0;have HSB:=aF (mG HE.ok.tyok hs ht);have HOKS:=aF (HE.ok.tyok s hs);have HOKT:=aF (HE.ok.tyok t ht);have hn:=HE.ok.ntyp;have hlen:=h.lt HE;have wfs:(Lit.int .i64 (s:Int)).wf=true:=WalkArith.wf_i64 (by omega);have wft:(Lit.int .i64 (t:Int)).wf=true:=WalkArith.wf_i64 (by omega);have x1:=h.k;have x2:=h.l;have x3:=h.r;have x4:=h.f;have hmemo:=h.memo;have HST:=aF h;have HEE:=aF HE;have hle:=HE.ty.le;have hbig:=HE.ty.big;have HMD:Hid (decide (((s:Int),(t:Int))∈ks)=false):=aF (by simp [hmem]);have HM:=aF hmem;obtain ⟨bb,oo,hA,hbb,hxs⟩:=HE.ty.sl.at_ hs;obtain ⟨b2,o2,hA2,hbb2,hxt⟩:=HE.ty.sl.at_ ht;have hAA:some (⟨bb,oo,none⟩:Addr)=some ⟨b2,o2,none⟩:=hA.symm.trans hA2;simp only [Option.some.injEq,Addr.mk.injEq,and_true] at hAA;obtain ⟨rfl,rfl⟩:=hAA;clear hA2 hbb2;obtain ⟨ta,hta⟩:∃x,b.types[s]=x:=⟨_,rfl⟩;obtain ⟨tb,htb⟩:∃x,b.types[t]=x:=⟨_,rfl⟩;rw [hta] at hxs HSB HOKS hcase;rw [htb] at hxt HSB HOKT hcase;obtain ⟨r0,r1,r2,r3,A2,c2,r4,r6,r7,r8⟩:=hxs;obtain ⟨q0,q1,q2,q3,B2,d2,q4,q6,q7,q8⟩:=hxt;have HFA:Hid (Slc 1 RInt E.w0 A2 c2 ta.flds):=aF ⟨r8,r6,r7⟩;have HFB:Hid (Slc 1 RInt E.w0 B2 d2 tb.flds):=aF ⟨q8,q6,q7⟩;have hb0:=h.low;replace r0:=cJ hb0 r0;replace r1:=cJ hb0 r1;replace r2:=cJ hb0 r2;replace r3:=cJ hb0 r3;replace r4:=cJ hb0 r4;replace q0:=cJ hb0 q0;replace q1:=cJ hb0 q1;replace q2:=cJ hb0 q2;replace q3:=cJ hb0 q3;replace q4:=cJ hb0 q4;rw [hA] at x2;clear r8 q8 hta htb hb0 h HE hmem;go_enter Tryz.func212,Tryz.ntmps212;go_wp2_with (at_lookup;refine eP _ rfl _ _ 277 rfl 77 3 4 arrP Tryz.underlying3 progN Tryz.underlying277 (fG _) _ _ _ rfl hmemo _ _ rfl wfs wft ?_;rw [aZ HM.out,HMD.out])
 have hS:Below W.heap.size W W.drew:=(aX _ _).drew;refine cQ (S:=fun X=>Below W.heap.size W X) [0,1,2,3,4,5,6,7,8,9,10,11] (by kernel_rfl) ?_;(iterate 8 (refine cR (v:=?_) ?_ hS ?_;rotate_left;(next=>(rintro X hX;have s0:=cJ hX x2;have u0:=cJ hX r0;have u1:=cJ hX r1;have u2:=cJ hX r2;have u3:=cJ hX r3;have u4:=cJ hX r4;have v0:=cJ hX q0;have v1:=cJ hX q1;have v2:=cJ hX q2;have v3:=cJ hX q3;have v4:=cJ hX q4;(try simp only [aI]);go_simp;rfl));simp only [aM]));have hS1:Below W.heap.size W (W.drew.alloc ty0):=aH;have hS2:Below W.heap.size W ((W.drew.alloc ty0).alloc ty0):=aH;refine fW [0,1,2,3,4,5,6,7,9,8,10,11] ty0 (by kernel_rfl) ?_ ?_ ?_ hS1 hS2 ?_
 ·intro a1 w1 K hK;(simp only [aM]);rw [bA (by rfl)];go_simp;exact hK
 ·intro a1 w1 K hK;(simp only [aM]);rw [bA (by rfl)];go_simp;exact hK
 ·exact fun _ _=>rfl
 intro ga gb hg;obtain ⟨hB1,ya,yb⟩:=jQ W.drew ga gb ta tb A2 B2 c2 d2 hg;have hS3:Below W.heap.size W (((W.drew.alloc ty0).alloc ty0).setCells ga 0 (tyL ta A2 c2)):=dF (by rcases hg with h | h <;> (rw [h.1];simp)) _ _ _ hS2
 have tha:((W.drew.alloc ty0).alloc ty0).there ga 0 (tyL ta A2 c2).toArray.size:=by
  rcases hg with ⟨h,-⟩ | ⟨h,-⟩ <;> rw [h]
  ·exact World.there_alloc (dD _ _ _ _ 5 rfl (by simp)) _
  ·exact dD _ _ _ _ 5 (by simp) (by simp)
 have thb:((W.drew.alloc ty0).alloc ty0).there gb 0 (tyL tb B2 d2).toArray.size:=by
  rcases hg with ⟨-,h⟩ | ⟨-,h⟩ <;> rw [h]
  ·exact dD _ _ _ _ 5 (by simp) (by simp)
  ·exact World.there_alloc (dD _ _ _ _ 5 rfl (by simp)) _
 have hS4:Below W.heap.size W ((((W.drew.alloc ty0).alloc ty0).setCells ga 0 (tyL ta A2 c2)).setCells gb 0 (tyL tb B2 d2)):=hS.trans (hB1.mono (aY _));have hne:ga≠gb/\W.heap.size<=ga/\W.heap.size<=gb:=by rcases hg with ⟨rfl,rfl⟩ | ⟨rfl,rfl⟩ <;> simp
 have hML:=HST.out.memo.lt;have hM:E.M≠ga/\E.M≠gb:=by omega
 clear hg;have thc:=World.there_setCells thb ga 0 (tyL ta A2 c2);generalize (W.drew.alloc ty0).alloc ty0=W8 at *;have E9:∃W9,W8.setCells ga 0 (tyL ta A2 c2)=W9:=⟨_,rfl⟩;obtain ⟨W9,e9⟩:=E9;obtain ⟨W1,e1⟩:∃W1,W9.setCells gb 0 (tyL tb B2 d2)=W1:=⟨_,rfl⟩;rw [e9] at hB1 ya yb hS3 hS4 thc;rw [e1] at hB1 ya yb hS4;(refine cM (fun K1 hK1=>?_);simp only [aM];rw [bA (by rfl)]);refine wp_store_mid 81 (.tmp 11) (.tmp 27) rfl ga 0 (tyL ta A2 c2).toArray rfl rfl tha (by kernel_rfl) (by simp [tyL,Value.oneCell']) ?_;rw [List.toList_toArray,e9];refine hK1.out _ _ (fun _=>hS3) ?_;clear hK1;(refine cM (fun K1 hK1=>?_);simp only [aM];rw [bA (by rfl)]);refine wp_store_mid 81 (.tmp 12) (.tmp 31) rfl gb 0 (tyL tb B2 d2).toArray rfl rfl thc (by kernel_rfl) (by simp [tyL,Value.oneCell']) ?_;rw [List.toList_toArray,e1];refine hK1.out _ _ (fun _=>hS4) ?_;clear hK1;refine cV ?_;(simp only [aM]);obtain ⟨ya0,ya1,ya2,ya3,ya4⟩:=aQ ya;obtain ⟨yb0,yb1,yb2,yb3,yb4⟩:=aQ yb;have hst1:=HST.out.keep hS4;have HPH:=aF (SubE.Ph.start HST.out hS4 ((s:Int)+t));have HB1:=aF hS4;have HM1:=aF hM
 have HC:Hid (∀X,E.Ph b W1 ks ((s:Int)+t) X->(aA (tyL ta A2 c2) X ga)/\(aA (tyL tb B2 d2) X gb)/\X.cell? ⟨E.pf,0,none⟩=some E.F/\X.cell? ⟨E.pr,0,none⟩=some (.pointer (some ⟨E.r,0,none⟩))/\X.cell? ⟨E.pk,0,none⟩=some (.map (some E.M))/\Below E.w0.heap.size E.w0 X):=aF (fun X ⟨kx,h1,h2,h3⟩=>
  ⟨fun i v hi=>dQ h3 (ya i v hi) (by simpa using Ne.symm HM1.out.1),fun i v hi=>dQ h3 (yb i v hi) (by simpa using Ne.symm HM1.out.2),h1.f,h1.r,h1.k,h1.low⟩)
 have hbp:=HST.out.memo.lt;clear hS hS1 hS2 hS3 hS4 hB1 ya yb tha thb thc e9 e1 x1 x2 x3 x4 hmemo r0 r1 r2 r3 r4 q0 q1 q2 q3 q4 hM hML
 have HCALL:Hid (∀x y:Int,0<=x->0<=y->x+y<(s:Int)+t->x<(b.types.length:Int)->y<(b.types.length:Int)->∀X,E.Ph b W1 ks ((s:Int)+t) X->
  Calls Tryz.prog 212 #[.int .i64 x,.int .i64 y,.pointer (some ⟨E.pk,0,none⟩),.pointer (some ⟨E.pl,0,none⟩),.pointer (some ⟨E.pr,0,none⟩),.pointer (some ⟨E.pf,0,none⟩)] X fun e' X'=>e' = .returned (.bool (subB b x y))/\E.Ph b W1 ks ((s:Int)+t) X'):=aF (fun x y hx hy hxy hxl hyl X ⟨kx,h1,h2,h3⟩=>by
  obtain ⟨x,rfl⟩:=bG hx;obtain ⟨y,rfl⟩:=bG hy;refine (HREC.out x y (by omega) (by omega) (by omega) X kx h1).mono ?_;rintro e' X' ⟨rfl,hq⟩
  exact ⟨rfl,SubE.Ph.call h1 h2 h3 hq hxy⟩)
 clear HREC hn;obtain ⟨p1,hp1⟩:∃q,(ta.kind == tb.kind)=q:=⟨_,rfl⟩;obtain ⟨p2,hp2⟩:∃q,(ta.mu == tb.mu)=q:=⟨_,rfl⟩;obtain ⟨p3,hp3⟩:∃q,((ta.flds.length:Int) == (tb.flds.length:Int))=q:=⟨_,rfl⟩;obtain ⟨p4,hp4⟩:∃q,(ta.kind == 3)=q:=⟨_,rfl⟩;rw [hp1,hp2,hp3] at hcase;have HCASE:=aF hcase;clear hcase;have HP1:=aF hp1;have HP2:=aF hp2;have HP3:=aF hp3;have HP4:=aF hp4
 have HLAW:Hid (∀q:Bool,(p1=true->p2=true->p3=true->p4=true->q=(outB b.outl b.regions.length ta.reg tb.reg && subB b ta.elem tb.elem && (!ta.mu || subB b tb.elem ta.elem)))->(¬(p1=true/\p2=true/\p3=true/\p4=true)->q=(p1 && p2 && p3))->
  subB b s t=(q && (((ta.flds.drop 0).zip (tb.flds.drop 0)).all (fun p=>subB b p.1 p.2)))/\(q=true->ta.flds.length=tb.flds.length)):=aF (fun q h1 h2=>by
  rw [HSB.out];unfold subS;have g1:decide (ta.kind=tb.kind)=p1:=by rw [<- HP1.out];rfl
  have g2:decide (ta.mu=tb.mu)=p2:=by rw [<- HP2.out];cases ta.mu <;> cases tb.mu <;> rfl
  have g3:decide (ta.flds.length=tb.flds.length)=p3:=by rw [<- HP3.out,iA]
  have g4:decide (ta.kind≠3) = !p4:=by rw [<- HP4.out];by_cases h:ta.kind=3 <;> simp [h]
  have g5:p4=true->ta.flds=[]:=fun h=>(HOKS.out.1 (by rw [<- HP4.out] at h;simpa using h)).2.2
  rw [g1,g2,g3,g4,bX,bX];have g6:p3=true->ta.flds.length=tb.flds.length:=fun h=>by rw [<- g3] at h;simpa using h
  cases p1 <;> cases p2 <;> cases p3 <;> cases p4 <;> simp_all)
 clear HSB;have HR:Hid (0<=(s:Int)/\(s:Int)<(b.types.length:Int)/\0<=(t:Int)/\(t:Int)<(b.types.length:Int)):=aF ⟨by omega,by omega,by omega,by omega⟩
 have HO:Hid (∀X,E.Ph b W1 ks ((s:Int)+t) X->Calls Tryz.prog 189 #[.pointer (some ⟨E.r,0,none⟩),.int .i64 ta.reg,.int .i64 tb.reg] X fun e' X'=>e' = .returned (.bool (outB b.outl b.regions.length ta.reg tb.reg))/\E.Ph b W1 ks ((s:Int)+t) X'):=aF (fun X hX=>by
  refine (gP b.outl b.regions.length ta.reg tb.reg E.r X (HEE.out.rel.keep (HC.out X hX).2.2.2.2.2) HEE.out.ok.pairs (by have:=HEE.out.ok.nreg;omega) HEE.out.ok.nout).mono ?_;rintro e' X' ⟨rfl,hb⟩
  exact ⟨rfl,hX.keep hb⟩)
 obtain ⟨z1,z2,z3,z4⟩:W1.cell? ⟨E.pf,0,none⟩=some E.F/\W1.cell? ⟨E.pr,0,none⟩=some (.pointer (some ⟨E.r,0,none⟩))/\W1.cell? ⟨E.pk,0,none⟩=some (.map (some E.M))/\True:=⟨hst1.f,hst1.r,hst1.k,trivial⟩;clear hst1 z4;unfold SubE.F at z1;have hc:=HCASE.out;clear HCASE;have hall:¬(p1=true/\p2=true/\p3=true/\p4=true):=by rintro ⟨rfl,rfl,rfl,rfl⟩;simp at hc
 have HL3:Hid (∀q:Bool,q=(p1 && p2 && p3)->subB b s t=(q && (((ta.flds.drop 0).zip (tb.flds.drop 0)).all (fun p=>subB b p.1 p.2)))/\(q=true->ta.flds.length=tb.flds.length)):=aF (fun q hq=>HLAW.out q (fun h1 h2 h3 h4=>absurd ⟨h1,h2,h3,h4⟩ hall) (fun _=>hq));clear HLAW HO HP1 HP2 HP3 HP4;have HPZ:=HPH;rcases (show p1=false\/(p1=true/\p2=false)\/(p1=true/\p2=true/\p3=false) by revert hc;cases p1 <;> cases p2 <;> cases p3 <;> simp) with rfl | ⟨rfl,rfl⟩ | ⟨rfl,rfl,rfl⟩
 ·have HV:=aF (HL3.out false rfl);clear hall HL3 hc;go_wp2_with fail
  have HVV:Hid (subB b s t=false):=aF (by rw [HV.out.1];rfl);(try clear HCALL);(try clear HSS);(try clear HE1);(try clear HE2); (try clear HO);(try clear HL2);(try clear HLAW);go_loopg [9,13] 0 (fun gk v i wr=>v = .bool false/\i = .int .i64 0/\Hid (E.Ph b W1 ks ((s:Int)+t) wr));(case atStart=>exact ⟨rfl,rfl,HPZ⟩);(case round=>(obtain ⟨rfl,rfl,HPZ⟩:=hrel;obtain ⟨kz,hstz,hnz,hgz⟩:=HPZ.out;have HSZ:=aF hstz;have HNZ:=aF hnz;have HGZ:=aF hgz;have hkz:=hstz.k;clear hnz hgz;go_wp2_with (at_mapUpdate;refine cX _ rfl _ _ _ 277 rfl 77 3 4 arrP Tryz.underlying3 progN Tryz.underlying277 _ _ _ rfl hstz.memo (hstz.lt HEE.out) _ _ rfl wfs wft (by rw [HVV.out];rfl) ?_;intro w9 hm9 hg9;have HM9:=aF hm9;have HG9:=aF hg9;clear hm9 hg9);clear hstz;go_ret;refine ⟨?_,SubE.fin HEE.out HM.out HR.out HB1.out HSZ.out HNZ.out HGZ.out HM9.out HG9.out⟩;rw [HVV.out];rfl))
 ·have HV:=aF (HL3.out false rfl);clear hall HL3 hc;go_wp2_with fail
  have HVV:Hid (subB b s t=false):=aF (by rw [HV.out.1];rfl);(try clear HCALL);(try clear HSS);(try clear HE1);(try clear HE2); (try clear HO);(try clear HL2);(try clear HLAW);go_loopg [9,13] 0 (fun gk v i wr=>v = .bool false/\i = .int .i64 0/\Hid (E.Ph b W1 ks ((s:Int)+t) wr));(case atStart=>exact ⟨rfl,rfl,HPZ⟩);(case round=>(obtain ⟨rfl,rfl,HPZ⟩:=hrel;obtain ⟨kz,hstz,hnz,hgz⟩:=HPZ.out;have HSZ:=aF hstz;have HNZ:=aF hnz;have HGZ:=aF hgz;have hkz:=hstz.k;clear hnz hgz;go_wp2_with (at_mapUpdate;refine cX _ rfl _ _ _ 277 rfl 77 3 4 arrP Tryz.underlying3 progN Tryz.underlying277 _ _ _ rfl hstz.memo (hstz.lt HEE.out) _ _ rfl wfs wft (by rw [HVV.out];rfl) ?_;intro w9 hm9 hg9;have HM9:=aF hm9;have HG9:=aF hg9;clear hm9 hg9);clear hstz;go_ret;refine ⟨?_,SubE.fin HEE.out HM.out HR.out HB1.out HSZ.out HNZ.out HGZ.out HM9.out HG9.out⟩;rw [HVV.out];rfl))
 ·have HV:=aF (HL3.out false rfl);clear hall HL3 hc;go_wp2_with fail
  have HVV:Hid (subB b s t=false):=aF (by rw [HV.out.1];rfl);(try clear HCALL);(try clear HSS);(try clear HE1);(try clear HE2); (try clear HO);(try clear HL2);(try clear HLAW);go_loopg [9,13] 0 (fun gk v i wr=>v = .bool false/\i = .int .i64 0/\Hid (E.Ph b W1 ks ((s:Int)+t) wr));(case atStart=>exact ⟨rfl,rfl,HPZ⟩);(case round=>(obtain ⟨rfl,rfl,HPZ⟩:=hrel;obtain ⟨kz,hstz,hnz,hgz⟩:=HPZ.out;have HSZ:=aF hstz;have HNZ:=aF hnz;have HGZ:=aF hgz;have hkz:=hstz.k;clear hnz hgz;go_wp2_with (at_mapUpdate;refine cX _ rfl _ _ _ 277 rfl 77 3 4 arrP Tryz.underlying3 progN Tryz.underlying277 _ _ _ rfl hstz.memo (hstz.lt HEE.out) _ _ rfl wfs wft (by rw [HVV.out];rfl) ?_;intro w9 hm9 hg9;have HM9:=aF hm9;have HG9:=aF hg9;clear hm9 hg9);clear hstz;go_ret;refine ⟨?_,SubE.fin HEE.out HM.out HR.out HB1.out HSZ.out HNZ.out HGZ.out HM9.out HG9.out⟩;rw [HVV.out];rfl))
theorem qV (E:SubE) (b:Bdy) (HE:E.Ok b) (s t:Nat) (hs:s<b.types.length) (ht:t<b.types.length) (W:World) (ks:List (Int × Int)) (h:E.St b W ks) (hmem:((s:Int),(t:Int))∈ks):
 Calls Tryz.prog 212 #[.int .i64 s,.int .i64 t,.pointer (some ⟨E.pk,0,none⟩),.pointer (some ⟨E.pl,0,none⟩),.pointer (some ⟨E.pr,0,none⟩),.pointer (some ⟨E.pf,0,none⟩)] W fun e' W'=>e' = .returned (.bool (subB b s t))/\E.Q b W ks s t W':=by
 have hn:=HE.ok.ntyp;have hlen:=h.lt HE;have wfs:(Lit.int .i64 (s:Int)).wf=true:=WalkArith.wf_i64 (by omega);have wft:(Lit.int .i64 (t:Int)).wf=true:=WalkArith.wf_i64 (by omega);have x1:=h.k;have x2:=h.l;have x3:=h.r;have x4:=h.f;have hmemo:=h.memo;have HST:=aF h;have HEE:=aF HE;have hle:=HE.ty.le;have hbig:=HE.ty.big;have HMD:Hid (decide (((s:Int),(t:Int))∈ks)=true):=aF (by simp [hmem]);have HM:=aF hmem;clear h HE hmem;go_enter Tryz.func212,Tryz.ntmps212
 go_wp2_with (at_lookup;refine eP _ rfl _ _ 277 rfl 77 3 4 arrP Tryz.underlying3 progN Tryz.underlying277 (fG _) _ _ _ rfl hmemo _ _ rfl wfs wft ?_;rw [bA HM.out,HMD.out])
 go_ret;exact ⟨rfl,ks,HST.out,fun p hp=>Or.inl hp,eA (aX _ _) _⟩
theorem nP (E:SubE) (b:Bdy) (HE:E.Ok b):∀m:Nat,E.Rec b m
 | 0=>fun _ _ h=>absurd h (by omega)
 | m+1=>fun s t hm hs ht W ks h=>by
   have HR:=nP E b HE m;by_cases hmem:((s:Int),(t:Int))∈ks
   ·exact qV E b HE s t hs ht W ks h hmem
   obtain ⟨p,hp⟩:∃p,((b.types[s].kind == b.types[t].kind) && (b.types[s].mu == b.types[t].mu) && ((b.types[s].flds.length:Int) == (b.types[t].flds.length:Int)))=p:=⟨_,rfl⟩;obtain ⟨q,hq⟩:∃q,(b.types[s].kind == 3)=q:=⟨_,rfl⟩;cases p
   ·exact uE E b HE m HR s t hm hs ht W ks h hmem hp
   ·cases q
    ·exact xC E b HE m HR s t hm hs ht W ks h hmem (by rw [hp,hq];rfl)
    ·exact xD E b HE m HR s t hm hs ht W ks h hmem (by rw [hp,hq];rfl)
end
section
open Go Go.RowKit
theorem kF (W:World) (x y:Int) (T:TypeId) (k:Nat) (hk:k=W.heap.size):Slc 1 RInt (W.alloc (.cells #[.int .i64 x,.int .i64 y] T)) (some ⟨k,0,none⟩) 2 [x,y]:=by
 subst hk;refine ⟨fun _=>⟨_,_,rfl,by simp,fun i q hi=>?_⟩,by simp,by omega⟩;show (W.alloc _).cell? ⟨W.heap.size,0+i * 1,none⟩=_;rw [World.cell?_alloc_at _ _ _ _ (by simp),Nat.zero_add,Nat.mul_one];match i,hi with
 | 0,hi=>simp at hi;subst hi;rfl
 | 1,hi=>simp at hi;subst hi;rfl
 | i+2,hi=>simp at hi
theorem cT {w w1:World} {l1 l2:List Value} {t1 t2:TypeId} (hb:Below ((w.alloc (.cells l1.toArray t1)).alloc (.cells l2.toArray t2)).heap.size ((w.alloc (.cells l1.toArray t1)).alloc (.cells l2.toArray t2)) w1):
 (∀i v,l1[i]?=some v->w1.cell? ⟨w.heap.size,i,none⟩=some v)/\(∀i v,l2[i]?=some v->w1.cell? ⟨w.heap.size+1,i,none⟩=some v):=by
 refine ⟨fun i v hi=>cJ hb ?_,fun i v hi=>cJ hb ?_⟩
 ·exact cJ ((aX _ _).alloc (aY _) _) (cP w l1 t1 i v hi)
 ·have:=cP (w.alloc (.cells l1.toArray t1)) l2 t2 i v hi;rwa [bI] at this
theorem eZ (b:Bdy) (bh:BH) (r:Nat) (p:Plc) (A:Option Addr) (c:Nat) (w:World) (H:BdAt w b bh) (hp:Slc 2 RPj w A c p.proj) (hok:Okay b.types b.locals):
 Calls Tryz.prog 116 #[.agg (ckC b bh r).toArray,.agg #[.int .i64 p.loc,.slice A p.proj.length c]] w fun e' w'=>e' = .returned (.tuple #[.int .i64 (tyB b p).1,.int .i64 (writE b p)])/\Below w.heap.size w w':=by
 have HT:=aF (fun W (hb:Below w.heap.size w W)=>dX b bh r p A c W (H.keep hb) (hp.keep RPj.keeps hb) hok);have HM:=aF (fun W (hb:Below w.heap.size w W)=>iC b.types b.locals p.loc p.proj bh.A3 bh.A4 A bh.c3 bh.c4 c W (H.keep hb).typ (H.keep hb).loc (hp.keep RPj.keeps hb) hok);change Hid (∀W,Below w.heap.size w W->Calls Tryz.prog 149 _ W fun e' w'=>e' = .returned (.bool (mutB b p))/\Below W.heap.size W w') at HM;have HQ:Hid (writE b p=if (tyB b p).2≠0 then (tyB b p).2 else fail22 (!mutB b p)):=aF rfl;generalize hq:writE b p=q at HQ ⊢;clear hq;generalize tyB b p=t at HT HQ ⊢;generalize mutB b p=mu at HM HQ;obtain ⟨t,e⟩:=t;simp only at HT HQ ⊢;clear H hp hok;unfold ckC at HT ⊢;by_cases he:e=0
 ·subst he;have HF:Hid (firstE [0,fail22 !mu]=q):=aF (by rw [HQ.out];cases mu <;> rfl);clear HQ;go_enter Tryz.func116,Tryz.ntmps116
  go_wp2_with (first
   | (go_at_call 123;refine (HT.out _ (bel2 _ _ _)).mono ?_;rintro e' w1 ⟨rfl,hb1⟩;have HB:=aF ((bel2 _ _ _).trans (hb1.mono (bel2 _ _ _).size));obtain ⟨y,z⟩:=cT hb1;obtain ⟨-,-,-,y3,y4⟩:=aQ y;obtain ⟨z0,z1⟩:=aN z;clear y z hb1)
   | (go_at_call 149;refine (HM.out _ HB.out).mono ?_;rintro e' w2 ⟨rfl,hb2⟩;have HB2:=aF (HB.out.trans (hb2.mono HB.out.size));clear hb2)
   | (go_at_call 120;refine (dL _ _).mono ?_;rintro e' w3 ⟨rfl,hw⟩;obtain rfl:=hw.symm)
   | (go_at_call 109;refine (eU [0,fail22 !mu] _ 2 _ (kF _ _ _ _ _ rfl)).mono ?_;rintro e' w4 ⟨rfl,hw⟩;obtain rfl:=hw.symm))
  go_ret2
  exact ⟨by rw [<- HF.out];rfl,HB2.out.alloc HB2.out.size _⟩
 ·have HF:Hid (firstE [e,fail22 false]=q):=aF (by rw [HQ.out,bA he];show (if e=0 then _ else e)=e;rw [aZ he]);have e1:(e == 0)=false:=by simp [he]
  clear HQ he HM;go_enter Tryz.func116,Tryz.ntmps116
  go_wp2_with (first
   | (go_at_call 123;refine (HT.out _ (bel2 _ _ _)).mono ?_;rintro e' w1 ⟨rfl,hb1⟩;have HB:=aF ((bel2 _ _ _).trans (hb1.mono (bel2 _ _ _).size));obtain ⟨y,z⟩:=cT hb1;obtain ⟨-,-,-,y3,y4⟩:=aQ y;obtain ⟨z0,z1⟩:=aN z;clear y z hb1)
   | (go_at_call 120;refine (dL _ _).mono ?_;rintro e' w3 ⟨rfl,hw⟩;obtain rfl:=hw.symm)
   | (go_at_call 109;refine (eU [e,fail22 false] _ 2 _ (kF _ _ _ _ _ rfl)).mono ?_;rintro e' w4 ⟨rfl,hw⟩;obtain rfl:=hw.symm))
  go_ret2
  exact ⟨by rw [<- HF.out];rfl,HB.out.alloc HB.out.size _⟩
theorem jA (b:Bdy) (bh:BH) (r:Nat) (o:Opd) (A:Option Addr) (c:Nat) (w:World) (H:BdAt w b bh) (hp:Slc 2 RPj w A c o.place.proj) (hok:Okay b.types b.locals)
 (hty:o.kind≠2->o.kind≠3->o.kind≠4->(tyB b o.place).2=0):
 Calls Tryz.prog 121 #[.agg (ckC b bh r).toArray,.agg (opC o A c).toArray] w fun e' w'=>e' = .returned (.int .i64 (kindO b o))/\Below w.heap.size w w':=by
 have HT:=aF (fun W (hb:Below w.heap.size w W)=>dX b bh r o.place A c W (H.keep hb) (hp.keep RPj.keeps hb) hok);have HQ:Hid (kindO b o=if o.kind=2 then 2 else if o.kind=3 then 1 else if o.kind=4 then 0 else kindT b (tyB b o.place).1):=aF rfl;generalize kindO b o=q at HQ ⊢;have HS:=aF H.typ;have hin:=fZ hok (l:=o.place.loc) (ps:=o.place.proj);change (tyB b o.place).2=0->0<=(tyB b o.place).1/\(tyB b o.place).1<b.types.length at hin;generalize tyB b o.place=t at HT HQ hty hin;obtain ⟨t,e⟩:=t;simp only at HQ hty hin;clear H hp hok;unfold ckC at HT ⊢;unfold opC;obtain ⟨A3,h3⟩:∃x,bh.A3=x:=⟨_,rfl⟩;rw [h3] at HS HT ⊢;clear h3;by_cases h2:o.kind=2
 ·have HF:Hid (q=2):=aF (by rw [HQ.out,bA h2]);rw [h2];clear HQ HT HS hty hin;go_enter Tryz.func121,Tryz.ntmps121
  go_wp2_with fail
  go_ret;exact ⟨by rw [HF.out];rfl,aH⟩
 by_cases h3:o.kind=3
 ·have HF:Hid (q=1):=aF (by rw [HQ.out,aZ h2,bA h3]);rw [h3];clear HQ HT HS hty hin;go_enter Tryz.func121,Tryz.ntmps121
  go_wp2_with fail
  go_ret;exact ⟨by rw [HF.out];rfl,aH⟩
 by_cases h4:o.kind=4
 ·have HF:Hid (q=0):=aF (by rw [HQ.out,aZ h2,aZ h3,bA h4]);rw [h4];clear HQ HT HS hty hin;go_enter Tryz.func121,Tryz.ntmps121
  go_wp2_with fail
  go_ret;exact ⟨by rw [HF.out];rfl,aH⟩
 obtain rfl:=hty h2 h3 h4;obtain ⟨g1,g2⟩:=hin rfl;obtain ⟨k,rfl⟩:=bG g1;have hlt:k<b.types.length:=by omega
 obtain ⟨bb,oo,rfl,hbb,hx⟩:=HS.out.sl.at_ hlt;have HF:Hid (q=b.types[k].kind):=aF (by rw [HQ.out,aZ h2,aZ h3,aZ h4,kindT];simp [hlt]);generalize b.types[k]=ty at hx HF;obtain ⟨r1,-⟩:=hx;have e2:(o.kind == 2)=false:=by simp [h2]
 have e3:(o.kind == 3)=false:=by simp [h3]
 have e4:(o.kind == 4)=false:=by simp [h4]
 clear HQ HS hty hin h2 h3 h4 g1;go_enter Tryz.func121,Tryz.ntmps121
 go_wp2_with (go_at_call 123;refine (HT.out _ (bel2 _ _ _)).mono ?_;rintro e' w1 ⟨rfl,hb1⟩;have HB:=aF ((bel2 _ _ _).trans (hb1.mono (bel2 _ _ _).size));obtain ⟨y,-⟩:=cT hb1;have y3:=y 3 _ rfl;have x1:=cJ HB.out r1;clear y hb1)
 go_ret;exact ⟨by rw [HF.out];rfl,HB.out⟩
theorem mZ (b:Bdy) (bh:BH) (r:Nat) (o:Opd) (A:Option Addr) (c:Nat) (w:World) (H:BdAt w b bh) (hp:Slc 2 RPj w A c o.place.proj) (hok:Okay b.types b.locals)
 (hcop:∀W,Below w.heap.size w W->∀i:Int,0<=i->i<b.types.length->Calls Tryz.prog 154 #[.slice bh.A3 b.types.length bh.c3,.int .i64 i] W fun e' w'=>e' = .returned (.bool (copB b.types i))/\Below W.heap.size W w'):
 Calls Tryz.prog 119 #[.agg (ckC b bh r).toArray,.agg (opC o A c).toArray] w fun e' w'=>e' = .returned (.int .i64 (opE b o))/\Below w.heap.size w w':=by
 have HT:=aF (fun W (hb:Below w.heap.size w W)=>dX b bh r o.place A c W (H.keep hb) (hp.keep RPj.keeps hb) hok);have HZ:=aF (fun W=>eH o.place A c W);have HD:=aF (fun W (hb:Below w.heap.size w W)=>oM o.place 0 A c W (hp.keep RPj.keeps hb));have HQ:Hid (opE b o=if o.kind<0\/4<o.kind then 14 else if (o.kind≠2/\o.kind≠3/\o.n≠0)\/(1<o.kind/\zeroP o.place=false) then 2 else if o.kind=3/\o.n≠0/\o.n≠1 then 3 else if 1<o.kind then 0 else if (tyB b o.place).2≠0 then (tyB b o.place).2 else if o.kind=0 then fail22 (!copB b.types (tyB b o.place).1) else fail22 (hasD o.place.proj 0)):=aF rfl;have hin:=fZ hok (l:=o.place.loc) (ps:=o.place.proj);change (tyB b o.place).2=0->0<=(tyB b o.place).1/\(tyB b o.place).1<b.types.length at hin;have HIN:=aF (fun W (hb:Below w.heap.size w W) (h:(tyB b o.place).2=0)=>hcop W hb (tyB b o.place).1 (hin h).1 (hin h).2);clear hcop hin;generalize opE b o=q at HQ ⊢;generalize zeroP o.place=z at HZ HQ;generalize hasD o.place.proj 0=hd at HD HQ;generalize tyB b o.place=t at HT HQ HIN;obtain ⟨t,e⟩:=t;simp only at HQ HIN;generalize copB b.types t=cp at HIN HQ;obtain ⟨k,pl,n⟩:=o;simp only at HQ HT HZ HD;clear H hp hok;unfold ckC at HT ⊢;unfold opC;simp only;by_cases h01:k=0\/k=1
 ·by_cases hn:n=0
  ·subst hn;by_cases he:e=0
   ·subst he;rcases h01 with rfl | rfl
    ·have HF:Hid (q=fail22 (!cp)):=aF (by rw [HQ.out];simp);have HC:=aF (fun W hb=>HIN.out W hb rfl);clear HQ HZ HD HIN;go_enter Tryz.func119,Tryz.ntmps119
     go_wp2_with (first
      | (go_at_call 123;refine (HT.out _ (bel2 _ _ _)).mono ?_;rintro e' w1 ⟨rfl,hb1⟩;have HB:=aF ((bel2 _ _ _).trans (hb1.mono (bel2 _ _ _).size));obtain ⟨z,y⟩:=cT hb1;have z3:=z 3 _ rfl;obtain ⟨y0,y1,y2,y3⟩:=aP y;clear y z hb1)
      | (go_at_call 154;refine (HC.out _ HB.out).mono ?_;rintro e' w2 ⟨rfl,hb2⟩;have HB2:=aF (HB.out.trans (hb2.mono HB.out.size));clear hb2)
      | (go_at_call 120;refine (dL _ _).mono ?_;rintro e' w3 ⟨rfl,hw⟩;obtain rfl:=hw.symm))
     go_ret;exact ⟨by rw [HF.out];rfl,HB2.out⟩
    ·have HF:Hid (q=fail22 hd):=aF (by rw [HQ.out];simp);clear HQ HZ HIN;go_enter Tryz.func119,Tryz.ntmps119
     go_wp2_with (first
      | (go_at_call 123;refine (HT.out _ (bel2 _ _ _)).mono ?_;rintro e' w1 ⟨rfl,hb1⟩;have HB:=aF ((bel2 _ _ _).trans (hb1.mono (bel2 _ _ _).size));obtain ⟨z,y⟩:=cT hb1;have z3:=z 3 _ rfl;obtain ⟨y0,y1,y2,y3⟩:=aP y;clear y z hb1)
      | (go_at_call 124;refine (HD.out _ HB.out).mono ?_;rintro e' w2 ⟨rfl,hb2⟩;have HB2:=aF (HB.out.trans (hb2.mono HB.out.size));clear hb2)
      | (go_at_call 120;refine (dL _ _).mono ?_;rintro e' w3 ⟨rfl,hw⟩;obtain rfl:=hw.symm))
     go_ret;exact ⟨by rw [HF.out];rfl,HB2.out⟩
   ·have HF:Hid (q=e):=aF (by rw [HQ.out];rcases h01 with rfl | rfl <;> simp [he]);have e5:(e != 0)=true:=by simp [he]
    clear HQ HZ HIN HD;rcases h01 with rfl | rfl
    all_goals
     go_enter Tryz.func119,Tryz.ntmps119
     go_wp2_with (go_at_call 123;refine (HT.out _ (bel2 _ _ _)).mono ?_;rintro e' w1 ⟨rfl,hb1⟩;have HB:=aF ((bel2 _ _ _).trans (hb1.mono (bel2 _ _ _).size));obtain ⟨z,y⟩:=cT hb1;have z3:=z 3 _ rfl;obtain ⟨y0,y1,y2,y3⟩:=aP y;clear y z hb1)
     go_ret;exact ⟨by rw [HF.out];rfl,HB.out⟩
  ·have HF:Hid (q=2):=aF (by rw [HQ.out];rcases h01 with rfl | rfl <;> simp [hn]);have e5:(n != 0)=true:=by simp [hn]
   clear HQ HZ HIN HD HT;rcases h01 with rfl | rfl
   all_goals
    go_enter Tryz.func119,Tryz.ntmps119
    go_wp2_with fail
    go_ret;exact ⟨by rw [HF.out];rfl,aH⟩
 ·have HK:Hid (¬(k=0\/k=1)):=aF h01;have e0:(k == 0)=false:=by simp;omega
  have e1:(k == 1)=false:=by simp;omega
  clear h01 HT HD HIN;go_enter Tryz.func119,Tryz.ntmps119
  go_wp2_with (go_at_call 115;refine (HZ.out _).mono ?_;rintro e' w1 ⟨rfl,hb1⟩;have HB:=aF ((bel2 _ _ _).trans (hb1.mono (bel2 _ _ _).size));obtain ⟨-,y⟩:=cT hb1;obtain ⟨y0,y1,y2,y3⟩:=aP y;clear y hb1)
  all_goals
   go_ret;refine ⟨?_,by first | exact HB.out | exact aH⟩;have HF:=HQ.out;have hk:=HK.out;try clear y0 y1 y2 y3
   clear HQ HZ HK;rw [HF];refine congrArg (fun i=>Ending.returned (Value.int .i64 i)) ?_;clear HF;have b2:(k == 2)=decide (k=2):=by rw [bR];simp
   have b3:(k == 3)=decide (k=3):=by rw [bR];simp
   have b4:(k != 4)=decide (k≠4):=by rw [bR];simp
   have b5:(n != 0)=decide (n≠0):=by rw [bR];simp
   have b6:(n != 1)=decide (n≠1):=by rw [bR];simp
   simp only [b2,b3,b4,b5,b6] at *;clear b2 b3 b4 b5 b6;grind
theorem vO (b:Bdy) (bh:BH) (r:Nat) (o:Opd) (f:Nat) (A:Option Addr) (c:Nat) (w:World) (H:BdAt w b bh) (hp:Slc 2 RPj w A c o.place.proj) (hok:Okay b.types b.locals)
 (hty:o.kind≠2->o.kind≠3->o.kind≠4->(tyB b o.place).2=0) (hf:f<b.types.length)
 (hsub:∀W,Below w.heap.size w W->∀i:Int,0<=i->i<b.types.length->Calls Tryz.prog 193 #[.pointer (some ⟨r,0,none⟩),.slice bh.A3 b.types.length bh.c3,.int .i64 i,.int .i64 f] W fun e' w'=>e' = .returned (.bool (subB b i f))/\Below W.heap.size W w'):
 Calls Tryz.prog 155 #[.agg (ckC b bh r).toArray,.agg (opC o A c).toArray,.int .i64 f] w fun e' w'=>e' = .returned (.bool (fitsO b o f))/\Below w.heap.size w w':=by
 have HT:=aF (fun W (hb:Below w.heap.size w W)=>dX b bh r o.place A c W (H.keep hb) (hp.keep RPj.keeps hb) hok);have HK:=aF (fun W (hb:Below w.heap.size w W)=>jA b bh r o A c W (H.keep hb) (hp.keep RPj.keeps hb) hok hty);have HQ:Hid (fitsO b o f=if o.kind≠0/\o.kind≠1 then decide (kindO b o=kindT b f) else subB b (tyB b o.place).1 f):=aF rfl;have HS:=aF H.typ;have hin:=fZ hok (l:=o.place.loc) (ps:=o.place.proj);change (tyB b o.place).2=0->0<=(tyB b o.place).1/\(tyB b o.place).1<b.types.length at hin;have HIN:=aF (fun W (hb:Below w.heap.size w W) (h:(tyB b o.place).2=0)=>hsub W hb (tyB b o.place).1 (hin h).1 (hin h).2);clear hsub hin;generalize fitsO b o f=q at HQ ⊢;generalize tyB b o.place=t at HT HQ HIN hty;generalize kindO b o=ko at HK HQ;obtain ⟨t,e⟩:=t;simp only at HQ HIN hty;clear H hp hok;unfold ckC at HT HK ⊢;unfold opC at HK ⊢;by_cases h01:o.kind=0\/o.kind=1
 ·obtain rfl:e=0:=hty (by omega) (by omega) (by omega);have HF:Hid (q=subB b t f):=aF (by rw [HQ.out,aZ (by omega)]);have HC:=aF (fun W hb=>HIN.out W hb rfl);clear HQ HIN HK HS hty;generalize subB b t f=sb at HF HC;obtain ⟨k,hk⟩:∃k,o.kind=k:=⟨_,rfl⟩;rw [hk] at h01 ⊢;clear hk;rcases h01 with rfl | rfl
  all_goals
   go_enter Tryz.func155,Tryz.ntmps155
   go_wp2_with (first
    | (go_at_call 123;refine (HT.out _ (bel2 _ _ _)).mono ?_;rintro e' w1 ⟨rfl,hb1⟩;have HB:=aF ((bel2 _ _ _).trans (hb1.mono (bel2 _ _ _).size));obtain ⟨y,-⟩:=cT hb1;obtain ⟨-,-,-,y3,-,-,-,y7⟩:=aT y;clear y hb1)
    | (go_at_call 193;refine (HC.out _ HB.out).mono ?_;rintro e' w2 ⟨rfl,hb2⟩;have HB2:=aF (HB.out.trans (hb2.mono HB.out.size));clear hb2))
   go_ret;exact ⟨by rw [HF.out];rfl,HB2.out⟩
 ·have HF:Hid (q=decide (ko=kindT b f)):=aF (by rw [HQ.out,bA ⟨fun h=>h01 (Or.inl h),fun h=>h01 (Or.inr h)⟩]);have e0:(o.kind != 0)=true:=by simp;omega
  have e1:(o.kind != 1)=true:=by simp;omega
  clear HQ HIN HT hty h01;obtain ⟨A3,h3⟩:∃x,bh.A3=x:=⟨_,rfl⟩;rw [h3] at HS HK ⊢;clear h3;obtain ⟨bb,oo,rfl,hbb,hx⟩:=HS.out.sl.at_ hf;have HF2:Hid (q=decide (ko=b.types[f].kind)):=aF (by rw [HF.out,kindT];simp [hf]);generalize b.types[f]=ty at hx HF2;obtain ⟨r1,-⟩:=hx;clear HS HF;have HB1:=aF (fun (W:World) (h:Below w.heap.size w W)=>h.drew);go_enter Tryz.func155,Tryz.ntmps155
  go_wp2_with fail
  have HB2:=aF (HB1.out _ (bel2 w (.cells #[.string b.name,.slice bh.A1 b.regions.length bh.c1,.slice bh.A2 b.outl.length bh.c2,.slice (some ⟨bb,oo,none⟩) b.types.length bh.c3,.slice bh.A4 b.locals.length bh.c4,.int .i64 b.args,.slice bh.A5 b.blocks.length bh.c5,.pointer (some ⟨r,0,none⟩)] 122) (.cells #[.int .i64 o.kind,.int .i64 o.place.loc,.slice A o.place.proj.length c,.int .i64 o.n] 160)));obtain ⟨y,z⟩:=cT (w:=w) (l1:=[.string b.name,.slice bh.A1 b.regions.length bh.c1,.slice bh.A2 b.outl.length bh.c2,.slice (some ⟨bb,oo,none⟩) b.types.length bh.c3,.slice bh.A4 b.locals.length bh.c4,.int .i64 b.args,.slice bh.A5 b.blocks.length bh.c5,.pointer (some ⟨r,0,none⟩)]) (l2:=[.int .i64 o.kind,.int .i64 o.place.loc,.slice A o.place.proj.length c,.int .i64 o.n]) (t1:=122) (t2:=160) ((aX _ _).drew);have hS:=bJ y (bJ z (cJ HB2.out r1));clear y z;refine cQ (S:=fun X=>(aA [.string b.name,.slice bh.A1 b.regions.length bh.c1,.slice bh.A2 b.outl.length bh.c2,.slice (some ⟨bb,oo,none⟩) b.types.length bh.c3,.slice bh.A4 b.locals.length bh.c4,.int .i64 b.args,.slice bh.A5 b.blocks.length bh.c5,.pointer (some ⟨r,0,none⟩)] X w.heap.size)/\(aA [.int .i64 o.kind,.int .i64 o.place.loc,.slice A o.place.proj.length c,.int .i64 o.n] X (w.heap.size+1))/\X.cell? ⟨bb,oo+f * 5,none⟩=some (.int .i64 ty.kind)) [0,1,3,4,5,6,7,8,9,2,10,11] (by kernel_rfl) ?_;(iterate 9 (refine cR (v:=?_) ?_ hS ?_;rotate_left;(next=>(rintro X ⟨hX,hY,hZ⟩;obtain ⟨s0,s1,s2,s3,s4,s5,s6,s7⟩:=aT hX;obtain ⟨u0,u1,u2,u3⟩:=aP hY;(try simp only [aI]);go_simp;rfl));simp only [aM]));(refine cM (fun K1 hK1=>?_);simp only [aM];rw [bA (by rfl)];go_simp);refine (HK.out _ HB2.out).mono ?_;rintro e' w2 ⟨rfl,hb⟩;replace hS:=bJ (fun i v hi=>cJ hb (hS.1 i v hi)) (bJ (fun i v hi=>cJ hb (hS.2.1 i v hi)) (cJ hb hS.2.2));have HB3:=aF (HB2.out.trans (hb.mono HB2.out.size));clear hb;refine hK1.out _ _ (fun _=>hS) ?_;(iterate 2 (refine cR (v:=?_) ?_ hS ?_;rotate_left;(next=>(rintro X -;(try simp only [aI]);go_simp;rfl));simp only [aM]));refine cV ?_;go_wp2_with fail
  go_ret;exact ⟨by rw [HF2.out];rfl,HB3.out⟩
end
section
open Go Go.RowKit Go.Maps Go.WideMaps
theorem zC (w:World) (b:Bdy) (A:Option Addr) (c r:Nat) (t0 t1 t2 t3:TypeId):
 SubE.St ⟨w,A,c,w.heap.size+3,w.heap.size+1,w.heap.size,w.heap.size+4,w.heap.size+2,r⟩ b (((((w.alloc (.cells #[.pointer (some ⟨r,0,none⟩)] t0)).alloc (.cells #[.slice A b.types.length c] t1)).alloc (.map #[] 0)).alloc (.cells #[.map (some (w.heap.size+2))] t2)).alloc (.cells #[SubE.F ⟨w,A,c,w.heap.size+3,w.heap.size+1,w.heap.size,w.heap.size+4,w.heap.size+2,r⟩] t3)) []:=by
 obtain ⟨F,hF⟩:∃F,SubE.F ⟨w,A,c,w.heap.size+3,w.heap.size+1,w.heap.size,w.heap.size+4,w.heap.size+2,r⟩=F:=⟨_,rfl⟩;rw [hF];have keepA:∀(W W':World) (p:Addr) (v:Value),Below W.heap.size W W'->W.cell? p=some v->W'.cell? p=some v:=fun W W' p v hb h=>cJ hb h
 refine ⟨aH,?_,?_,?_,?_,?_,by simp,by simp⟩
 ·have:=cP (((w.alloc (.cells #[.pointer (some ⟨r,0,none⟩)] t0)).alloc (.cells #[.slice A b.types.length c] t1)).alloc (.map #[] 0)) [.map (some (w.heap.size+2))] t2 0 _ rfl;simp only [bI] at this;exact cJ ((aX _ _).alloc (aY _) _) this
 ·have:=cP (w.alloc (.cells #[.pointer (some ⟨r,0,none⟩)] t0)) [.slice A b.types.length c] t1 0 _ rfl;simp only [bI] at this;exact cJ ((((aX _ _).alloc (aY _) _).alloc (by simp) _).alloc (by simp) _) this
 ·have:=cP w [.pointer (some ⟨r,0,none⟩)] t0 0 _ rfl;exact cJ (((((aX _ _).alloc (aY _) _).alloc (by simp) _).alloc (by simp) _).alloc (by simp) _) this
 ·have:=cP ((((w.alloc (.cells #[.pointer (some ⟨r,0,none⟩)] t0)).alloc (.cells #[.slice A b.types.length c] t1)).alloc (.map #[] 0)).alloc (.cells #[.map (some (w.heap.size+2))] t2)) [F] t3 0 _ rfl;simp only [bI] at this;rw [hF];exact this
 ·have:=Memo.made ((w.alloc (.cells #[.pointer (some ⟨r,0,none⟩)] t0)).alloc (.cells #[.slice A b.types.length c] t1)) Tryz.prog 77 (subB b);simp only [bI] at this;exact (this.alloc _).alloc _
theorem xE (b:Bdy) (A:Option Addr) (c r:Nat) (s t:Int) (w:World) (hs:Slc 5 RTy w A c b.types) (hok:DeclOk b) (hrel:Rel3 w r b.regions.length (relL b.outl)):
 Calls Tryz.prog 193 #[.pointer (some ⟨r,0,none⟩),.slice A b.types.length c,.int .i64 s,.int .i64 t] w fun e' w'=>e' = .returned (.bool (subB b s t))/\Below w.heap.size w w':=by
 have hle:=hs.le;have hbig:=hs.big;by_cases hr:0<=s/\s<(b.types.length:Int)/\0<=t/\t<(b.types.length:Int)
 case neg=>
  rw [uF (by omega)];clear hs hrel hok;go_enter Tryz.func193,Tryz.ntmps193
  go_wp2_with fail
  all_goals first
   | (exfalso;omega)
   | (go_ret;exact ⟨rfl,aH⟩)
 case pos=>
 obtain ⟨i,rfl⟩:=bG hr.1;obtain ⟨j,rfl⟩:=bG hr.2.2.1;have hi:i<b.types.length:=by omega
 have hj:j<b.types.length:=by omega
 have HE:SubE.Ok ⟨w,A,c,w.heap.size+3,w.heap.size+1,w.heap.size,w.heap.size+4,w.heap.size+2,r⟩ b:=⟨hs,hok,hrel,by simp,by simp,by simp,by simp,by simp⟩;have HC:=aF (fun W h=>nP _ b HE (i+j+1) i j (by omega) hi hj W [] h);have hmm:= @run_makeMap Tryz.prog;have hst:∀(a:Addr) (fn:Fn) (f c:Array Value) (W:World),(store a (.func fn f c)).run Tryz.prog W=stored Tryz.prog W a (.func fn f c) .plain:=fun a fn f c W=>run_store Tryz.prog W a (.func fn f c) _ rfl
 clear hs HE hok hrel;generalize hq:subB b (i:Int) (j:Int)=q at HC ⊢;go_enter Tryz.func193,Tryz.ntmps193
 go_wp2_with (go_at_call 212;refine (HC.out _ (zC w b A c r _ _ _ _)).mono ?_;rintro e' w1 ⟨rfl,hq⟩;have HQ:=aF hq;clear hq)
 all_goals first
  | (exfalso;omega)
  | (go_ret
     obtain ⟨ks,h1,-⟩:=HQ.out
     exact ⟨rfl,h1.low⟩)
structure Ck (w:World) (b:Bdy) (bh:BH) (r:Nat):Prop where
 at_:BdAt w b bh
 ok:DeclOk b
 rel:Rel3 w r b.regions.length (relL b.outl)
theorem Ck.keep {w w':World} {b:Bdy} {bh:BH} {r:Nat} (h:Ck w b bh r) (hb:Below w.heap.size w w'):Ck w' b bh r:=⟨h.at_.keep hb,h.ok,h.rel.keep hb⟩
theorem lO {b:Bdy} {bh:BH} {r:Nat} {w:World} (H:Ck w b bh r) (o:Opd) (A:Option Addr) (c:Nat) (hp:Slc 2 RPj w A c o.place.proj):
 Calls Tryz.prog 119 #[.agg (ckC b bh r).toArray,.agg (opC o A c).toArray] w fun e' w'=>e' = .returned (.int .i64 (opE b o))/\Below w.heap.size w w':=
 mZ b bh r o A c w H.at_ hp H.ok.okay (fun W hb i _h0 _h1=>yP b.types H.ok.tyok H.ok.ntyp i bh.A3 bh.c3 W (H.keep hb).at_.typ)
theorem wR {b:Bdy} {o:Opd} (h:opE b o=0):o.kind≠2->o.kind≠3->o.kind≠4->(tyB b o.place).2=0:=by
 intro h2 h3 h4;unfold opE at h;by_cases c1:o.kind<0\/4<o.kind
 ·rw [bA c1] at h;cases h
 rw [aZ c1] at h;by_cases c2:(o.kind≠2/\o.kind≠3/\o.n≠0)\/(1<o.kind/\zeroP o.place=false)
 ·rw [bA c2] at h;cases h
 rw [aZ c2,aZ (by omega),aZ (by omega)] at h;by_cases c3:(tyB b o.place).2≠0
 ·rw [bA c3] at h;exact h
 ·simpa using c3
theorem oJ {b:Bdy} {bh:BH} {r:Nat} {w:World} (H:Ck w b bh r) (o:Opd) (A:Option Addr) (c:Nat) (hp:Slc 2 RPj w A c o.place.proj) (ho:opE b o=0):
 Calls Tryz.prog 121 #[.agg (ckC b bh r).toArray,.agg (opC o A c).toArray] w fun e' w'=>e' = .returned (.int .i64 (kindO b o))/\Below w.heap.size w w':=
 jA b bh r o A c w H.at_ hp H.ok.okay (wR ho)
theorem zR {b:Bdy} {bh:BH} {r:Nat} {w:World} (H:Ck w b bh r) (o:Opd) (A:Option Addr) (c:Nat) (hp:Slc 2 RPj w A c o.place.proj) (ho:opE b o=0) (f:Int) (h0:0<=f) (hf:f<b.types.length):
 Calls Tryz.prog 155 #[.agg (ckC b bh r).toArray,.agg (opC o A c).toArray,.int .i64 f] w fun e' w'=>e' = .returned (.bool (fitsO b o f))/\Below w.heap.size w w':=by
 obtain ⟨f,rfl⟩:=bG h0;exact vO b bh r o f A c w H.at_ hp H.ok.okay (wR ho) (by omega) (fun W hb i _ _=>xE b bh.A3 bh.c3 r i f W (H.keep hb).at_.typ H.ok (H.keep hb).rel)
end
section
open Go Go.RowKit
def Stop (cl:UInt8->Bool) (r:List UInt8):Prop:=∀c t,r=c :: t->cl c=false
theorem Stop.cons {cl:UInt8->Bool} {c:UInt8} (h:cl c=false) (t:List UInt8):Stop cl (c :: t):=fun c' t' e=>by
 cases e;exact h
theorem Stop.nil {cl:UInt8->Bool}:Stop cl []:=fun c t e=>by cases e
theorem vK {n:Int} (h:0<=n):Lib.itoa n=Lib.decDigits n.toNat:=by unfold Lib.itoa;rw [aZ (by omega)]
structure NmLs (ls:List Lc):Prop where
 id:∀(i:Nat) l,ls[i]?=some l->isIdent l.name=true
 inj:∀(i j:Nat) a b,ls[i]?=some a->ls[j]?=some b->a.name=b.name->i=j
structure NmRs (rs:List ByteArray):Prop where
 id:∀(i:Nat) l,rs[i]?=some l->isIdent l=true
 inj:∀(i j:Nat) a b,rs[i]?=some a->rs[j]?=some b->a=b->i=j
def okJ (x:Pj):Prop:=(x.kind=0/\x.field=0)\/(x.kind=1/\0<=x.field)
structure OkPl (ls:List Lc) (p:Plc):Prop where
 loc:okI ls.length p.loc
 pj:∀x∈p.proj,okJ x
structure OkOp (ls:List Lc) (o:Opd):Prop where
 kind:0<=o.kind/\o.kind<=4
 n:o.kind≠2->o.kind≠3->o.n=0
 zero:1<o.kind->o.place=⟨0,[]⟩
 bool:o.kind=3->o.n=0\/o.n=1
 place:o.kind<=1->OkPl ls o.place
 len:o.place.proj.length<=32
end
end Go.Proofs.YtmknfbfppmkcfaaGreatDoor
