/-
  Parts of the proof: V32D V32E V22 V23 V24 V25 V26 V33 V34 H5 Two.
-/
import Derived.Test.YtcfchohkmkilpaaGreatDoorLP0
import Derived.Test.YtcfchohkmkilpaaGreatDoorLP7
import Derived.Test.YtcfchohkmkilpaaGreatDoorLP6
import Derived.Test.YtcfchohkmkilpaaGreatDoorLP3
import Derived.Test.YtcfchohkmkilpaaGreatDoorLP5
namespace Go.Proofs.YtcfchohkmkilpaaGreatDoor
set_option maxRecDepth 100000
set_option maxHeartbeats 16000000
section
open Go Go.RowKit Go.Maps Go.WideMaps
theorem yT (E:SubE) (b:Bdy) (HE:E.Ok b) (m:Nat) (HREC0:E.Rec b m) (s t:Nat) (hm:s+t<m+1) (hs:s<b.types.length) (ht:t<b.types.length) (W:World) (ks:List (Int × Int)) (h:E.St b W ks) (hmem:((s:Int),(t:Int))∉ks) (hcase:((b.types[s].kind == b.types[t].kind) && (b.types[s].mu == b.types[t].mu) && ((b.types[s].flds.length:Int) == (b.types[t].flds.length:Int)))=false):
 Calls Tryz.prog 208 #[.int .i64 s,.int .i64 t,.pointer (some ⟨E.pk,0,none⟩),.pointer (some ⟨E.pl,0,none⟩),.pointer (some ⟨E.pr,0,none⟩),.pointer (some ⟨E.pf,0,none⟩)] W fun e' W'=>e' = .returned (.bool (subB b s t))/\E.Q b W ks s t W':=by
 have HREC:=aF HREC0;have HSB:=aF (iX HE.ok.tyok hs ht);have HOKS:=aF (HE.ok.tyok s hs);have HOKT:=aF (HE.ok.tyok t ht);have hn:=HE.ok.ntyp;have hlen:=h.lt HE;have wfs:(Lit.int .i64 (s:Int)).wf=true:=WalkArith.wf_i64 (by omega);have wft:(Lit.int .i64 (t:Int)).wf=true:=WalkArith.wf_i64 (by omega);have x1:=h.k;have x2:=h.l;have x3:=h.r;have x4:=h.f;have hmemo:=h.memo;have HST:=aF h;have HEE:=aF HE;have hle:=HE.ty.le;have hbig:=HE.ty.big;have HMD:Hid (decide (((s:Int),(t:Int))∈ks)=false):=aF (by simp [hmem]);have HM:=aF hmem;obtain ⟨bb,oo,hA,hbb,hxs⟩:=HE.ty.sl.at_ hs;obtain ⟨b2,o2,hA2,hbb2,hxt⟩:=HE.ty.sl.at_ ht;have hAA:some (⟨bb,oo,none⟩:Addr)=some ⟨b2,o2,none⟩:=hA.symm.trans hA2;simp only [cI,Addr.mk.injEq,and_true] at hAA;obtain ⟨rfl,rfl⟩:=hAA;clear hA2 hbb2;obtain ⟨ta,hta⟩:∃x,b.types[s]=x:=⟨_,rfl⟩;obtain ⟨tb,htb⟩:∃x,b.types[t]=x:=⟨_,rfl⟩;rw [hta] at hxs HSB HOKS hcase;rw [htb] at hxt HSB HOKT hcase;obtain ⟨r0,r1,r2,r3,A2,c2,r4,r6,r7,r8⟩:=hxs;obtain ⟨q0,q1,q2,q3,B2,d2,q4,q6,q7,q8⟩:=hxt;have HFA:Hid (Slc 1 RInt E.w0 A2 c2 ta.flds):=aF ⟨r8,r6,r7⟩;have HFB:Hid (Slc 1 RInt E.w0 B2 d2 tb.flds):=aF ⟨q8,q6,q7⟩;have hb0:=h.low;replace r0:=cO hb0 r0;replace r1:=cO hb0 r1;replace r2:=cO hb0 r2;replace r3:=cO hb0 r3;replace r4:=cO hb0 r4;replace q0:=cO hb0 q0;replace q1:=cO hb0 q1;replace q2:=cO hb0 q2;replace q3:=cO hb0 q3;replace q4:=cO hb0 q4;rw [hA] at x2;clear r8 q8 hta htb hb0 h HE hmem;go_enter Tryz.func208,Tryz.ntmps208;go_wp2_with (at_lookup;refine fI _ rfl _ _ 93 rfl 43 3 4 arrP Tryz.underlying3 progN Tryz.underlying93 (gC _) _ _ _ rfl hmemo _ _ rfl wfs wft ?_;rw [aZ HM.out,HMD.out])
 have hS:Below W.heap.size W W.drew:=(aX _ _).drew;refine cT (S:=fun X=>Below W.heap.size W X) [0,1,2,3,4,5,6,7,8,9,10,11] (by kernel_rfl) ?_;(iterate 8 (refine cR (v:=?_) ?_ hS ?_;rotate_left;(next=>(rintro X hX;have s0:=cO hX x2;have u0:=cO hX r0;have u1:=cO hX r1;have u2:=cO hX r2;have u3:=cO hX r3;have u4:=cO hX r4;have v0:=cO hX q0;have v1:=cO hX q1;have v2:=cO hX q2;have v3:=cO hX q3;have v4:=cO hX q4;(try simp only [aI]);go_simp;rfl));simp only [aM]));have hS1:Below W.heap.size W (W.drew.alloc ty0):=aH;have hS2:Below W.heap.size W ((W.drew.alloc ty0).alloc ty0):=aH;refine iU [0,1,2,3,4,5,6,7,9,8,10,11] ty0 (by kernel_rfl) ?_ ?_ ?_ hS1 hS2 ?_
 ·intro a1 w1 K hK;(simp only [aM]);rw [bA (by rfl)];go_simp;exact hK
 ·intro a1 w1 K hK;(simp only [aM]);rw [bA (by rfl)];go_simp;exact hK
 ·exact fun _ _=>rfl
 intro ga gb hg;obtain ⟨hB1,ya,yb⟩:=mG W.drew ga gb ta tb A2 B2 c2 d2 hg;have hS3:Below W.heap.size W (((W.drew.alloc ty0).alloc ty0).setCells ga 0 (tyL ta A2 c2)):=dP (by rcases hg with h | h <;> (rw [h.1];simp)) _ _ _ hS2
 have tha:((W.drew.alloc ty0).alloc ty0).there ga 0 (tyL ta A2 c2).toArray.size:=by
  rcases hg with ⟨h,-⟩ | ⟨h,-⟩ <;> rw [h]
  ·exact World.there_alloc (dO _ _ _ _ 5 rfl (by simp)) _
  ·exact dO _ _ _ _ 5 (by simp) (by simp)
 have thb:((W.drew.alloc ty0).alloc ty0).there gb 0 (tyL tb B2 d2).toArray.size:=by
  rcases hg with ⟨-,h⟩ | ⟨-,h⟩ <;> rw [h]
  ·exact dO _ _ _ _ 5 (by simp) (by simp)
  ·exact World.there_alloc (dO _ _ _ _ 5 rfl (by simp)) _
 have hS4:Below W.heap.size W ((((W.drew.alloc ty0).alloc ty0).setCells ga 0 (tyL ta A2 c2)).setCells gb 0 (tyL tb B2 d2)):=hS.trans (hB1.mono (aY _));have hne:ga≠gb/\W.heap.size<=ga/\W.heap.size<=gb:=by rcases hg with ⟨rfl,rfl⟩ | ⟨rfl,rfl⟩ <;> simp
 have hML:=HST.out.memo.lt;have hM:E.M≠ga/\E.M≠gb:=by omega
 clear hg;have thc:=World.there_setCells thb ga 0 (tyL ta A2 c2);generalize (W.drew.alloc ty0).alloc ty0=W8 at *;have E9:∃W9,W8.setCells ga 0 (tyL ta A2 c2)=W9:=⟨_,rfl⟩;obtain ⟨W9,e9⟩:=E9;obtain ⟨W1,e1⟩:∃W1,W9.setCells gb 0 (tyL tb B2 d2)=W1:=⟨_,rfl⟩;rw [e9] at hB1 ya yb hS3 hS4 thc;rw [e1] at hB1 ya yb hS4;(refine cY (fun K1 hK1=>?_);simp only [aM];rw [bA (by rfl)]);refine wp_store_mid 65 (.tmp 11) (.tmp 27) rfl ga 0 (tyL ta A2 c2).toArray rfl rfl tha (by kernel_rfl) (by simp [tyL,Value.oneCell']) ?_;rw [List.toList_toArray,e9];refine hK1.out _ _ (fun _=>hS3) ?_;clear hK1;(refine cY (fun K1 hK1=>?_);simp only [aM];rw [bA (by rfl)]);refine wp_store_mid 65 (.tmp 12) (.tmp 31) rfl gb 0 (tyL tb B2 d2).toArray rfl rfl thc (by kernel_rfl) (by simp [tyL,Value.oneCell']) ?_;rw [List.toList_toArray,e1];refine hK1.out _ _ (fun _=>hS4) ?_;clear hK1;refine cZ ?_;(simp only [aM]);obtain ⟨ya0,ya1,ya2,ya3,ya4⟩:=aQ ya;obtain ⟨yb0,yb1,yb2,yb3,yb4⟩:=aQ yb;have hst1:=HST.out.keep hS4;have HPH:=aF (SubE.Ph.start HST.out hS4 ((s:Int)+t));have HB1:=aF hS4;have HM1:=aF hM
 have HC:Hid (∀X,E.Ph b W1 ks ((s:Int)+t) X->(aA (tyL ta A2 c2) X ga)/\(aA (tyL tb B2 d2) X gb)/\X.cell? ⟨E.pf,0,none⟩=some E.F/\X.cell? ⟨E.pr,0,none⟩=some (.pointer (some ⟨E.r,0,none⟩))/\X.cell? ⟨E.pk,0,none⟩=some (.map (some E.M))/\Below E.w0.heap.size E.w0 X):=aF (fun X ⟨kx,h1,h2,h3⟩=>
  ⟨fun i v hi=>dW h3 (ya i v hi) (by simpa using Ne.symm HM1.out.1),fun i v hi=>dW h3 (yb i v hi) (by simpa using Ne.symm HM1.out.2),h1.f,h1.r,h1.k,h1.low⟩)
 have hbp:=HST.out.memo.lt;clear hS hS1 hS2 hS3 hS4 hB1 ya yb tha thb thc e9 e1 x1 x2 x3 x4 hmemo r0 r1 r2 r3 r4 q0 q1 q2 q3 q4 hM hML
 have HCALL:Hid (∀x y:Int,0<=x->0<=y->x+y<(s:Int)+t->x<(b.types.length:Int)->y<(b.types.length:Int)->∀X,E.Ph b W1 ks ((s:Int)+t) X->
  Calls Tryz.prog 208 #[.int .i64 x,.int .i64 y,.pointer (some ⟨E.pk,0,none⟩),.pointer (some ⟨E.pl,0,none⟩),.pointer (some ⟨E.pr,0,none⟩),.pointer (some ⟨E.pf,0,none⟩)] X fun e' X'=>e' = .returned (.bool (subB b x y))/\E.Ph b W1 ks ((s:Int)+t) X'):=aF (fun x y hx hy hxy hxl hyl X ⟨kx,h1,h2,h3⟩=>by
  obtain ⟨x,rfl⟩:=bG hx;obtain ⟨y,rfl⟩:=bG hy;refine (HREC.out x y (by omega) (by omega) (by omega) X kx h1).mono ?_;rintro e' X' ⟨rfl,hq⟩
  exact ⟨rfl,SubE.Ph.call h1 h2 h3 hq hxy⟩)
 clear HREC hn;obtain ⟨p1,hp1⟩:∃q,(ta.kind == tb.kind)=q:=⟨_,rfl⟩;obtain ⟨p2,hp2⟩:∃q,(ta.mu == tb.mu)=q:=⟨_,rfl⟩;obtain ⟨p3,hp3⟩:∃q,((ta.flds.length:Int) == (tb.flds.length:Int))=q:=⟨_,rfl⟩;obtain ⟨p4,hp4⟩:∃q,(ta.kind == 3)=q:=⟨_,rfl⟩;rw [hp1,hp2,hp3] at hcase;have HCASE:=aF hcase;clear hcase;have HP1:=aF hp1;have HP2:=aF hp2;have HP3:=aF hp3;have HP4:=aF hp4
 have HLAW:Hid (∀q:Bool,(p1=true->p2=true->p3=true->p4=true->q=(outB b.outl b.regions.length ta.reg tb.reg && subB b ta.elem tb.elem && (!ta.mu || subB b tb.elem ta.elem)))->(¬(p1=true/\p2=true/\p3=true/\p4=true)->q=(p1 && p2 && p3))->
  subB b s t=(q && (((ta.flds.drop 0).zip (tb.flds.drop 0)).all (fun p=>subB b p.1 p.2)))/\(q=true->ta.flds.length=tb.flds.length)):=aF (fun q h1 h2=>by
  rw [HSB.out];unfold subS;have g1:decide (ta.kind=tb.kind)=p1:=by rw [<- HP1.out];rfl
  have g2:decide (ta.mu=tb.mu)=p2:=by rw [<- HP2.out];cases ta.mu <;> cases tb.mu <;> rfl
  have g3:decide (ta.flds.length=tb.flds.length)=p3:=by rw [<- HP3.out,kE]
  have g4:decide (ta.kind≠3) = !p4:=by rw [<- HP4.out];by_cases h:ta.kind=3 <;> simp [h]
  have g5:p4=true->ta.flds=[]:=fun h=>(HOKS.out.1 (by rw [<- HP4.out] at h;simpa using h)).2.2
  rw [g1,g2,g3,g4,bW,bW];have g6:p3=true->ta.flds.length=tb.flds.length:=fun h=>by rw [<- g3] at h;simpa using h
  cases p1 <;> cases p2 <;> cases p3 <;> cases p4 <;> simp_all)
 clear HSB;have HR:Hid (0<=(s:Int)/\(s:Int)<(b.types.length:Int)/\0<=(t:Int)/\(t:Int)<(b.types.length:Int)):=aF ⟨by omega,by omega,by omega,by omega⟩
 have HO:Hid (∀X,E.Ph b W1 ks ((s:Int)+t) X->Calls Tryz.prog 191 #[.pointer (some ⟨E.r,0,none⟩),.int .i64 ta.reg,.int .i64 tb.reg] X fun e' X'=>e' = .returned (.bool (outB b.outl b.regions.length ta.reg tb.reg))/\E.Ph b W1 ks ((s:Int)+t) X'):=aF (fun X hX=>by
  refine (jF b.outl b.regions.length ta.reg tb.reg E.r X (HEE.out.rel.keep (HC.out X hX).2.2.2.2.2) HEE.out.ok.pairs (by have:=HEE.out.ok.nreg;omega) HEE.out.ok.nout).mono ?_;rintro e' X' ⟨rfl,hb⟩
  exact ⟨rfl,hX.keep hb⟩)
 obtain ⟨z1,z2,z3,z4⟩:W1.cell? ⟨E.pf,0,none⟩=some E.F/\W1.cell? ⟨E.pr,0,none⟩=some (.pointer (some ⟨E.r,0,none⟩))/\W1.cell? ⟨E.pk,0,none⟩=some (.map (some E.M))/\True:=⟨hst1.f,hst1.r,hst1.k,trivial⟩;clear hst1 z4;unfold SubE.F at z1;have hc:=HCASE.out;clear HCASE;have hall:¬(p1=true/\p2=true/\p3=true/\p4=true):=by rintro ⟨rfl,rfl,rfl,rfl⟩;simp at hc
 have HL3:Hid (∀q:Bool,q=(p1 && p2 && p3)->subB b s t=(q && (((ta.flds.drop 0).zip (tb.flds.drop 0)).all (fun p=>subB b p.1 p.2)))/\(q=true->ta.flds.length=tb.flds.length)):=aF (fun q hq=>HLAW.out q (fun h1 h2 h3 h4=>absurd ⟨h1,h2,h3,h4⟩ hall) (fun _=>hq));clear HLAW HO HP1 HP2 HP3 HP4;have HPZ:=HPH;rcases (show p1=false\/(p1=true/\p2=false)\/(p1=true/\p2=true/\p3=false) by revert hc;cases p1 <;> cases p2 <;> cases p3 <;> simp) with rfl | ⟨rfl,rfl⟩ | ⟨rfl,rfl,rfl⟩
 ·have HV:=aF (HL3.out false rfl);clear hall HL3 hc;go_wp2_with fail
  have HVV:Hid (subB b s t=false):=aF (by rw [HV.out.1];rfl);(try clear HCALL);(try clear HSS);(try clear HE1);(try clear HE2); (try clear HO);(try clear HL2);(try clear HLAW);go_loopg [9,13] 0 (fun gk v i wr=>v = .bool false/\i = .int .i64 0/\Hid (E.Ph b W1 ks ((s:Int)+t) wr));(case atStart=>exact ⟨rfl,rfl,HPZ⟩);(case round=>(obtain ⟨rfl,rfl,HPZ⟩:=hrel;obtain ⟨kz,hstz,hnz,hgz⟩:=HPZ.out;have HSZ:=aF hstz;have HNZ:=aF hnz;have HGZ:=aF hgz;have hkz:=hstz.k;clear hnz hgz;go_wp2_with (at_mapUpdate;refine dF _ rfl _ _ _ 93 rfl 43 3 4 arrP Tryz.underlying3 progN Tryz.underlying93 _ _ _ rfl hstz.memo (hstz.lt HEE.out) _ _ rfl wfs wft (by rw [HVV.out];rfl) ?_;intro w9 hm9 hg9;have HM9:=aF hm9;have HG9:=aF hg9;clear hm9 hg9);clear hstz;go_ret;refine ⟨?_,SubE.fin HEE.out HM.out HR.out HB1.out HSZ.out HNZ.out HGZ.out HM9.out HG9.out⟩;rw [HVV.out];rfl))
 ·have HV:=aF (HL3.out false rfl);clear hall HL3 hc;go_wp2_with fail
  have HVV:Hid (subB b s t=false):=aF (by rw [HV.out.1];rfl);(try clear HCALL);(try clear HSS);(try clear HE1);(try clear HE2); (try clear HO);(try clear HL2);(try clear HLAW);go_loopg [9,13] 0 (fun gk v i wr=>v = .bool false/\i = .int .i64 0/\Hid (E.Ph b W1 ks ((s:Int)+t) wr));(case atStart=>exact ⟨rfl,rfl,HPZ⟩);(case round=>(obtain ⟨rfl,rfl,HPZ⟩:=hrel;obtain ⟨kz,hstz,hnz,hgz⟩:=HPZ.out;have HSZ:=aF hstz;have HNZ:=aF hnz;have HGZ:=aF hgz;have hkz:=hstz.k;clear hnz hgz;go_wp2_with (at_mapUpdate;refine dF _ rfl _ _ _ 93 rfl 43 3 4 arrP Tryz.underlying3 progN Tryz.underlying93 _ _ _ rfl hstz.memo (hstz.lt HEE.out) _ _ rfl wfs wft (by rw [HVV.out];rfl) ?_;intro w9 hm9 hg9;have HM9:=aF hm9;have HG9:=aF hg9;clear hm9 hg9);clear hstz;go_ret;refine ⟨?_,SubE.fin HEE.out HM.out HR.out HB1.out HSZ.out HNZ.out HGZ.out HM9.out HG9.out⟩;rw [HVV.out];rfl))
 ·have HV:=aF (HL3.out false rfl);clear hall HL3 hc;go_wp2_with fail
  have HVV:Hid (subB b s t=false):=aF (by rw [HV.out.1];rfl);(try clear HCALL);(try clear HSS);(try clear HE1);(try clear HE2); (try clear HO);(try clear HL2);(try clear HLAW);go_loopg [9,13] 0 (fun gk v i wr=>v = .bool false/\i = .int .i64 0/\Hid (E.Ph b W1 ks ((s:Int)+t) wr));(case atStart=>exact ⟨rfl,rfl,HPZ⟩);(case round=>(obtain ⟨rfl,rfl,HPZ⟩:=hrel;obtain ⟨kz,hstz,hnz,hgz⟩:=HPZ.out;have HSZ:=aF hstz;have HNZ:=aF hnz;have HGZ:=aF hgz;have hkz:=hstz.k;clear hnz hgz;go_wp2_with (at_mapUpdate;refine dF _ rfl _ _ _ 93 rfl 43 3 4 arrP Tryz.underlying3 progN Tryz.underlying93 _ _ _ rfl hstz.memo (hstz.lt HEE.out) _ _ rfl wfs wft (by rw [HVV.out];rfl) ?_;intro w9 hm9 hg9;have HM9:=aF hm9;have HG9:=aF hg9;clear hm9 hg9);clear hstz;go_ret;refine ⟨?_,SubE.fin HEE.out HM.out HR.out HB1.out HSZ.out HNZ.out HGZ.out HM9.out HG9.out⟩;rw [HVV.out];rfl))
theorem vF (E:SubE) (b:Bdy) (HE:E.Ok b) (s t:Nat) (hs:s<b.types.length) (ht:t<b.types.length) (W:World) (ks:List (Int × Int)) (h:E.St b W ks) (hmem:((s:Int),(t:Int))∈ks):
 Calls Tryz.prog 208 #[.int .i64 s,.int .i64 t,.pointer (some ⟨E.pk,0,none⟩),.pointer (some ⟨E.pl,0,none⟩),.pointer (some ⟨E.pr,0,none⟩),.pointer (some ⟨E.pf,0,none⟩)] W fun e' W'=>e' = .returned (.bool (subB b s t))/\E.Q b W ks s t W':=by
 have hn:=HE.ok.ntyp;have hlen:=h.lt HE;have wfs:(Lit.int .i64 (s:Int)).wf=true:=WalkArith.wf_i64 (by omega);have wft:(Lit.int .i64 (t:Int)).wf=true:=WalkArith.wf_i64 (by omega);have x1:=h.k;have x2:=h.l;have x3:=h.r;have x4:=h.f;have hmemo:=h.memo;have HST:=aF h;have HEE:=aF HE;have hle:=HE.ty.le;have hbig:=HE.ty.big;have HMD:Hid (decide (((s:Int),(t:Int))∈ks)=true):=aF (by simp [hmem]);have HM:=aF hmem;clear h HE hmem;go_enter Tryz.func208,Tryz.ntmps208
 go_wp2_with (at_lookup;refine fI _ rfl _ _ 93 rfl 43 3 4 arrP Tryz.underlying3 progN Tryz.underlying93 (gC _) _ _ _ rfl hmemo _ _ rfl wfs wft ?_;rw [bA HM.out,HMD.out])
 go_ret;exact ⟨rfl,ks,HST.out,fun p hp=>Or.inl hp,eR (aX _ _) _⟩
theorem rA (E:SubE) (b:Bdy) (HE:E.Ok b):∀m:Nat,E.Rec b m
 | 0=>fun _ _ h=>absurd h (by omega)
 | m+1=>fun s t hm hs ht W ks h=>by
   have HR:=rA E b HE m;by_cases hmem:((s:Int),(t:Int))∈ks
   ·exact vF E b HE s t hs ht W ks h hmem
   obtain ⟨p,hp⟩:∃p,((b.types[s].kind == b.types[t].kind) && (b.types[s].mu == b.types[t].mu) && ((b.types[s].flds.length:Int) == (b.types[t].flds.length:Int)))=p:=⟨_,rfl⟩;obtain ⟨q,hq⟩:∃q,(b.types[s].kind == 3)=q:=⟨_,rfl⟩;cases p
   ·exact yT E b HE m HR s t hm hs ht W ks h hmem hp
   ·cases q
    ·exact xCK E b HE m HR s t hm hs ht W ks h hmem (by rw [hp,hq];rfl)
    ·exact xCL E b HE m HR s t hm hs ht W ks h hmem (by rw [hp,hq];rfl)
end
section
open Go Go.RowKit
theorem uJ (m k:Nat) (x y:Int) (n:Nat) (A B:Option Addr) (c d:Nat) (w:World) (h1:w.cell? ⟨n,1,none⟩=some (.slice A m c)) (h2:w.cell? ⟨n,2,none⟩=some (.slice B k d)):
 Calls Tryz.prog 152 #[.int .i64 x,.int .i64 y,.pointer (some ⟨n,0,none⟩)] w fun e' w'=>e' = .returned (.bool (decide ((m:Int)=x) && decide ((k:Int)=y)))/\w'=w:=by
 go_enter Tryz.func152,Tryz.ntmps152
 go_wp2_with fail
 all_goals
  go_ret;refine ⟨?_,rfl⟩;refine congrArg (fun b=>Ending.returned (Value.bool b)) ?_;clear h1 h2;grind
theorem eG (s:ByteArray):s.toList.isEmpty=decide (s.size=0):=by
 rw [bQ,Lib.toList_data,List.isEmpty_iff,<- List.length_eq_zero_iff,decide_eq_true_eq];show s.data.toList.length=0↔s.data.size=0;rw [Array.length_toList]
theorem fQ (t:Trm) (A B C:Option Addr) (c d f:Nat) (w:World):
 Calls Tryz.prog 114 #[.agg (tmC t A c B d C f).toArray] w fun e' w'=>e' = .returned (.bool (fieldsT t))/\Below w.heap.size w w':=by
 have HZ:=aF (fun W=>eW t.place C f W);obtain ⟨k,tg,args,pl,nm⟩:=t;simp only at HZ;unfold tmC;simp only;obtain ⟨m,hm⟩:∃m,tg.length=m:=⟨_,rfl⟩;obtain ⟨j,hj⟩:∃j,args.length=j:=⟨_,rfl⟩;have HQ:=aF (show fieldsT ⟨k,tg,args,pl,nm⟩=_ by unfold fieldsT;simp only;rw [hm,hj]);rw [hm,hj];generalize fieldsT ⟨k,tg,args,pl,nm⟩=q at HQ ⊢;generalize zeroP pl=z at HZ HQ;clear hm hj;have hmf:∀(fn:Fn) (first cap:Array Value) (w:World),(Instr.makeFunc fn first cap).run Tryz.prog w = .ok (.func fn first cap) w:=fun _ _ _ _=>rfl
 go_enter Tryz.func114,Tryz.ntmps114
 go_wp2_with (first | (go_at_call 111;refine (HZ.out _).mono ?_;rintro e' w1 ⟨rfl,hb1⟩;have y:=cP (cQ w _ _) hb1;obtain ⟨y0,y1,y2,y3,y4,y5⟩:=aR y;clear y) | (go_at_call 152;refine (uJ m j _ _ _ A B c d _ (cQ w _ _ 1 _ rfl) (cQ w _ _ 2 _ rfl)).mono ?_;rintro e' _ ⟨rfl,rfl⟩))
 all_goals
  go_ret;refine ⟨?_,by first | exact ((aX _ _).alloc (aY _) _).trans (hb1.mono (by simp)) | exact aH⟩;have HF:=HQ.out;try clear y0 y1 y2 y3 y4 y5
  try clear hb1
  clear HQ HZ hmf;rw [HF];first | refine congrArg (fun b=>Ending.returned (Value.bool b)) ?_ | (refine congrArg Ending.returned ?_)
  have hn:=eG nm;try rw [hn]
  clear hn;generalize decide (nm.size=0)=u;by_cases g1:m=1 <;> by_cases g2:m=2 <;> by_cases g3:j=1 <;> grind
theorem nB (W:World) (x y:Int) (T:TypeId) (k:Nat) (hk:k=W.heap.size):Slc 1 RInt (W.alloc (.cells #[.int .i64 x,.int .i64 y] T)) (some ⟨k,0,none⟩) 2 [x,y]:=by
 subst hk;refine ⟨fun _=>⟨_,_,rfl,by simp,fun i q hi=>?_⟩,by simp,by omega⟩;show (W.alloc _).cell? ⟨W.heap.size,0+i * 1,none⟩=_;rw [World.cell?_alloc_at _ _ _ _ (by simp),Nat.zero_add,Nat.mul_one];match i,hi with
 | 0,hi=>simp at hi;subst hi;rfl
 | 1,hi=>simp at hi;subst hi;rfl
 | i+2,hi=>simp at hi
theorem cU {w w1:World} {l1 l2:List Value} {t1 t2:TypeId} (hb:Below ((w.alloc (.cells l1.toArray t1)).alloc (.cells l2.toArray t2)).heap.size ((w.alloc (.cells l1.toArray t1)).alloc (.cells l2.toArray t2)) w1):
 (∀i v,l1[i]?=some v->w1.cell? ⟨w.heap.size,i,none⟩=some v)/\(∀i v,l2[i]?=some v->w1.cell? ⟨w.heap.size+1,i,none⟩=some v):=by
 refine ⟨fun i v hi=>cO hb ?_,fun i v hi=>cO hb ?_⟩
 ·exact cO ((aX _ _).alloc (aY _) _) (cQ w l1 t1 i v hi)
 ·have:=cQ (w.alloc (.cells l1.toArray t1)) l2 t2 i v hi;rwa [bI] at this
theorem gE (b:Bdy) (bh:BH) (r:Nat) (p:Plc) (A:Option Addr) (c:Nat) (w:World) (H:BdAt w b bh) (hp:Slc 2 RPj w A c p.proj) (hok:Okay b.types b.locals):
 Calls Tryz.prog 112 #[.agg (ckC b bh r).toArray,.agg #[.int .i64 p.loc,.slice A p.proj.length c]] w fun e' w'=>e' = .returned (.tuple #[.int .i64 (tyB b p).1,.int .i64 (writE b p)])/\Below w.heap.size w w':=by
 have HT:=aF (fun W (hb:Below w.heap.size w W)=>eO b bh r p A c W (H.keep hb) (hp.keep RPj.keeps hb) hok);have HM:=aF (fun W (hb:Below w.heap.size w W)=>kF b.types b.locals p.loc p.proj bh.A3 bh.A4 A bh.c3 bh.c4 c W (H.keep hb).typ (H.keep hb).loc (hp.keep RPj.keeps hb) hok);change Hid (∀W,Below w.heap.size w W->Calls Tryz.prog 148 _ W fun e' w'=>e' = .returned (.bool (mutB b p))/\Below W.heap.size W w') at HM;have HQ:Hid (writE b p=if (tyB b p).2≠0 then (tyB b p).2 else fail22 (!mutB b p)):=aF rfl;generalize hq:writE b p=q at HQ ⊢;clear hq;generalize tyB b p=t at HT HQ ⊢;generalize mutB b p=mu at HM HQ;obtain ⟨t,e⟩:=t;simp only at HT HQ ⊢;clear H hp hok;unfold ckC at HT ⊢;by_cases he:e=0
 ·subst he;have HF:Hid (firstE [0,fail22 !mu]=q):=aF (by rw [HQ.out];cases mu <;> rfl);clear HQ;go_enter Tryz.func112,Tryz.ntmps112
  go_wp2_with (first
   | (go_at_call 119;refine (HT.out _ (bel2 _ _ _)).mono ?_;rintro e' w1 ⟨rfl,hb1⟩;have HB:=aF ((bel2 _ _ _).trans (hb1.mono (bel2 _ _ _).size));obtain ⟨y,z⟩:=cU hb1;obtain ⟨-,-,-,y3,y4⟩:=aQ y;obtain ⟨z0,z1⟩:=aN z;clear y z hb1)
   | (go_at_call 148;refine (HM.out _ HB.out).mono ?_;rintro e' w2 ⟨rfl,hb2⟩;have HB2:=aF (HB.out.trans (hb2.mono HB.out.size));clear hb2)
   | (go_at_call 116;refine (eC _ _).mono ?_;rintro e' w3 ⟨rfl,hw⟩;obtain rfl:=hw.symm)
   | (go_at_call 107;refine (fP [0,fail22 !mu] _ 2 _ (nB _ _ _ _ _ rfl)).mono ?_;rintro e' w4 ⟨rfl,hw⟩;obtain rfl:=hw.symm))
  go_ret2
  exact ⟨by rw [<- HF.out];rfl,HB2.out.alloc HB2.out.size _⟩
 ·have HF:Hid (firstE [e,fail22 false]=q):=aF (by rw [HQ.out,bA he];show (if e=0 then _ else e)=e;rw [aZ he]);have e1:(e == 0)=false:=by simp [he]
  clear HQ he HM;go_enter Tryz.func112,Tryz.ntmps112
  go_wp2_with (first
   | (go_at_call 119;refine (HT.out _ (bel2 _ _ _)).mono ?_;rintro e' w1 ⟨rfl,hb1⟩;have HB:=aF ((bel2 _ _ _).trans (hb1.mono (bel2 _ _ _).size));obtain ⟨y,z⟩:=cU hb1;obtain ⟨-,-,-,y3,y4⟩:=aQ y;obtain ⟨z0,z1⟩:=aN z;clear y z hb1)
   | (go_at_call 116;refine (eC _ _).mono ?_;rintro e' w3 ⟨rfl,hw⟩;obtain rfl:=hw.symm)
   | (go_at_call 107;refine (fP [e,fail22 false] _ 2 _ (nB _ _ _ _ _ rfl)).mono ?_;rintro e' w4 ⟨rfl,hw⟩;obtain rfl:=hw.symm))
  go_ret2
  exact ⟨by rw [<- HF.out];rfl,HB.out.alloc HB.out.size _⟩
theorem lR (b:Bdy) (bh:BH) (r:Nat) (o:Opd) (A:Option Addr) (c:Nat) (w:World) (H:BdAt w b bh) (hp:Slc 2 RPj w A c o.place.proj) (hok:Okay b.types b.locals)
 (hty:o.kind≠2->o.kind≠3->o.kind≠4->(tyB b o.place).2=0):
 Calls Tryz.prog 117 #[.agg (ckC b bh r).toArray,.agg (opC o A c).toArray] w fun e' w'=>e' = .returned (.int .i64 (kindO b o))/\Below w.heap.size w w':=by
 have HT:=aF (fun W (hb:Below w.heap.size w W)=>eO b bh r o.place A c W (H.keep hb) (hp.keep RPj.keeps hb) hok);have HQ:Hid (kindO b o=if o.kind=2 then 2 else if o.kind=3 then 1 else if o.kind=4 then 0 else kindT b (tyB b o.place).1):=aF rfl;generalize kindO b o=q at HQ ⊢;have HS:=aF H.typ;have hin:=fW hok (l:=o.place.loc) (ps:=o.place.proj);change (tyB b o.place).2=0->0<=(tyB b o.place).1/\(tyB b o.place).1<b.types.length at hin;generalize tyB b o.place=t at HT HQ hty hin;obtain ⟨t,e⟩:=t;simp only at HQ hty hin;clear H hp hok;unfold ckC at HT ⊢;unfold opC;obtain ⟨A3,h3⟩:∃x,bh.A3=x:=⟨_,rfl⟩;rw [h3] at HS HT ⊢;clear h3;by_cases h2:o.kind=2
 ·have HF:Hid (q=2):=aF (by rw [HQ.out,bA h2]);rw [h2];clear HQ HT HS hty hin;go_enter Tryz.func117,Tryz.ntmps117
  go_wp2_with fail
  go_ret;exact ⟨by rw [HF.out];rfl,aH⟩
 by_cases h3:o.kind=3
 ·have HF:Hid (q=1):=aF (by rw [HQ.out,aZ h2,bA h3]);rw [h3];clear HQ HT HS hty hin;go_enter Tryz.func117,Tryz.ntmps117
  go_wp2_with fail
  go_ret;exact ⟨by rw [HF.out];rfl,aH⟩
 by_cases h4:o.kind=4
 ·have HF:Hid (q=0):=aF (by rw [HQ.out,aZ h2,aZ h3,bA h4]);rw [h4];clear HQ HT HS hty hin;go_enter Tryz.func117,Tryz.ntmps117
  go_wp2_with fail
  go_ret;exact ⟨by rw [HF.out];rfl,aH⟩
 obtain rfl:=hty h2 h3 h4;obtain ⟨g1,g2⟩:=hin rfl;obtain ⟨k,rfl⟩:=bG g1;have hlt:k<b.types.length:=by omega
 obtain ⟨bb,oo,rfl,hbb,hx⟩:=HS.out.sl.at_ hlt;have HF:Hid (q=b.types[k].kind):=aF (by rw [HQ.out,aZ h2,aZ h3,aZ h4,kindT];simp [hlt]);generalize b.types[k]=ty at hx HF;obtain ⟨r1,-⟩:=hx;have e2:(o.kind == 2)=false:=by simp [h2]
 have e3:(o.kind == 3)=false:=by simp [h3]
 have e4:(o.kind == 4)=false:=by simp [h4]
 clear HQ HS hty hin h2 h3 h4 g1;go_enter Tryz.func117,Tryz.ntmps117
 go_wp2_with (go_at_call 119;refine (HT.out _ (bel2 _ _ _)).mono ?_;rintro e' w1 ⟨rfl,hb1⟩;have HB:=aF ((bel2 _ _ _).trans (hb1.mono (bel2 _ _ _).size));obtain ⟨y,-⟩:=cU hb1;have y3:=y 3 _ rfl;have x1:=cO HB.out r1;clear y hb1)
 go_ret;exact ⟨by rw [HF.out];rfl,HB.out⟩
theorem qC (b:Bdy) (bh:BH) (r:Nat) (o:Opd) (A:Option Addr) (c:Nat) (w:World) (H:BdAt w b bh) (hp:Slc 2 RPj w A c o.place.proj) (hok:Okay b.types b.locals)
 (hcop:∀W,Below w.heap.size w W->∀i:Int,0<=i->i<b.types.length->Calls Tryz.prog 153 #[.slice bh.A3 b.types.length bh.c3,.int .i64 i] W fun e' w'=>e' = .returned (.bool (copB b.types i))/\Below W.heap.size W w'):
 Calls Tryz.prog 115 #[.agg (ckC b bh r).toArray,.agg (opC o A c).toArray] w fun e' w'=>e' = .returned (.int .i64 (opE b o))/\Below w.heap.size w w':=by
 have HT:=aF (fun W (hb:Below w.heap.size w W)=>eO b bh r o.place A c W (H.keep hb) (hp.keep RPj.keeps hb) hok);have HZ:=aF (fun W=>eW o.place A c W);have HD:=aF (fun W (hb:Below w.heap.size w W)=>rY o.place 0 A c W (hp.keep RPj.keeps hb));have HQ:Hid (opE b o=if o.kind<0\/4<o.kind then 14 else if (o.kind≠2/\o.kind≠3/\o.n≠0)\/(1<o.kind/\zeroP o.place=false) then 2 else if o.kind=3/\o.n≠0/\o.n≠1 then 3 else if 1<o.kind then 0 else if (tyB b o.place).2≠0 then (tyB b o.place).2 else if o.kind=0 then fail22 (!copB b.types (tyB b o.place).1) else fail22 (hasD o.place.proj 0)):=aF rfl;have hin:=fW hok (l:=o.place.loc) (ps:=o.place.proj);change (tyB b o.place).2=0->0<=(tyB b o.place).1/\(tyB b o.place).1<b.types.length at hin;have HIN:=aF (fun W (hb:Below w.heap.size w W) (h:(tyB b o.place).2=0)=>hcop W hb (tyB b o.place).1 (hin h).1 (hin h).2);clear hcop hin;generalize opE b o=q at HQ ⊢;generalize zeroP o.place=z at HZ HQ;generalize hasD o.place.proj 0=hd at HD HQ;generalize tyB b o.place=t at HT HQ HIN;obtain ⟨t,e⟩:=t;simp only at HQ HIN;generalize copB b.types t=cp at HIN HQ;obtain ⟨k,pl,n⟩:=o;simp only at HQ HT HZ HD;clear H hp hok;unfold ckC at HT ⊢;unfold opC;simp only;by_cases h01:k=0\/k=1
 ·by_cases hn:n=0
  ·subst hn;by_cases he:e=0
   ·subst he;rcases h01 with rfl | rfl
    ·have HF:Hid (q=fail22 (!cp)):=aF (by rw [HQ.out];simp);have HC:=aF (fun W hb=>HIN.out W hb rfl);clear HQ HZ HD HIN;go_enter Tryz.func115,Tryz.ntmps115
     go_wp2_with (first
      | (go_at_call 119;refine (HT.out _ (bel2 _ _ _)).mono ?_;rintro e' w1 ⟨rfl,hb1⟩;have HB:=aF ((bel2 _ _ _).trans (hb1.mono (bel2 _ _ _).size));obtain ⟨z,y⟩:=cU hb1;have z3:=z 3 _ rfl;obtain ⟨y0,y1,y2,y3⟩:=aP y;clear y z hb1)
      | (go_at_call 153;refine (HC.out _ HB.out).mono ?_;rintro e' w2 ⟨rfl,hb2⟩;have HB2:=aF (HB.out.trans (hb2.mono HB.out.size));clear hb2)
      | (go_at_call 116;refine (eC _ _).mono ?_;rintro e' w3 ⟨rfl,hw⟩;obtain rfl:=hw.symm))
     go_ret;exact ⟨by rw [HF.out];rfl,HB2.out⟩
    ·have HF:Hid (q=fail22 hd):=aF (by rw [HQ.out];simp);clear HQ HZ HIN;go_enter Tryz.func115,Tryz.ntmps115
     go_wp2_with (first
      | (go_at_call 119;refine (HT.out _ (bel2 _ _ _)).mono ?_;rintro e' w1 ⟨rfl,hb1⟩;have HB:=aF ((bel2 _ _ _).trans (hb1.mono (bel2 _ _ _).size));obtain ⟨z,y⟩:=cU hb1;have z3:=z 3 _ rfl;obtain ⟨y0,y1,y2,y3⟩:=aP y;clear y z hb1)
      | (go_at_call 120;refine (HD.out _ HB.out).mono ?_;rintro e' w2 ⟨rfl,hb2⟩;have HB2:=aF (HB.out.trans (hb2.mono HB.out.size));clear hb2)
      | (go_at_call 116;refine (eC _ _).mono ?_;rintro e' w3 ⟨rfl,hw⟩;obtain rfl:=hw.symm))
     go_ret;exact ⟨by rw [HF.out];rfl,HB2.out⟩
   ·have HF:Hid (q=e):=aF (by rw [HQ.out];rcases h01 with rfl | rfl <;> simp [he]);have e5:(e != 0)=true:=by simp [he]
    clear HQ HZ HIN HD;rcases h01 with rfl | rfl
    all_goals
     go_enter Tryz.func115,Tryz.ntmps115
     go_wp2_with (go_at_call 119;refine (HT.out _ (bel2 _ _ _)).mono ?_;rintro e' w1 ⟨rfl,hb1⟩;have HB:=aF ((bel2 _ _ _).trans (hb1.mono (bel2 _ _ _).size));obtain ⟨z,y⟩:=cU hb1;have z3:=z 3 _ rfl;obtain ⟨y0,y1,y2,y3⟩:=aP y;clear y z hb1)
     go_ret;exact ⟨by rw [HF.out];rfl,HB.out⟩
  ·have HF:Hid (q=2):=aF (by rw [HQ.out];rcases h01 with rfl | rfl <;> simp [hn]);have e5:(n != 0)=true:=by simp [hn]
   clear HQ HZ HIN HD HT;rcases h01 with rfl | rfl
   all_goals
    go_enter Tryz.func115,Tryz.ntmps115
    go_wp2_with fail
    go_ret;exact ⟨by rw [HF.out];rfl,aH⟩
 ·have HK:Hid (¬(k=0\/k=1)):=aF h01;have e0:(k == 0)=false:=by simp;omega
  have e1:(k == 1)=false:=by simp;omega
  clear h01 HT HD HIN;go_enter Tryz.func115,Tryz.ntmps115
  go_wp2_with (go_at_call 111;refine (HZ.out _).mono ?_;rintro e' w1 ⟨rfl,hb1⟩;have HB:=aF ((bel2 _ _ _).trans (hb1.mono (bel2 _ _ _).size));obtain ⟨-,y⟩:=cU hb1;obtain ⟨y0,y1,y2,y3⟩:=aP y;clear y hb1)
  all_goals
   go_ret;refine ⟨?_,by first | exact HB.out | exact aH⟩;have HF:=HQ.out;have hk:=HK.out;try clear y0 y1 y2 y3
   clear HQ HZ HK;rw [HF];refine congrArg (fun i=>Ending.returned (Value.int .i64 i)) ?_;clear HF;have b2:(k == 2)=decide (k=2):=by rw [bQ];simp
   have b3:(k == 3)=decide (k=3):=by rw [bQ];simp
   have b4:(k != 4)=decide (k≠4):=by rw [bQ];simp
   have b5:(n != 0)=decide (n≠0):=by rw [bQ];simp
   have b6:(n != 1)=decide (n≠1):=by rw [bQ];simp
   simp only [b2,b3,b4,b5,b6] at *;clear b2 b3 b4 b5 b6;grind
theorem xAT (b:Bdy) (bh:BH) (r:Nat) (o:Opd) (f:Nat) (A:Option Addr) (c:Nat) (w:World) (H:BdAt w b bh) (hp:Slc 2 RPj w A c o.place.proj) (hok:Okay b.types b.locals)
 (hty:o.kind≠2->o.kind≠3->o.kind≠4->(tyB b o.place).2=0) (hf:f<b.types.length)
 (hsub:∀W,Below w.heap.size w W->∀i:Int,0<=i->i<b.types.length->Calls Tryz.prog 195 #[.pointer (some ⟨r,0,none⟩),.slice bh.A3 b.types.length bh.c3,.int .i64 i,.int .i64 f] W fun e' w'=>e' = .returned (.bool (subB b i f))/\Below W.heap.size W w'):
 Calls Tryz.prog 154 #[.agg (ckC b bh r).toArray,.agg (opC o A c).toArray,.int .i64 f] w fun e' w'=>e' = .returned (.bool (fitsO b o f))/\Below w.heap.size w w':=by
 have HT:=aF (fun W (hb:Below w.heap.size w W)=>eO b bh r o.place A c W (H.keep hb) (hp.keep RPj.keeps hb) hok);have HK:=aF (fun W (hb:Below w.heap.size w W)=>lR b bh r o A c W (H.keep hb) (hp.keep RPj.keeps hb) hok hty);have HQ:Hid (fitsO b o f=if o.kind≠0/\o.kind≠1 then decide (kindO b o=kindT b f) else subB b (tyB b o.place).1 f):=aF rfl;have HS:=aF H.typ;have hin:=fW hok (l:=o.place.loc) (ps:=o.place.proj);change (tyB b o.place).2=0->0<=(tyB b o.place).1/\(tyB b o.place).1<b.types.length at hin;have HIN:=aF (fun W (hb:Below w.heap.size w W) (h:(tyB b o.place).2=0)=>hsub W hb (tyB b o.place).1 (hin h).1 (hin h).2);clear hsub hin;generalize fitsO b o f=q at HQ ⊢;generalize tyB b o.place=t at HT HQ HIN hty;generalize kindO b o=ko at HK HQ;obtain ⟨t,e⟩:=t;simp only at HQ HIN hty;clear H hp hok;unfold ckC at HT HK ⊢;unfold opC at HK ⊢;by_cases h01:o.kind=0\/o.kind=1
 ·obtain rfl:e=0:=hty (by omega) (by omega) (by omega);have HF:Hid (q=subB b t f):=aF (by rw [HQ.out,aZ (by omega)]);have HC:=aF (fun W hb=>HIN.out W hb rfl);clear HQ HIN HK HS hty;generalize subB b t f=sb at HF HC;obtain ⟨k,hk⟩:∃k,o.kind=k:=⟨_,rfl⟩;rw [hk] at h01 ⊢;clear hk;rcases h01 with rfl | rfl
  all_goals
   go_enter Tryz.func154,Tryz.ntmps154
   go_wp2_with (first
    | (go_at_call 119;refine (HT.out _ (bel2 _ _ _)).mono ?_;rintro e' w1 ⟨rfl,hb1⟩;have HB:=aF ((bel2 _ _ _).trans (hb1.mono (bel2 _ _ _).size));obtain ⟨y,-⟩:=cU hb1;obtain ⟨-,-,-,y3,-,-,-,y7⟩:=aT y;clear y hb1)
    | (go_at_call 195;refine (HC.out _ HB.out).mono ?_;rintro e' w2 ⟨rfl,hb2⟩;have HB2:=aF (HB.out.trans (hb2.mono HB.out.size));clear hb2))
   go_ret;exact ⟨by rw [HF.out];rfl,HB2.out⟩
 ·have HF:Hid (q=decide (ko=kindT b f)):=aF (by rw [HQ.out,bA ⟨fun h=>h01 (Or.inl h),fun h=>h01 (Or.inr h)⟩]);have e0:(o.kind != 0)=true:=by simp;omega
  have e1:(o.kind != 1)=true:=by simp;omega
  clear HQ HIN HT hty h01;obtain ⟨A3,h3⟩:∃x,bh.A3=x:=⟨_,rfl⟩;rw [h3] at HS HK ⊢;clear h3;obtain ⟨bb,oo,rfl,hbb,hx⟩:=HS.out.sl.at_ hf;have HF2:Hid (q=decide (ko=b.types[f].kind)):=aF (by rw [HF.out,kindT];simp [hf]);generalize b.types[f]=ty at hx HF2;obtain ⟨r1,-⟩:=hx;clear HS HF;have HB1:=aF (fun (W:World) (h:Below w.heap.size w W)=>h.drew);go_enter Tryz.func154,Tryz.ntmps154
  go_wp2_with fail
  have HB2:=aF (HB1.out _ (bel2 w (.cells #[.string b.name,.slice bh.A1 b.regions.length bh.c1,.slice bh.A2 b.outl.length bh.c2,.slice (some ⟨bb,oo,none⟩) b.types.length bh.c3,.slice bh.A4 b.locals.length bh.c4,.int .i64 b.args,.slice bh.A5 b.blocks.length bh.c5,.pointer (some ⟨r,0,none⟩)] 118) (.cells #[.int .i64 o.kind,.int .i64 o.place.loc,.slice A o.place.proj.length c,.int .i64 o.n] 69)));obtain ⟨y,z⟩:=cU (w:=w) (l1:=[.string b.name,.slice bh.A1 b.regions.length bh.c1,.slice bh.A2 b.outl.length bh.c2,.slice (some ⟨bb,oo,none⟩) b.types.length bh.c3,.slice bh.A4 b.locals.length bh.c4,.int .i64 b.args,.slice bh.A5 b.blocks.length bh.c5,.pointer (some ⟨r,0,none⟩)]) (l2:=[.int .i64 o.kind,.int .i64 o.place.loc,.slice A o.place.proj.length c,.int .i64 o.n]) (t1:=118) (t2:=69) ((aX _ _).drew);have hS:=bJ y (bJ z (cO HB2.out r1));clear y z;refine cT (S:=fun X=>(aA [.string b.name,.slice bh.A1 b.regions.length bh.c1,.slice bh.A2 b.outl.length bh.c2,.slice (some ⟨bb,oo,none⟩) b.types.length bh.c3,.slice bh.A4 b.locals.length bh.c4,.int .i64 b.args,.slice bh.A5 b.blocks.length bh.c5,.pointer (some ⟨r,0,none⟩)] X w.heap.size)/\(aA [.int .i64 o.kind,.int .i64 o.place.loc,.slice A o.place.proj.length c,.int .i64 o.n] X (w.heap.size+1))/\X.cell? ⟨bb,oo+f * 5,none⟩=some (.int .i64 ty.kind)) [0,1,3,4,5,6,7,8,9,2,10,11] (by kernel_rfl) ?_;(iterate 9 (refine cR (v:=?_) ?_ hS ?_;rotate_left;(next=>(rintro X ⟨hX,hY,hZ⟩;obtain ⟨s0,s1,s2,s3,s4,s5,s6,s7⟩:=aT hX;obtain ⟨u0,u1,u2,u3⟩:=aP hY;(try simp only [aI]);go_simp;rfl));simp only [aM]));(refine cY (fun K1 hK1=>?_);simp only [aM];rw [bA (by rfl)];go_simp);refine (HK.out _ HB2.out).mono ?_;rintro e' w2 ⟨rfl,hb⟩;replace hS:=bJ (fun i v hi=>cO hb (hS.1 i v hi)) (bJ (fun i v hi=>cO hb (hS.2.1 i v hi)) (cO hb hS.2.2));have HB3:=aF (HB2.out.trans (hb.mono HB2.out.size));clear hb;refine hK1.out _ _ (fun _=>hS) ?_;(iterate 2 (refine cR (v:=?_) ?_ hS ?_;rotate_left;(next=>(rintro X -;(try simp only [aI]);go_simp;rfl));simp only [aM]));refine cZ ?_;go_wp2_with fail
  go_ret;exact ⟨by rw [HF2.out];rfl,HB3.out⟩
end
section
open Go Go.RowKit Go.Maps Go.WideMaps
theorem xEL (w:World) (b:Bdy) (A:Option Addr) (c r:Nat) (t0 t1 t2 t3:TypeId):
 SubE.St ⟨w,A,c,w.heap.size+3,w.heap.size+1,w.heap.size,w.heap.size+4,w.heap.size+2,r⟩ b (((((w.alloc (.cells #[.pointer (some ⟨r,0,none⟩)] t0)).alloc (.cells #[.slice A b.types.length c] t1)).alloc (.map #[] 0)).alloc (.cells #[.map (some (w.heap.size+2))] t2)).alloc (.cells #[SubE.F ⟨w,A,c,w.heap.size+3,w.heap.size+1,w.heap.size,w.heap.size+4,w.heap.size+2,r⟩] t3)) []:=by
 obtain ⟨F,hF⟩:∃F,SubE.F ⟨w,A,c,w.heap.size+3,w.heap.size+1,w.heap.size,w.heap.size+4,w.heap.size+2,r⟩=F:=⟨_,rfl⟩;rw [hF];have keepA:∀(W W':World) (p:Addr) (v:Value),Below W.heap.size W W'->W.cell? p=some v->W'.cell? p=some v:=fun W W' p v hb h=>cO hb h
 refine ⟨aH,?_,?_,?_,?_,?_,by simp,by simp⟩
 ·have:=cQ (((w.alloc (.cells #[.pointer (some ⟨r,0,none⟩)] t0)).alloc (.cells #[.slice A b.types.length c] t1)).alloc (.map #[] 0)) [.map (some (w.heap.size+2))] t2 0 _ rfl;simp only [bI] at this;exact cO ((aX _ _).alloc (aY _) _) this
 ·have:=cQ (w.alloc (.cells #[.pointer (some ⟨r,0,none⟩)] t0)) [.slice A b.types.length c] t1 0 _ rfl;simp only [bI] at this;exact cO ((((aX _ _).alloc (aY _) _).alloc (by simp) _).alloc (by simp) _) this
 ·have:=cQ w [.pointer (some ⟨r,0,none⟩)] t0 0 _ rfl;exact cO (((((aX _ _).alloc (aY _) _).alloc (by simp) _).alloc (by simp) _).alloc (by simp) _) this
 ·have:=cQ ((((w.alloc (.cells #[.pointer (some ⟨r,0,none⟩)] t0)).alloc (.cells #[.slice A b.types.length c] t1)).alloc (.map #[] 0)).alloc (.cells #[.map (some (w.heap.size+2))] t2)) [F] t3 0 _ rfl;simp only [bI] at this;rw [hF];exact this
 ·have:=Memo.made ((w.alloc (.cells #[.pointer (some ⟨r,0,none⟩)] t0)).alloc (.cells #[.slice A b.types.length c] t1)) Tryz.prog 43 (subB b);simp only [bI] at this;exact (this.alloc _).alloc _
theorem xCM (b:Bdy) (A:Option Addr) (c r:Nat) (s t:Int) (w:World) (hs:Slc 5 RTy w A c b.types) (hok:DeclOk b) (hrel:Rel3 w r b.regions.length (relL b.outl)):
 Calls Tryz.prog 195 #[.pointer (some ⟨r,0,none⟩),.slice A b.types.length c,.int .i64 s,.int .i64 t] w fun e' w'=>e' = .returned (.bool (subB b s t))/\Below w.heap.size w w':=by
 have hle:=hs.le;have hbig:=hs.big;by_cases hr:0<=s/\s<(b.types.length:Int)/\0<=t/\t<(b.types.length:Int)
 case neg=>
  rw [qZ (by omega)];clear hs hrel hok;go_enter Tryz.func195,Tryz.ntmps195
  go_wp2_with fail
  all_goals first
   | (exfalso;omega)
   | (go_ret;exact ⟨rfl,aH⟩)
 case pos=>
 obtain ⟨i,rfl⟩:=bG hr.1;obtain ⟨j,rfl⟩:=bG hr.2.2.1;have hi:i<b.types.length:=by omega
 have hj:j<b.types.length:=by omega
 have HE:SubE.Ok ⟨w,A,c,w.heap.size+3,w.heap.size+1,w.heap.size,w.heap.size+4,w.heap.size+2,r⟩ b:=⟨hs,hok,hrel,by simp,by simp,by simp,by simp,by simp⟩;have HC:=aF (fun W h=>rA _ b HE (i+j+1) i j (by omega) hi hj W [] h);have hmm:= @run_makeMap Tryz.prog;have hst:∀(a:Addr) (fn:Fn) (f c:Array Value) (W:World),(store a (.func fn f c)).run Tryz.prog W=stored Tryz.prog W a (.func fn f c) .plain:=fun a fn f c W=>run_store Tryz.prog W a (.func fn f c) _ rfl
 clear hs HE hok hrel;generalize hq:subB b (i:Int) (j:Int)=q at HC ⊢;go_enter Tryz.func195,Tryz.ntmps195
 go_wp2_with (go_at_call 208;refine (HC.out _ (xEL w b A c r _ _ _ _)).mono ?_;rintro e' w1 ⟨rfl,hq⟩;have HQ:=aF hq;clear hq)
 all_goals first
  | (exfalso;omega)
  | (go_ret
     obtain ⟨ks,h1,-⟩:=HQ.out
     exact ⟨rfl,h1.low⟩)
structure Ck (w:World) (b:Bdy) (bh:BH) (r:Nat):Prop where
 at_:BdAt w b bh
 ok:DeclOk b
 rel:Rel3 w r b.regions.length (relL b.outl)
theorem Ck.keep {w w':World} {b:Bdy} {bh:BH} {r:Nat} (h:Ck w b bh r) (hb:Below w.heap.size w w'):Ck w' b bh r:=⟨h.at_.keep hb,h.ok,h.rel.keep hb⟩
theorem nT {b:Bdy} {bh:BH} {r:Nat} {w:World} (H:Ck w b bh r) (o:Opd) (A:Option Addr) (c:Nat) (hp:Slc 2 RPj w A c o.place.proj):
 Calls Tryz.prog 115 #[.agg (ckC b bh r).toArray,.agg (opC o A c).toArray] w fun e' w'=>e' = .returned (.int .i64 (opE b o))/\Below w.heap.size w w':=
 qC b bh r o A c w H.at_ hp H.ok.okay (fun W hb i _h0 _h1=>xDW b.types H.ok.tyok H.ok.ntyp i bh.A3 bh.c3 W (H.keep hb).at_.typ)
theorem rP {b:Bdy} {o:Opd} (h:opE b o=0):o.kind≠2->o.kind≠3->o.kind≠4->(tyB b o.place).2=0:=by
 intro h2 h3 h4;unfold opE at h;by_cases c1:o.kind<0\/4<o.kind
 ·rw [bA c1] at h;cases h
 rw [aZ c1] at h;by_cases c2:(o.kind≠2/\o.kind≠3/\o.n≠0)\/(1<o.kind/\zeroP o.place=false)
 ·rw [bA c2] at h;cases h
 rw [aZ c2,aZ (by omega),aZ (by omega)] at h;by_cases c3:(tyB b o.place).2≠0
 ·rw [bA c3] at h;exact h
 ·simpa using c3
theorem rQ {b:Bdy} {o:Opd} (h:opE b o=0):0<=o.kind/\o.kind<=4:=by
 unfold opE at h;by_cases c1:o.kind<0\/4<o.kind
 ·rw [bA c1] at h;cases h
 ·omega
theorem rU {b:Bdy} {bh:BH} {r:Nat} {w:World} (H:Ck w b bh r) (o:Opd) (A:Option Addr) (c:Nat) (hp:Slc 2 RPj w A c o.place.proj) (ho:opE b o=0):
 Calls Tryz.prog 117 #[.agg (ckC b bh r).toArray,.agg (opC o A c).toArray] w fun e' w'=>e' = .returned (.int .i64 (kindO b o))/\Below w.heap.size w w':=
 lR b bh r o A c w H.at_ hp H.ok.okay (rP ho)
theorem xFC {b:Bdy} {bh:BH} {r:Nat} {w:World} (H:Ck w b bh r) (o:Opd) (A:Option Addr) (c:Nat) (hp:Slc 2 RPj w A c o.place.proj) (ho:opE b o=0) (f:Int) (h0:0<=f) (hf:f<b.types.length):
 Calls Tryz.prog 154 #[.agg (ckC b bh r).toArray,.agg (opC o A c).toArray,.int .i64 f] w fun e' w'=>e' = .returned (.bool (fitsO b o f))/\Below w.heap.size w w':=by
 obtain ⟨f,rfl⟩:=bG h0;exact xAT b bh r o f A c w H.at_ hp H.ok.okay (rP ho) (by omega) (fun W hb i _ _=>xCM b bh.A3 bh.c3 r i f W (H.keep hb).at_.typ H.ok (H.keep hb).rel)
end
section
open Go Go.RowKit Go.Maps
theorem dJ (b:Bdy) (fs:List Int):opsE b [] fs=0:=by rw [opsE]
theorem eY {b:Bdy} {o:Opd} (h:opE b o≠0) (r:List Opd) (fs:List Int):opsE b (o :: r) fs=opE b o:=by
 cases fs <;> (rw [opsE,aZ h])
theorem fE {b:Bdy} {o:Opd} (h:opE b o=0) (r:List Opd):opsE b (o :: r) []=opsE b r []:=by rw [opsE,bA h]
theorem kB {b:Bdy} {o:Opd} (h:opE b o=0) (r:List Opd) (f:Int) (fs:List Int):opsE b (o :: r) (f :: fs)=if fitsO b o f=true then opsE b r fs else 22:=by rw [opsE,bA h]
theorem keepO {w W:World} {o:Obj} {p:Addr} {v:Value} (hb:Below (w.alloc o).heap.size (w.alloc o) W) (h:w.cell? p=some v):W.cell? p=some v:=
 cO hb (((((aX w.heap.size w).alloc (aY _) o).cell (p:=p) (cD w p h))).trans h)
theorem dN {W w1:World} {n:Nat} {l:List Value} {o:Obj} (h:∀i v,l[i]?=some v->W.cell? ⟨n,i,none⟩=some v) (hb:Below (W.alloc o).heap.size (W.alloc o) w1):∀i v,l[i]?=some v->w1.cell? ⟨n,i,none⟩=some v:=
 fun i v hi=>keepO hb (h i v hi)
theorem fJ {b:Bdy} {bh:BH} {r:Nat} {w:World} (H:Ck w b bh r) (l:List Opd) (fs:List Int) (A C:Option Addr) (d f:Nat) (hl:Slc 4 ROp w A d l) (hf:Slc 1 RInt w C f fs) (hfr:∀x∈fs,0<=x/\x<(b.types.length:Int)):
 Calls Tryz.prog 118 #[.agg (ckC b bh r).toArray,.slice A l.length d,.slice C fs.length f] w fun e' w'=>e' = .returned (.int .i64 (opsE b l fs))/\Below w.heap.size w w':=by
 have hle:=hl.le;have hbig:=hl.big;have hle2:=hf.le;have hbig2:=hf.big;have HO:=aF (fun (W:World) (hb:Below w.heap.size w W) (o:Opd) (A:Option Addr) (c:Nat) (hp:Slc 2 RPj w A c o.place.proj)=>nT (H.keep hb) o A c (hp.keep RPj.keeps hb));have HFT:=aF (fun (W:World) (hb:Below w.heap.size w W) (o:Opd) (A:Option Addr) (c:Nat) (hp:Slc 2 RPj w A c o.place.proj) (ho:opE b o=0) (f:Int) (h0:0<=f) (hf:f<b.types.length)=>xFC (H.keep hb) o A c (hp.keep RPj.keeps hb) ho f h0 hf);have HL:=aF hl;have HFS:=aF hf;obtain ⟨R,hR⟩:∃R,opsE b l fs=R:=⟨_,rfl⟩;rw [hR];have HR:=aF hR;have HX0:=aF (cQ w (ckC b bh r) 118);clear hR hl hf H;unfold ckC at HO HFT HX0 ⊢;go_enter Tryz.func118,Tryz.ntmps118
 go_wp2_with fail
 go_loopw [12] (fun v wr=>∃k:Nat,k<=l.length/\v = .int .i64 k/\Hid (aA (bdH b bh [.pointer (some ⟨r,0,none⟩)]) wr w.heap.size)/\Hid (Below w.heap.size w wr)/\w.heap.size+1<=wr.heap.size/\Hid (R=opsE b (l.drop k) (fs.drop k))) (fun v _=>l.length - (intOf v).toNat)
 case atStart=>exact ⟨0,by omega,rfl,HX0,aF ((aX _ _).alloc (aY _) _),by simp,aF HR.out.symm⟩
 case round=>
  clear HX0;obtain ⟨k,hk,rfl,HX,HB,hsz,hr⟩:=hrel;have hlw:w.heap.size<wr.heap.size:=hsz;obtain ⟨x0,x1,x2,x3,x4,x5,x6,x7⟩:=aT HX.out;by_cases hlt:k<l.length
  ·have hd:=cV hlt;obtain ⟨bb,oo,rfl,hbb,hx⟩:=HL.out.sl.at_ hlt;obtain ⟨o,hxx⟩:∃o,l[k]=o:=⟨_,rfl⟩;rw [hxx] at hd hx;obtain ⟨p0,⟨p1,A2,c2,p2,hc1,hc2,hsl⟩,p3⟩:=hx;have HPJ:Hid (Slc 2 RPj w A2 c2 o.place.proj):=aF ⟨hsl,hc1,hc2⟩;replace p0:=cO HB.out p0;replace p1:=cO HB.out p1;replace p2:=cO HB.out p2;replace p3:=cO HB.out p3;rw [Nat.add_assoc (oo+k * 4) 1 1] at p2;have HOK:=aF (fun W hb=>HO.out W hb o A2 c2 HPJ.out);have HQ:Hid (R=opsE b (o :: l.drop (k+1)) (fs.drop k)):=aF (by rw [hr.out,hd]);clear hd hxx hsl hc1 hc2 hr;unfold opC at HOK;by_cases he:opE b o=0
   ·have HE:=aF he;rw [he] at HOK;have HBA:=aF (HB.out.alloc (by omega) (.cells (opC o A2 c2).toArray 69));by_cases hkf:k<fs.length
    ·obtain ⟨b3,o3,rfl,hb3,hy⟩:=HFS.out.sl.at_ hkf;have hyr:=hfr fs[k] (bM hkf);obtain ⟨y,hyy⟩:∃y,fs[k]=y:=⟨_,rfl⟩;have hd2:=cV hkf;rw [hyy] at hy hyr hd2;have y0:w.cell? ⟨b3,o3+k,none⟩=some (.int .i64 y):=(by simpa [RInt] using hy);have HY0:=aF y0;have HQ2:Hid (R=if fitsO b o y=true then opsE b (l.drop (k+1)) (fs.drop (k+1)) else 22):=aF (by rw [HQ.out,hd2,kB he]);have HFK:=aF (fun W hb=>HFT.out W hb o A2 c2 HPJ.out he y hyr.1 hyr.2);unfold opC at HFK;have ek:decide ((k:Int)<(fs.length:Int))=true:=by simp;omega
     have EK:=aF ek;clear hy hyy hyr hd2 he HQ y0 ek;generalize fitsO b o y=q at HFK HQ2;go_wp2_with (go_at_call 115;refine (HOK.out _ HBA.out).mono ?_;rintro e' w1 ⟨rfl,hb1⟩;have HB1:=aF hb1;have HW1:=aF (HBA.out.trans (hb1.mono HBA.out.size));clear hb1)
     have hS:=bJ (dN HX.out HB1.out) (bJ (cP (cQ wr (opC o A2 c2) 69) HB1.out) (cO HW1.out HY0.out));replace hS:(aA (bdH b bh [.pointer (some ⟨r,0,none⟩)]) w1.drew w.heap.size)/\(aA (opC o A2 c2) w1.drew wr.heap.size)/\w1.drew.cell? ⟨b3,o3+k,none⟩=some (.int .i64 y):=hS;clear x0 x1 x2 x3 x4 x5 x6 x7 p0 p1 p2 p3;refine cT (S:=fun X=>(aA (bdH b bh [.pointer (some ⟨r,0,none⟩)]) X w.heap.size)/\(aA (opC o A2 c2) X wr.heap.size)/\X.cell? ⟨b3,o3+k,none⟩=some (.int .i64 y)) [0,1,2,3,4,5,6,7,8,9,10,11,12,13] (by kernel_rfl) ?_;(iterate 4 (refine cR (v:=?_) ?_ hS ?_;rotate_left;(next=>(rintro X -;(try simp only [aI]);go_simp;rfl));simp only [aM]));try rw [EK.out]
     (iterate 7 (refine cR (v:=?_) ?_ hS ?_;rotate_left;(next=>(rintro X ⟨hX,hY,s8⟩;obtain ⟨s0,s1,s2,s3,s4,s5,s6,s7⟩:=aT hX;obtain ⟨u0,u1,u2,u3⟩:=aP hY;(try simp only [aI]);go_simp;rfl));simp only [aM]));(refine cY (fun K1 hK1=>?_);simp only [aM];rw [bA (by rfl)];go_simp);refine (HFK.out _ HW1.out.drew).mono ?_;rintro e' w2 ⟨rfl,hb⟩;replace hS:=bJ (fun i v hi=>cO hb (hS.1 i v hi)) (bJ (fun i v hi=>cO hb (hS.2.1 i v hi)) (cO hb hS.2.2));have HW2:=aF (HW1.out.drew.trans (hb.mono HW1.out.size));have hsz2:=HW1.out.size;have hsz3:=hb.size;have hsz4:=HB1.out.size;simp only [bI] at hsz4;clear hb;refine hK1.out _ _ (fun _=>hS) ?_;(iterate 2 (refine cR (v:=?_) ?_ hS ?_;rotate_left;(next=>(rintro X -;(try simp only [aI]);go_simp;rfl));simp only [aM]));refine cZ ?_;cases q
     ·have HF:Hid (R=22):=HQ2;clear HQ2;go_wp2_with fail
      go_ret;exact ⟨by rw [HF.out];rfl,HW2.out⟩
     ·have HF:Hid (R=opsE b (l.drop (k+1)) (fs.drop (k+1))):=HQ2;have HX2:=aF hS.1;clear HQ2 hS;go_wp2_with fail
      go_roundw
      case rel=>exact ⟨k+1,by omega,by go_num,HX2,HW2,by have:w1.drew.heap.size=w1.heap.size:=rfl;omega,HF⟩
      case measure=>simp [intOf];omega
    ·have ek:decide ((k:Int)<(fs.length:Int))=false:=by simp;omega
     have EK:=aF ek;have HF:Hid (R=opsE b (l.drop (k+1)) (fs.drop (k+1))):=aF (by rw [HQ.out,bE (by omega:fs.length<=k),bE (by omega:fs.length<=k+1),fE he]);clear he HQ ek;go_wp2_with (go_at_call 115;refine (HOK.out _ HBA.out).mono ?_;rintro e' w1 ⟨rfl,hb1⟩;have HB1:=aF hb1;have HW1:=aF (HBA.out.trans (hb1.mono HBA.out.size));clear hb1)
     have hS:True:=trivial;have HX2:=aF (dN HX.out HB1.out);have hsz4:=HB1.out.size;simp only [bI] at hsz4;clear x0 x1 x2 x3 x4 x5 x6 x7 p0 p1 p2 p3;refine cT (S:=fun _=>True) [0,1,2,3,4,5,6,7,8,9,10,11,12,13] (by kernel_rfl) ?_;(iterate 4 (refine cR (v:=?_) ?_ hS ?_;rotate_left;(next=>(rintro X -;(try simp only [aI]);go_simp;rfl));simp only [aM]));try rw [EK.out]
     ((refine cR (v:=?_) ?_ hS ?_;rotate_left;(next=>(rintro X -;(try simp only [aI]);go_simp;rfl));simp only [aM]))
     (iterate 8 (refine dA (v:=undef) (by kernel_rfl) (fun _ _ _ h=>h) (Or.inr ⟨by rfl,rfl⟩) hS ?_;simp only [aM]));((refine cR (v:=?_) ?_ hS ?_;rotate_left;(next=>(rintro X -;(try simp only [aI]);go_simp;rfl));simp only [aM]))
     refine cZ ?_;go_wp2_with fail
     go_roundw
     case rel=>exact ⟨k+1,by omega,by go_num,HX2,aF HW1.out.drew,by have:w1.drew.heap.size=w1.heap.size:=rfl;omega,HF⟩
     case measure=>simp [intOf];omega
   ·have HF:Hid (R=opE b o):=aF (by rw [HQ.out,eY he]);generalize opE b o=eo at HOK HF he;have e1:(eo != 0)=true:=by simp [he]
    have HBA:=aF (HB.out.alloc (by omega) (.cells (opC o A2 c2).toArray 69));clear he HQ;go_wp2_with (go_at_call 115;refine (HOK.out _ HBA.out).mono ?_;rintro e' w1 ⟨rfl,hb1⟩;have HW1:=aF (HBA.out.trans (hb1.mono HBA.out.size));clear hb1)
    go_ret;exact ⟨by rw [HF.out];rfl,HW1.out⟩
  ·have HF:Hid (R=0):=aF (by rw [hr.out,bE (by omega:l.length<=k),dJ]);clear hr;go_wp2_with fail
   go_ret;exact ⟨by rw [HF.out];rfl,HB.out⟩
end
section
open Go Go.RowKit
def clP (pairs:List (Int × Int)) (n:Int) (l:List Int) (z:Int):Prop:=∃y∈l,0<=y/\y<n/\Rch pairs z y
structure Cl (pairs:List (Int × Int)) (n:Nat) (l o:List Int) (i j:Nat):Prop where
 nd:o.Nodup
 rng:∀z∈o,0<=z/\z<(n:Int)
 snd:∀z∈o,clP pairs n l z
 pre:∀k,k<i->∀y,l[k]?=some y->0<=y->y<(n:Int)->y∈o
 cls:∀k,k<j->∀y,o[k]?=some y->∀z,(z,y)∈pairs->z∈o
theorem Cl.start (pairs:List (Int × Int)) (n:Nat) (l:List Int):Cl pairs n l [] 0 0:=⟨by simp,by simp,by simp,fun k hk=>by omega,fun k hk=>by omega⟩
theorem Cl.pass {pairs:List (Int × Int)} {n:Nat} {l o:List Int} {i:Nat} (h:Cl pairs n l o i 0) {y:Int} (hy:l[i]?=some y) (hp:0<=y->y<(n:Int)->y∈o):Cl pairs n l o (i+1) 0:=
 ⟨h.nd,h.rng,h.snd,fun k hk z hz h0 h1=>by
   by_cases e:k=i
   ·subst e;rw [hy] at hz;injection hz with hz;subst hz;exact hp h0 h1
   ·exact h.pre k (by omega) z hz h0 h1,fun k hk=>by omega⟩
theorem Cl.add {pairs:List (Int × Int)} {n:Nat} {l o:List Int} {i:Nat} (h:Cl pairs n l o i 0) {y:Int} (hy:l[i]?=some y) (h0:0<=y) (h1:y<(n:Int)) (hn:y∉o):Cl pairs n l (o ++ [y]) (i+1) 0:=
 ⟨jV h.nd (fun z hz e=>hn (e ▸ hz)),fun z hz=>(List.mem_append.1 hz).elim (h.rng z) (fun e=>by rw [List.mem_singleton.1 e];exact ⟨h0,h1⟩),
  fun z hz=>(List.mem_append.1 hz).elim (h.snd z) (fun e=>by rw [List.mem_singleton.1 e];exact ⟨y,List.mem_of_getElem? hy,h0,h1,.refl y⟩),
  fun k hk z hz g0 g1=>by
   by_cases e:k=i
   ·subst e;rw [hy] at hz;injection hz with hz;subst hz;simp
   ·simp [h.pre k (by omega) z hz g0 g1],fun k hk=>by omega⟩
structure Cm (pairs:List (Int × Int)) (n:Nat) (l o:List Int) (j:Nat) (y:Int) (ys:List Int) (k:Nat):Prop where
 base:Cl pairs n l o l.length j
 at_:o[j]?=some y
 mem:∀z,z∈ys↔(z,y)∈pairs
 done:∀m,m<k->∀z,ys[m]?=some z->z∈o
theorem Cm.start {pairs:List (Int × Int)} {n:Nat} {l o:List Int} {j:Nat} {y:Int} {ys:List Int} (h:Cl pairs n l o l.length j) (hy:o[j]?=some y) (hm:∀z,z∈ys↔(z,y)∈pairs):Cm pairs n l o j y ys 0:=⟨h,hy,hm,fun m hm=>by omega⟩
theorem Cm.pass {pairs:List (Int × Int)} {n:Nat} {l o:List Int} {j:Nat} {y:Int} {ys:List Int} {k:Nat} (h:Cm pairs n l o j y ys k) {z:Int} (hz:ys[k]?=some z) (hs:z∈o):Cm pairs n l o j y ys (k+1):=
 ⟨h.base,h.at_,h.mem,fun m hm x hx=>by
   by_cases e:m=k
   ·subst e;rw [hz] at hx;injection hx with hx;exact hx ▸ hs
   ·exact h.done m (by omega) x hx⟩
theorem Cm.add {pairs:List (Int × Int)} {n:Nat} {l o:List Int} {j:Nat} {y:Int} {ys:List Int} {k:Nat} (h:Cm pairs n l o j y ys k) (hr:∀p∈pairs,0<=p.1/\p.1<(n:Int)/\0<=p.2/\p.2<(n:Int)) {z:Int} (hz:ys[k]?=some z) (hs:z∉o):Cm pairs n l (o ++ [z]) j y ys (k+1):=by
 have hp:=(h.mem z).1 (List.mem_of_getElem? hz);have hj:j<o.length:=(List.getElem?_eq_some_iff.1 h.at_).1;refine ⟨⟨jV h.base.nd (fun x hx e=>hs (e ▸ hx)),fun x hx=>?_,fun x hx=>?_,fun m hm x hx g0 g1=>List.mem_append_left _ (h.base.pre m hm x hx g0 g1),fun m hm x hx u hu=>?_⟩,by rw [List.getElem?_append_left hj];exact h.at_,h.mem,fun m hm x hx=>?_⟩
 ·rcases List.mem_append.1 hx with hx | hx
  ·exact h.base.rng x hx
  ·rw [List.mem_singleton.1 hx];exact ⟨(hr _ hp).1,(hr _ hp).2.1⟩
 ·rcases List.mem_append.1 hx with hx | hx
  ·exact h.base.snd x hx
  ·rw [List.mem_singleton.1 hx];obtain ⟨u,a,b,c,d⟩:=h.base.snd y (List.mem_of_getElem? h.at_);exact ⟨u,a,b,c,(Rch.one hp).trans d⟩
 ·rw [List.getElem?_append_left (by omega)] at hx;exact List.mem_append_left _ (h.base.cls m hm x hx u hu)
 ·by_cases e:m=k
  ·subst e;rw [hz] at hx;injection hx with hx;simp [hx]
  ·exact List.mem_append_left _ (h.done m (by omega) x hx)
theorem Cm.close {pairs:List (Int × Int)} {n:Nat} {l o:List Int} {j:Nat} {y:Int} {ys:List Int} {k:Nat} (h:Cm pairs n l o j y ys k) (hk:ys.length<=k):Cl pairs n l o l.length (j+1):=
 ⟨h.base.nd,h.base.rng,h.base.snd,h.base.pre,fun m hm x hx u hu=>by
   by_cases e:m=j
   ·subst e;rw [h.at_] at hx;injection hx with hx;subst hx
    obtain ⟨q,hq,e⟩:=List.getElem_of_mem ((h.mem u).2 hu);exact h.done q (by omega) u (by rw [bD hq,e])
   ·exact h.base.cls m (by omega) x hx u hu⟩
theorem Rch.back {pairs:List (Int × Int)} {S:Int->Prop} (hc:∀x y,S y->(x,y)∈pairs->S x) {a b:Int} (h:Rch pairs a b):S b->S a:=by
 induction h with
 | refl=>exact fun h=>h
 | step _ hp ih=>exact fun hs=>ih (hc _ _ hs hp)
theorem Cl.done {pairs:List (Int × Int)} {n:Nat} {l o:List Int} {j:Nat} (h:Cl pairs n l o l.length j) (hj:o.length<=j) (z:Int):z∈o↔clP pairs n l z:=by
 refine ⟨h.snd z,?_⟩;rintro ⟨y,hy,h0,h1,hr⟩;refine hr.back (S:=fun u=>u∈o) (fun x u hu hp=>?_) ?_
 ·obtain ⟨q,hq,e⟩:=List.getElem_of_mem hu;exact h.cls q (by omega) u (by rw [bD hq,e]) x hp
 ·obtain ⟨q,hq,e⟩:=List.getElem_of_mem hy;exact h.pre q hq y (by rw [bD hq,e]) h0 h1
theorem Cl.len {pairs:List (Int × Int)} {n:Nat} {l o:List Int} {i j:Nat} (h:Cl pairs n l o i j):o.length<=n:=dR n o h.nd h.rng
structure Vi (ts:List Ty) (i:Int) (sl sl':List Int):Prop where
 sub:∀x∈sl,x∈sl'
 nd:sl.Nodup->sl'.Nodup
 hd:i∈sl'
 snd:∀x∈sl',x∈sl\/Rt ts i x
 cls:∀x∈sl',x∈sl\/∀t,ts[x.toNat]?=some t->∀k∈prtT t,k∈sl'
theorem Vi.known (ts:List Ty) {i:Int} {sl:List Int} (h:i∈sl):Vi ts i sl sl:=⟨fun _ h=>h,fun h=>h,h,fun _ h=> .inl h,fun _ h=> .inl h⟩
structure Vk (ts:List Ty) (i:Int) (ps:List Int) (k:Nat) (sl sl':List Int):Prop where
 sub:∀x∈sl,x∈sl'
 nd:sl.Nodup->sl'.Nodup
 hd:i∈sl'
 snd:∀x∈sl',x∈sl\/Rt ts i x
 cls:∀x∈sl',x∈sl\/x=i\/∀t,ts[x.toNat]?=some t->∀k∈prtT t,k∈sl'
 done:∀m,m<k->∀y,ps[m]?=some y->y∈sl'
theorem Vk.start {ts:List Ty} {i:Int} {ps sl:List Int} (h:i∉sl):Vk ts i ps 0 sl (i :: sl):=
 ⟨fun x hx=>by simp [hx],fun hn=>List.nodup_cons.2 ⟨h,hn⟩,by simp,fun x hx=>(List.mem_cons.1 hx).elim (fun e=>by subst e;exact .inr (.refl _)) .inl,fun x hx=>(List.mem_cons.1 hx).elim (fun e=> .inr (.inl e)) .inl,fun m hm=>by omega⟩
theorem Vk.step {ts:List Ty} {i:Int} {t:Ty} {k:Nat} {y:Int} {sl sl' sl2:List Int} (h:Vk ts i (prtT t) k sl sl') (h0:0<=i) (ht:ts[i.toNat]?=some t) (hy:(prtT t)[k]?=some y) (v:Vi ts y sl' sl2):Vk ts i (prtT t) (k+1) sl sl2:=
 ⟨fun x hx=>v.sub x (h.sub x hx),fun hn=>v.nd (h.nd hn),v.sub i h.hd,
  fun x hx=>(v.snd x hx).elim (h.snd x) (fun hr=> .inr (.step h0 ht (List.mem_of_getElem? hy) hr)),
  fun x hx=>(v.cls x hx).elim (fun hx'=>(h.cls x hx').imp id (fun g=>g.imp id (fun f u hu z hz=>v.sub z (f u hu z hz)))) (fun f=> .inr (.inr f)),
  fun m hm z hz=>by
   by_cases e:m=k
   ·subst e;rw [hy] at hz;injection hz with hz;exact hz ▸ v.hd
   ·exact v.sub z (h.done m (by omega) z hz)⟩
theorem Vk.close {ts:List Ty} {i:Int} {t:Ty} {k:Nat} {sl sl':List Int} (h:Vk ts i (prtT t) k sl sl') (ht:ts[i.toNat]?=some t) (hk:(prtT t).length<=k):Vi ts i sl sl':=
 ⟨h.sub,h.nd,h.hd,h.snd,fun x hx=>(h.cls x hx).imp id (fun g=>g.elim (fun e u hu z hz=>by
   subst e;rw [ht] at hu;injection hu with hu;subst hu
   obtain ⟨q,hq,e⟩:=List.getElem_of_mem hz
   exact h.done q (by omega) z (by rw [bD hq,e])) id)⟩
def RlP (b:Bdy) (r p:Int):Prop:=∃x:Int,Lv b.blocks x p/\∃l,b.locals[x.toNat]?=some l/\∃s,Men b.types s l.type/\0<=s/\s<(b.regions.length:Int)/\0<=r/\r<(b.regions.length:Int)/\Rch b.outl r s
theorem RlP.lt {b:Bdy} {r p:Int} (h:RlP b r p):0<=r/\r<(b.regions.length:Int)/\0<=p/\p<(cntB b.blocks:Int):=by
 obtain ⟨x,h1,_,_,_,_,_,_,a,c,_⟩:=h;exact ⟨a,c,h1.lt.1,h1.lt.2⟩
end
section
open Go Go.RowKit
section
variable {P:Program} {ops:Array Oper} {Q:Exit->Act->World->Prop} {S:World->Prop}
def twoO (ops:Array Oper) (ord o1 o2:List Nat) (k:Nat):Bool:=
 decide (k<ops.size) && decide (k<o1.length) && decide (k<o2.length) && decide (o1.getD k 0<ops.size) && decide (o2.getD k 0<ops.size) &&
  decide (Region.ready .any ops (lstO ops.size ord k)=[o1.getD k 0,o2.getD k 0]) && decide (lstO ops.size o1 k=lstO ops.size ord k) && decide (lstO ops.size o2 k=lstO ops.size ord k)
theorem yG {t:Nat} {ord:List Nat} {k:Nat} {a:Act} {w:World} (o1 o2:List Nat) (hok:twoO ops ord o1 o2 k=true)
 (h1:∀K':Act->World->Prop,Shut (∀a w,(o1.getD k 0<t->S w)->wpO P ops Q S t o1 (k+1) a w->K' a w)->if Region.wanted ((ops[o1.getD k 0]?).getD default) (yielded ops a.tmps)=true then Oper.wp P ((ops[o1.getD k 0]?).getD default) a w K' Q else K' (a.put ((ops[o1.getD k 0]?).getD default).dst undef) w)
 (h2:∀K':Act->World->Prop,Shut (∀a w,(o2.getD k 0<t->S w)->wpO P ops Q S t o2 (k+1) a w->K' a w)->if Region.wanted ((ops[o2.getD k 0]?).getD default) (yielded ops a.tmps)=true then Oper.wp P ((ops[o2.getD k 0]?).getD default) a w K' Q else K' (a.put ((ops[o2.getD k 0]?).getD default).dst undef) w):
 wpO P ops Q S t ord k a w:=by
 simp only [twoO,bP,decide_eq_true_eq] at hok;obtain ⟨⟨⟨⟨⟨⟨⟨hk,k1⟩,k2⟩,l1⟩,l2⟩,r0⟩,e1⟩,e2⟩:=hok;have hoi:ops[o1.getD k 0]?=some ((ops[o1.getD k 0]?).getD default):=by rw [Array.getElem?_eq_getElem l1];rfl
 have hoj:ops[o2.getD k 0]?=some ((ops[o2.getD k 0]?).getD default):=by rw [Array.getElem?_eq_getElem l2];rfl
 unfold wpO;rw [show ops.size - k=(ops.size - (k+1))+1 by omega];refine ⟨fun h=>(by rw [r0] at h;cases h),fun i hmem=>?_⟩;rw [r0,cL,bR] at hmem;rcases hmem with rfl | rfl
 ·refine wpOp_step hoi (fun K' hK=>h1 K' (fun a w hs hw=>hK a w ⟨hs,?_⟩));rw [<- e1,gJ k1];exact hw
 ·refine wpOp_step hoj (fun K' hK=>h2 K' (fun a w hs hw=>hK a w ⟨hs,?_⟩));rw [<- e2,gJ k2];exact hw
end
end
end Go.Proofs.YtcfchohkmkilpaaGreatDoor
