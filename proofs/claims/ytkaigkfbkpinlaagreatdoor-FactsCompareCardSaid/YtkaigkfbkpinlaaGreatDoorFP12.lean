/-
  Parts of the proof: V32D V32E V33 V34 V35 V36.
-/
import Derived.Sort.WalkA
import Derived.Test.YtkaigkfbkpinlaaGreatDoorFP0
import Derived.Test.YtkaigkfbkpinlaaGreatDoorFP10
import Derived.Test.YtkaigkfbkpinlaaGreatDoorFP11
namespace Go.Proofs.YtkaigkfbkpinlaaGreatDoor
set_option maxRecDepth 100000
set_option maxHeartbeats 16000000
section
open Go Go.RowKit Go.Maps Go.WideMaps
theorem yG (E:SubE) (b:Bdy) (HE:E.Ok b) (m:Nat) (HREC0:E.Rec b m) (s t:Nat) (hm:s+t<m+1) (hs:s<b.types.length) (ht:t<b.types.length) (W:World) (ks:List (Int × Int)) (h:E.St b W ks) (hmem:((s:Int),(t:Int))∉ks) (hcase:((b.types[s].kind == b.types[t].kind) && (b.types[s].mu == b.types[t].mu) && ((b.types[s].flds.length:Int) == (b.types[t].flds.length:Int)))=false):
 Calls Tryz.prog 209 #[.int .i64 s,.int .i64 t,.pointer (some ⟨E.pk,0,none⟩),.pointer (some ⟨E.pl,0,none⟩),.pointer (some ⟨E.pr,0,none⟩),.pointer (some ⟨E.pf,0,none⟩)] W fun e' W'=>e' = .returned (.bool (subB b s t))/\E.Q b W ks s t W':=by
 have HREC:=aH HREC0;have HSB:=aH (pQ HE.ok.tyok hs ht);have HOKS:=aH (HE.ok.tyok s hs);have HOKT:=aH (HE.ok.tyok t ht);have hn:=HE.ok.ntyp;have hlen:=h.lt HE;have wfs:(Lit.int .i64 (s:Int)).wf=true:=WalkArith.wf_i64 (by omega);have wft:(Lit.int .i64 (t:Int)).wf=true:=WalkArith.wf_i64 (by omega);have x1:=h.k;have x2:=h.l;have x3:=h.r;have x4:=h.f;have hmemo:=h.memo;have HST:=aH h;have HEE:=aH HE;have hle:=HE.ty.le;have hbig:=HE.ty.big;have HMD:Hid (decide (((s:Int),(t:Int))∈ks)=false):=aH (by simp [hmem]);have HM:=aH hmem;obtain ⟨bb,oo,hA,hbb,hxs⟩:=HE.ty.sl.at_ hs;obtain ⟨b2,o2,hA2,hbb2,hxt⟩:=HE.ty.sl.at_ ht;have hAA:some (⟨bb,oo,none⟩:Addr)=some ⟨b2,o2,none⟩:=hA.symm.trans hA2;simp only [cK,Addr.mk.injEq,and_true] at hAA;obtain ⟨rfl,rfl⟩:=hAA;clear hA2 hbb2;obtain ⟨ta,hta⟩:∃x,b.types[s]=x:=⟨_,rfl⟩;obtain ⟨tb,htb⟩:∃x,b.types[t]=x:=⟨_,rfl⟩;rw [hta] at hxs HSB HOKS hcase;rw [htb] at hxt HSB HOKT hcase;obtain ⟨r0,r1,r2,r3,A2,c2,r4,r6,r7,r8⟩:=hxs;obtain ⟨q0,q1,q2,q3,B2,d2,q4,q6,q7,q8⟩:=hxt;have HFA:Hid (Slc 1 RInt E.w0 A2 c2 ta.flds):=aH ⟨r8,r6,r7⟩;have HFB:Hid (Slc 1 RInt E.w0 B2 d2 tb.flds):=aH ⟨q8,q6,q7⟩;have hb0:=h.low;replace r0:=cQ hb0 r0;replace r1:=cQ hb0 r1;replace r2:=cQ hb0 r2;replace r3:=cQ hb0 r3;replace r4:=cQ hb0 r4;replace q0:=cQ hb0 q0;replace q1:=cQ hb0 q1;replace q2:=cQ hb0 q2;replace q3:=cQ hb0 q3;replace q4:=cQ hb0 q4;rw [hA] at x2;clear r8 q8 hta htb hb0 h HE hmem;go_enter Tryz.func209,Tryz.ntmps209;go_wp2_with (at_lookup;refine eY _ rfl _ _ 89 rfl 42 3 4 arrP Tryz.underlying3 progN Tryz.underlying89 (eF _) _ _ _ rfl hmemo _ _ rfl wfs wft ?_;rw [bB HM.out,HMD.out])
 have hS:Below W.heap.size W W.drew:=(aZ _ _).drew;refine cZ (S:=fun X=>Below W.heap.size W X) [0,1,2,3,4,5,6,7,8,9,10,11] (by kernel_rfl) ?_;(iterate 8 (refine cY (v:=?_) ?_ hS ?_;rotate_left;(next=>(rintro X hX;have s0:=cQ hX x2;have u0:=cQ hX r0;have u1:=cQ hX r1;have u2:=cQ hX r2;have u3:=cQ hX r3;have u4:=cQ hX r4;have v0:=cQ hX q0;have v1:=cQ hX q1;have v2:=cQ hX q2;have v3:=cQ hX q3;have v4:=cQ hX q4;(try simp only [aK]);go_simp;rfl));simp only [aO]));have hS1:Below W.heap.size W (W.drew.alloc ty0):=aJ;have hS2:Below W.heap.size W ((W.drew.alloc ty0).alloc ty0):=aJ;refine iK [0,1,2,3,4,5,6,7,9,8,10,11] ty0 (by kernel_rfl) ?_ ?_ ?_ hS1 hS2 ?_
 ·intro a1 w1 K hK;(simp only [aO]);rw [bD (by rfl)];go_simp;exact hK
 ·intro a1 w1 K hK;(simp only [aO]);rw [bD (by rfl)];go_simp;exact hK
 ·exact fun _ _=>rfl
 intro ga gb hg;obtain ⟨hB1,ya,yb⟩:=nI W.drew ga gb ta tb A2 B2 c2 d2 hg;have hS3:Below W.heap.size W (((W.drew.alloc ty0).alloc ty0).setCells ga 0 (tyL ta A2 c2)):=dM (by rcases hg with h | h <;> (rw [h.1];simp)) _ _ _ hS2
 have tha:((W.drew.alloc ty0).alloc ty0).there ga 0 (tyL ta A2 c2).toArray.size:=by
  rcases hg with ⟨h,-⟩ | ⟨h,-⟩ <;> rw [h]
  ·exact World.there_alloc (dK _ _ _ _ 5 rfl (by simp)) _
  ·exact dK _ _ _ _ 5 (by simp) (by simp)
 have thb:((W.drew.alloc ty0).alloc ty0).there gb 0 (tyL tb B2 d2).toArray.size:=by
  rcases hg with ⟨-,h⟩ | ⟨-,h⟩ <;> rw [h]
  ·exact dK _ _ _ _ 5 (by simp) (by simp)
  ·exact World.there_alloc (dK _ _ _ _ 5 rfl (by simp)) _
 have hS4:Below W.heap.size W ((((W.drew.alloc ty0).alloc ty0).setCells ga 0 (tyL ta A2 c2)).setCells gb 0 (tyL tb B2 d2)):=hS.trans (hB1.mono (bA _));have hne:ga≠gb/\W.heap.size<=ga/\W.heap.size<=gb:=by rcases hg with ⟨rfl,rfl⟩ | ⟨rfl,rfl⟩ <;> simp
 have hML:=HST.out.memo.lt;have hM:E.M≠ga/\E.M≠gb:=by omega
 clear hg;have thc:=World.there_setCells thb ga 0 (tyL ta A2 c2);generalize (W.drew.alloc ty0).alloc ty0=W8 at *;have E9:∃W9,W8.setCells ga 0 (tyL ta A2 c2)=W9:=⟨_,rfl⟩;obtain ⟨W9,e9⟩:=E9;obtain ⟨W1,e1⟩:∃W1,W9.setCells gb 0 (tyL tb B2 d2)=W1:=⟨_,rfl⟩;rw [e9] at hB1 ya yb hS3 hS4 thc;rw [e1] at hB1 ya yb hS4;(refine cX (fun K1 hK1=>?_);simp only [aO];rw [bD (by rfl)]);refine wp_store_mid 104 (.tmp 11) (.tmp 27) rfl ga 0 (tyL ta A2 c2).toArray rfl rfl tha (by kernel_rfl) (by simp [tyL,Value.oneCell']) ?_;rw [List.toList_toArray,e9];refine hK1.out _ _ (fun _=>hS3) ?_;clear hK1;(refine cX (fun K1 hK1=>?_);simp only [aO];rw [bD (by rfl)]);refine wp_store_mid 104 (.tmp 12) (.tmp 31) rfl gb 0 (tyL tb B2 d2).toArray rfl rfl thc (by kernel_rfl) (by simp [tyL,Value.oneCell']) ?_;rw [List.toList_toArray,e1];refine hK1.out _ _ (fun _=>hS4) ?_;clear hK1;refine dI ?_;(simp only [aO]);obtain ⟨ya0,ya1,ya2,ya3,ya4⟩:=aS ya;obtain ⟨yb0,yb1,yb2,yb3,yb4⟩:=aS yb;have hst1:=HST.out.keep hS4;have HPH:=aH (SubE.Ph.start HST.out hS4 ((s:Int)+t));have HB1:=aH hS4;have HM1:=aH hM
 have HC:Hid (∀X,E.Ph b W1 ks ((s:Int)+t) X->(aD (tyL ta A2 c2) X ga)/\(aD (tyL tb B2 d2) X gb)/\X.cell? ⟨E.pf,0,none⟩=some E.F/\X.cell? ⟨E.pr,0,none⟩=some (.pointer (some ⟨E.r,0,none⟩))/\X.cell? ⟨E.pk,0,none⟩=some (.map (some E.M))/\Below E.w0.heap.size E.w0 X):=aH (fun X ⟨kx,h1,h2,h3⟩=>
  ⟨fun i v hi=>dR h3 (ya i v hi) (by simpa using Ne.symm HM1.out.1),fun i v hi=>dR h3 (yb i v hi) (by simpa using Ne.symm HM1.out.2),h1.f,h1.r,h1.k,h1.low⟩)
 have hbp:=HST.out.memo.lt;clear hS hS1 hS2 hS3 hS4 hB1 ya yb tha thb thc e9 e1 x1 x2 x3 x4 hmemo r0 r1 r2 r3 r4 q0 q1 q2 q3 q4 hM hML
 have HCALL:Hid (∀x y:Int,0<=x->0<=y->x+y<(s:Int)+t->x<(b.types.length:Int)->y<(b.types.length:Int)->∀X,E.Ph b W1 ks ((s:Int)+t) X->
  Calls Tryz.prog 209 #[.int .i64 x,.int .i64 y,.pointer (some ⟨E.pk,0,none⟩),.pointer (some ⟨E.pl,0,none⟩),.pointer (some ⟨E.pr,0,none⟩),.pointer (some ⟨E.pf,0,none⟩)] X fun e' X'=>e' = .returned (.bool (subB b x y))/\E.Ph b W1 ks ((s:Int)+t) X'):=aH (fun x y hx hy hxy hxl hyl X ⟨kx,h1,h2,h3⟩=>by
  obtain ⟨x,rfl⟩:=bI hx;obtain ⟨y,rfl⟩:=bI hy;refine (HREC.out x y (by omega) (by omega) (by omega) X kx h1).mono ?_;rintro e' X' ⟨rfl,hq⟩
  exact ⟨rfl,SubE.Ph.call h1 h2 h3 hq hxy⟩)
 clear HREC hn;obtain ⟨p1,hp1⟩:∃q,(ta.kind == tb.kind)=q:=⟨_,rfl⟩;obtain ⟨p2,hp2⟩:∃q,(ta.mu == tb.mu)=q:=⟨_,rfl⟩;obtain ⟨p3,hp3⟩:∃q,((ta.flds.length:Int) == (tb.flds.length:Int))=q:=⟨_,rfl⟩;obtain ⟨p4,hp4⟩:∃q,(ta.kind == 3)=q:=⟨_,rfl⟩;rw [hp1,hp2,hp3] at hcase;have HCASE:=aH hcase;clear hcase;have HP1:=aH hp1;have HP2:=aH hp2;have HP3:=aH hp3;have HP4:=aH hp4
 have HLAW:Hid (∀q:Bool,(p1=true->p2=true->p3=true->p4=true->q=(outB b.outl b.regions.length ta.reg tb.reg && subB b ta.elem tb.elem && (!ta.mu || subB b tb.elem ta.elem)))->(¬(p1=true/\p2=true/\p3=true/\p4=true)->q=(p1 && p2 && p3))->
  subB b s t=(q && (((ta.flds.drop 0).zip (tb.flds.drop 0)).all (fun p=>subB b p.1 p.2)))/\(q=true->ta.flds.length=tb.flds.length)):=aH (fun q h1 h2=>by
  rw [HSB.out];unfold subS;have g1:decide (ta.kind=tb.kind)=p1:=by rw [<- HP1.out];rfl
  have g2:decide (ta.mu=tb.mu)=p2:=by rw [<- HP2.out];cases ta.mu <;> cases tb.mu <;> rfl
  have g3:decide (ta.flds.length=tb.flds.length)=p3:=by rw [<- HP3.out,lM]
  have g4:decide (ta.kind≠3) = !p4:=by rw [<- HP4.out];by_cases h:ta.kind=3 <;> simp [h]
  have g5:p4=true->ta.flds=[]:=fun h=>(HOKS.out.1 (by rw [<- HP4.out] at h;simpa using h)).2.2
  rw [g1,g2,g3,g4,bZ,bZ];have g6:p3=true->ta.flds.length=tb.flds.length:=fun h=>by rw [<- g3] at h;simpa using h
  cases p1 <;> cases p2 <;> cases p3 <;> cases p4 <;> simp_all)
 clear HSB;have HR:Hid (0<=(s:Int)/\(s:Int)<(b.types.length:Int)/\0<=(t:Int)/\(t:Int)<(b.types.length:Int)):=aH ⟨by omega,by omega,by omega,by omega⟩
 have HO:Hid (∀X,E.Ph b W1 ks ((s:Int)+t) X->Calls Tryz.prog 184 #[.pointer (some ⟨E.r,0,none⟩),.int .i64 ta.reg,.int .i64 tb.reg] X fun e' X'=>e' = .returned (.bool (outB b.outl b.regions.length ta.reg tb.reg))/\E.Ph b W1 ks ((s:Int)+t) X'):=aH (fun X hX=>by
  refine (kC b.outl b.regions.length ta.reg tb.reg E.r X (HEE.out.rel.keep (HC.out X hX).2.2.2.2.2) HEE.out.ok.pairs (by have:=HEE.out.ok.nreg;omega) HEE.out.ok.nout).mono ?_;rintro e' X' ⟨rfl,hb⟩
  exact ⟨rfl,hX.keep hb⟩)
 obtain ⟨z1,z2,z3,z4⟩:W1.cell? ⟨E.pf,0,none⟩=some E.F/\W1.cell? ⟨E.pr,0,none⟩=some (.pointer (some ⟨E.r,0,none⟩))/\W1.cell? ⟨E.pk,0,none⟩=some (.map (some E.M))/\True:=⟨hst1.f,hst1.r,hst1.k,trivial⟩;clear hst1 z4;unfold SubE.F at z1;have hc:=HCASE.out;clear HCASE;have hall:¬(p1=true/\p2=true/\p3=true/\p4=true):=by rintro ⟨rfl,rfl,rfl,rfl⟩;simp at hc
 have HL3:Hid (∀q:Bool,q=(p1 && p2 && p3)->subB b s t=(q && (((ta.flds.drop 0).zip (tb.flds.drop 0)).all (fun p=>subB b p.1 p.2)))/\(q=true->ta.flds.length=tb.flds.length)):=aH (fun q hq=>HLAW.out q (fun h1 h2 h3 h4=>absurd ⟨h1,h2,h3,h4⟩ hall) (fun _=>hq));clear HLAW HO HP1 HP2 HP3 HP4;have HPZ:=HPH;rcases (show p1=false\/(p1=true/\p2=false)\/(p1=true/\p2=true/\p3=false) by revert hc;cases p1 <;> cases p2 <;> cases p3 <;> simp) with rfl | ⟨rfl,rfl⟩ | ⟨rfl,rfl,rfl⟩
 ·have HV:=aH (HL3.out false rfl);clear hall HL3 hc;go_wp2_with fail
  have HVV:Hid (subB b s t=false):=aH (by rw [HV.out.1];rfl);(try clear HCALL);(try clear HSS);(try clear HE1);(try clear HE2); (try clear HO);(try clear HL2);(try clear HLAW);go_loopg [9,13] 0 (fun gk v i wr=>v = .bool false/\i = .int .i64 0/\Hid (E.Ph b W1 ks ((s:Int)+t) wr));(case atStart=>exact ⟨rfl,rfl,HPZ⟩);(case round=>(obtain ⟨rfl,rfl,HPZ⟩:=hrel;obtain ⟨kz,hstz,hnz,hgz⟩:=HPZ.out;have HSZ:=aH hstz;have HNZ:=aH hnz;have HGZ:=aH hgz;have hkz:=hstz.k;clear hnz hgz;go_wp2_with (at_mapUpdate;refine dF _ rfl _ _ _ 89 rfl 42 3 4 arrP Tryz.underlying3 progN Tryz.underlying89 _ _ _ rfl hstz.memo (hstz.lt HEE.out) _ _ rfl wfs wft (by rw [HVV.out];rfl) ?_;intro w9 hm9 hg9;have HM9:=aH hm9;have HG9:=aH hg9;clear hm9 hg9);clear hstz;go_ret;refine ⟨?_,SubE.fin HEE.out HM.out HR.out HB1.out HSZ.out HNZ.out HGZ.out HM9.out HG9.out⟩;rw [HVV.out];rfl))
 ·have HV:=aH (HL3.out false rfl);clear hall HL3 hc;go_wp2_with fail
  have HVV:Hid (subB b s t=false):=aH (by rw [HV.out.1];rfl);(try clear HCALL);(try clear HSS);(try clear HE1);(try clear HE2); (try clear HO);(try clear HL2);(try clear HLAW);go_loopg [9,13] 0 (fun gk v i wr=>v = .bool false/\i = .int .i64 0/\Hid (E.Ph b W1 ks ((s:Int)+t) wr));(case atStart=>exact ⟨rfl,rfl,HPZ⟩);(case round=>(obtain ⟨rfl,rfl,HPZ⟩:=hrel;obtain ⟨kz,hstz,hnz,hgz⟩:=HPZ.out;have HSZ:=aH hstz;have HNZ:=aH hnz;have HGZ:=aH hgz;have hkz:=hstz.k;clear hnz hgz;go_wp2_with (at_mapUpdate;refine dF _ rfl _ _ _ 89 rfl 42 3 4 arrP Tryz.underlying3 progN Tryz.underlying89 _ _ _ rfl hstz.memo (hstz.lt HEE.out) _ _ rfl wfs wft (by rw [HVV.out];rfl) ?_;intro w9 hm9 hg9;have HM9:=aH hm9;have HG9:=aH hg9;clear hm9 hg9);clear hstz;go_ret;refine ⟨?_,SubE.fin HEE.out HM.out HR.out HB1.out HSZ.out HNZ.out HGZ.out HM9.out HG9.out⟩;rw [HVV.out];rfl))
 ·have HV:=aH (HL3.out false rfl);clear hall HL3 hc;go_wp2_with fail
  have HVV:Hid (subB b s t=false):=aH (by rw [HV.out.1];rfl);(try clear HCALL);(try clear HSS);(try clear HE1);(try clear HE2); (try clear HO);(try clear HL2);(try clear HLAW);go_loopg [9,13] 0 (fun gk v i wr=>v = .bool false/\i = .int .i64 0/\Hid (E.Ph b W1 ks ((s:Int)+t) wr));(case atStart=>exact ⟨rfl,rfl,HPZ⟩);(case round=>(obtain ⟨rfl,rfl,HPZ⟩:=hrel;obtain ⟨kz,hstz,hnz,hgz⟩:=HPZ.out;have HSZ:=aH hstz;have HNZ:=aH hnz;have HGZ:=aH hgz;have hkz:=hstz.k;clear hnz hgz;go_wp2_with (at_mapUpdate;refine dF _ rfl _ _ _ 89 rfl 42 3 4 arrP Tryz.underlying3 progN Tryz.underlying89 _ _ _ rfl hstz.memo (hstz.lt HEE.out) _ _ rfl wfs wft (by rw [HVV.out];rfl) ?_;intro w9 hm9 hg9;have HM9:=aH hm9;have HG9:=aH hg9;clear hm9 hg9);clear hstz;go_ret;refine ⟨?_,SubE.fin HEE.out HM.out HR.out HB1.out HSZ.out HNZ.out HGZ.out HM9.out HG9.out⟩;rw [HVV.out];rfl))
theorem tZ (E:SubE) (b:Bdy) (HE:E.Ok b) (s t:Nat) (hs:s<b.types.length) (ht:t<b.types.length) (W:World) (ks:List (Int × Int)) (h:E.St b W ks) (hmem:((s:Int),(t:Int))∈ks):
 Calls Tryz.prog 209 #[.int .i64 s,.int .i64 t,.pointer (some ⟨E.pk,0,none⟩),.pointer (some ⟨E.pl,0,none⟩),.pointer (some ⟨E.pr,0,none⟩),.pointer (some ⟨E.pf,0,none⟩)] W fun e' W'=>e' = .returned (.bool (subB b s t))/\E.Q b W ks s t W':=by
 have hn:=HE.ok.ntyp;have hlen:=h.lt HE;have wfs:(Lit.int .i64 (s:Int)).wf=true:=WalkArith.wf_i64 (by omega);have wft:(Lit.int .i64 (t:Int)).wf=true:=WalkArith.wf_i64 (by omega);have x1:=h.k;have x2:=h.l;have x3:=h.r;have x4:=h.f;have hmemo:=h.memo;have HST:=aH h;have HEE:=aH HE;have hle:=HE.ty.le;have hbig:=HE.ty.big;have HMD:Hid (decide (((s:Int),(t:Int))∈ks)=true):=aH (by simp [hmem]);have HM:=aH hmem;clear h HE hmem;go_enter Tryz.func209,Tryz.ntmps209
 go_wp2_with (at_lookup;refine eY _ rfl _ _ 89 rfl 42 3 4 arrP Tryz.underlying3 progN Tryz.underlying89 (eF _) _ _ _ rfl hmemo _ _ rfl wfs wft ?_;rw [bD HM.out,HMD.out])
 go_ret;exact ⟨rfl,ks,HST.out,fun p hp=>Or.inl hp,eK (aZ _ _) _⟩
theorem qV (E:SubE) (b:Bdy) (HE:E.Ok b):∀m:Nat,E.Rec b m
 | 0=>fun _ _ h=>absurd h (by omega)
 | m+1=>fun s t hm hs ht W ks h=>by
   have HR:=qV E b HE m;by_cases hmem:((s:Int),(t:Int))∈ks
   ·exact tZ E b HE s t hs ht W ks h hmem
   obtain ⟨p,hp⟩:∃p,((b.types[s].kind == b.types[t].kind) && (b.types[s].mu == b.types[t].mu) && ((b.types[s].flds.length:Int) == (b.types[t].flds.length:Int)))=p:=⟨_,rfl⟩;obtain ⟨q,hq⟩:∃q,(b.types[s].kind == 3)=q:=⟨_,rfl⟩;cases p
   ·exact yG E b HE m HR s t hm hs ht W ks h hmem hp
   ·cases q
    ·exact xCA E b HE m HR s t hm hs ht W ks h hmem (by rw [hp,hq];rfl)
    ·exact xCB E b HE m HR s t hm hs ht W ks h hmem (by rw [hp,hq];rfl)
theorem xDZ (w:World) (b:Bdy) (A:Option Addr) (c r:Nat) (t0 t1 t2 t3:TypeId):
 SubE.St ⟨w,A,c,w.heap.size+3,w.heap.size+1,w.heap.size,w.heap.size+4,w.heap.size+2,r⟩ b (((((w.alloc (.cells #[.pointer (some ⟨r,0,none⟩)] t0)).alloc (.cells #[.slice A b.types.length c] t1)).alloc (.map #[] 0)).alloc (.cells #[.map (some (w.heap.size+2))] t2)).alloc (.cells #[SubE.F ⟨w,A,c,w.heap.size+3,w.heap.size+1,w.heap.size,w.heap.size+4,w.heap.size+2,r⟩] t3)) []:=by
 obtain ⟨F,hF⟩:∃F,SubE.F ⟨w,A,c,w.heap.size+3,w.heap.size+1,w.heap.size,w.heap.size+4,w.heap.size+2,r⟩=F:=⟨_,rfl⟩;rw [hF];have keepA:∀(W W':World) (p:Addr) (v:Value),Below W.heap.size W W'->W.cell? p=some v->W'.cell? p=some v:=fun W W' p v hb h=>cQ hb h
 refine ⟨aJ,?_,?_,?_,?_,?_,by simp,by simp⟩
 ·have:=cT (((w.alloc (.cells #[.pointer (some ⟨r,0,none⟩)] t0)).alloc (.cells #[.slice A b.types.length c] t1)).alloc (.map #[] 0)) [.map (some (w.heap.size+2))] t2 0 _ rfl;simp only [bK] at this;exact cQ ((aZ _ _).alloc (bA _) _) this
 ·have:=cT (w.alloc (.cells #[.pointer (some ⟨r,0,none⟩)] t0)) [.slice A b.types.length c] t1 0 _ rfl;simp only [bK] at this;exact cQ ((((aZ _ _).alloc (bA _) _).alloc (by simp) _).alloc (by simp) _) this
 ·have:=cT w [.pointer (some ⟨r,0,none⟩)] t0 0 _ rfl;exact cQ (((((aZ _ _).alloc (bA _) _).alloc (by simp) _).alloc (by simp) _).alloc (by simp) _) this
 ·have:=cT ((((w.alloc (.cells #[.pointer (some ⟨r,0,none⟩)] t0)).alloc (.cells #[.slice A b.types.length c] t1)).alloc (.map #[] 0)).alloc (.cells #[.map (some (w.heap.size+2))] t2)) [F] t3 0 _ rfl;simp only [bK] at this;rw [hF];exact this
 ·have:=Memo.made ((w.alloc (.cells #[.pointer (some ⟨r,0,none⟩)] t0)).alloc (.cells #[.slice A b.types.length c] t1)) Tryz.prog 42 (subB b);simp only [bK] at this;exact (this.alloc _).alloc _
theorem xCC (b:Bdy) (A:Option Addr) (c r:Nat) (s t:Int) (w:World) (hs:Slc 5 RTy w A c b.types) (hok:DeclOk b) (hrel:Rel3 w r b.regions.length (relL b.outl)):
 Calls Tryz.prog 188 #[.pointer (some ⟨r,0,none⟩),.slice A b.types.length c,.int .i64 s,.int .i64 t] w fun e' w'=>e' = .returned (.bool (subB b s t))/\Below w.heap.size w w':=by
 have hle:=hs.le;have hbig:=hs.big;by_cases hr:0<=s/\s<(b.types.length:Int)/\0<=t/\t<(b.types.length:Int)
 case neg=>
  rw [yH (by omega)];clear hs hrel hok;go_enter Tryz.func188,Tryz.ntmps188
  go_wp2_with fail
  all_goals first
   | (exfalso;omega)
   | (go_ret;exact ⟨rfl,aJ⟩)
 case pos=>
 obtain ⟨i,rfl⟩:=bI hr.1;obtain ⟨j,rfl⟩:=bI hr.2.2.1;have hi:i<b.types.length:=by omega
 have hj:j<b.types.length:=by omega
 have HE:SubE.Ok ⟨w,A,c,w.heap.size+3,w.heap.size+1,w.heap.size,w.heap.size+4,w.heap.size+2,r⟩ b:=⟨hs,hok,hrel,by simp,by simp,by simp,by simp,by simp⟩;have HC:=aH (fun W h=>qV _ b HE (i+j+1) i j (by omega) hi hj W [] h);have hmm:= @run_makeMap Tryz.prog;have hst:∀(a:Addr) (fn:Fn) (f c:Array Value) (W:World),(store a (.func fn f c)).run Tryz.prog W=stored Tryz.prog W a (.func fn f c) .plain:=fun a fn f c W=>run_store Tryz.prog W a (.func fn f c) _ rfl
 clear hs HE hok hrel;generalize hq:subB b (i:Int) (j:Int)=q at HC ⊢;go_enter Tryz.func188,Tryz.ntmps188
 go_wp2_with (go_at_call 209;refine (HC.out _ (xDZ w b A c r _ _ _ _)).mono ?_;rintro e' w1 ⟨rfl,hq⟩;have HQ:=aH hq;clear hq)
 all_goals first
  | (exfalso;omega)
  | (go_ret
     obtain ⟨ks,h1,-⟩:=HQ.out
     exact ⟨rfl,h1.low⟩)
structure Ck (w:World) (b:Bdy) (bh:BH) (r:Nat):Prop where
 at_:BdAt w b bh
 ok:DeclOk b
 rel:Rel3 w r b.regions.length (relL b.outl)
theorem Ck.keep {w w':World} {b:Bdy} {bh:BH} {r:Nat} (h:Ck w b bh r) (hb:Below w.heap.size w w'):Ck w' b bh r:=⟨h.at_.keep hb,h.ok,h.rel.keep hb⟩
theorem oU {b:Bdy} {bh:BH} {r:Nat} {w:World} (H:Ck w b bh r) (o:Opd) (A:Option Addr) (c:Nat) (hp:Slc 2 RPj w A c o.place.proj):
 Calls Tryz.prog 121 #[.agg (ckC b bh r).toArray,.agg (opC o A c).toArray] w fun e' w'=>e' = .returned (.int .i64 (opE b o))/\Below w.heap.size w w':=
 pY b bh r o A c w H.at_ hp H.ok.okay (fun W hb i _h0 _h1=>xDJ b.types H.ok.tyok H.ok.ntyp i bh.A3 bh.c3 W (H.keep hb).at_.typ)
theorem xBJ {b:Bdy} {o:Opd} (h:opE b o=0):o.kind≠2->o.kind≠3->o.kind≠4->(tyB b o.place).2=0:=by
 intro h2 h3 h4;unfold opE at h;by_cases c1:o.kind<0\/4<o.kind
 ·rw [bD c1] at h;cases h
 rw [bB c1] at h;by_cases c2:(o.kind≠2/\o.kind≠3/\o.n≠0)\/(1<o.kind/\zeroP o.place=false)
 ·rw [bD c2] at h;cases h
 rw [bB c2,bB (by omega),bB (by omega)] at h;by_cases c3:(tyB b o.place).2≠0
 ·rw [bD c3] at h;exact h
 ·simpa using c3
theorem rY {b:Bdy} {bh:BH} {r:Nat} {w:World} (H:Ck w b bh r) (o:Opd) (A:Option Addr) (c:Nat) (hp:Slc 2 RPj w A c o.place.proj) (ho:opE b o=0):
 Calls Tryz.prog 123 #[.agg (ckC b bh r).toArray,.agg (opC o A c).toArray] w fun e' w'=>e' = .returned (.int .i64 (kindO b o))/\Below w.heap.size w w':=
 mP b bh r o A c w H.at_ hp H.ok.okay (xBJ ho)
theorem xEY {b:Bdy} {bh:BH} {r:Nat} {w:World} (H:Ck w b bh r) (o:Opd) (A:Option Addr) (c:Nat) (hp:Slc 2 RPj w A c o.place.proj) (ho:opE b o=0) (f:Int) (h0:0<=f) (hf:f<b.types.length):
 Calls Tryz.prog 156 #[.agg (ckC b bh r).toArray,.agg (opC o A c).toArray,.int .i64 f] w fun e' w'=>e' = .returned (.bool (fitsO b o f))/\Below w.heap.size w w':=by
 obtain ⟨f,rfl⟩:=bI h0;exact xAE b bh r o f A c w H.at_ hp H.ok.okay (xBJ ho) (by omega) (fun W hb i _ _=>xCC b bh.A3 bh.c3 r i f W (H.keep hb).at_.typ H.ok (H.keep hb).rel)
end
section
open Go Go.RowKit Go.Maps
theorem vI (b:Bdy) (fs:List Int):opsE b [] fs=0:=by rw [opsE]
theorem rN {b:Bdy} {o:Opd} (h:opE b o≠0) (r:List Opd) (fs:List Int):opsE b (o :: r) fs=opE b o:=by
 cases fs <;> (rw [opsE,bB h])
theorem oS {b:Bdy} {o:Opd} (h:opE b o=0) (r:List Opd):opsE b (o :: r) []=opsE b r []:=by rw [opsE,bD h]
theorem vH {b:Bdy} {o:Opd} (h:opE b o=0) (r:List Opd) (f:Int) (fs:List Int):opsE b (o :: r) (f :: fs)=if fitsO b o f=true then opsE b r fs else 22:=by rw [opsE,bD h]
theorem keepO {w W:World} {o:Obj} {p:Addr} {v:Value} (hb:Below (w.alloc o).heap.size (w.alloc o) W) (h:w.cell? p=some v):W.cell? p=some v:=
 cQ hb (((((aZ w.heap.size w).alloc (bA _) o).cell (p:=p) (cF w p h))).trans h)
theorem eT {W w1:World} {n:Nat} {l:List Value} {o:Obj} (h:∀i v,l[i]?=some v->W.cell? ⟨n,i,none⟩=some v) (hb:Below (W.alloc o).heap.size (W.alloc o) w1):∀i v,l[i]?=some v->w1.cell? ⟨n,i,none⟩=some v:=
 fun i v hi=>keepO hb (h i v hi)
theorem eZ {b:Bdy} {bh:BH} {r:Nat} {w:World} (H:Ck w b bh r) (l:List Opd) (fs:List Int) (A C:Option Addr) (d f:Nat) (hl:Slc 4 ROp w A d l) (hf:Slc 1 RInt w C f fs) (hfr:∀x∈fs,0<=x/\x<(b.types.length:Int)):
 Calls Tryz.prog 124 #[.agg (ckC b bh r).toArray,.slice A l.length d,.slice C fs.length f] w fun e' w'=>e' = .returned (.int .i64 (opsE b l fs))/\Below w.heap.size w w':=by
 have hle:=hl.le;have hbig:=hl.big;have hle2:=hf.le;have hbig2:=hf.big;have HO:=aH (fun (W:World) (hb:Below w.heap.size w W) (o:Opd) (A:Option Addr) (c:Nat) (hp:Slc 2 RPj w A c o.place.proj)=>oU (H.keep hb) o A c (hp.keep RPj.keeps hb));have HFT:=aH (fun (W:World) (hb:Below w.heap.size w W) (o:Opd) (A:Option Addr) (c:Nat) (hp:Slc 2 RPj w A c o.place.proj) (ho:opE b o=0) (f:Int) (h0:0<=f) (hf:f<b.types.length)=>xEY (H.keep hb) o A c (hp.keep RPj.keeps hb) ho f h0 hf);have HL:=aH hl;have HFS:=aH hf;obtain ⟨R,hR⟩:∃R,opsE b l fs=R:=⟨_,rfl⟩;rw [hR];have HR:=aH hR;have HX0:=aH (cT w (ckC b bh r) 134);clear hR hl hf H;unfold ckC at HO HFT HX0 ⊢;go_enter Tryz.func124,Tryz.ntmps124
 go_wp2_with fail
 go_loopw [12] (fun v wr=>∃k:Nat,k<=l.length/\v = .int .i64 k/\Hid (aD (bdH b bh [.pointer (some ⟨r,0,none⟩)]) wr w.heap.size)/\Hid (Below w.heap.size w wr)/\w.heap.size+1<=wr.heap.size/\Hid (R=opsE b (l.drop k) (fs.drop k))) (fun v _=>l.length - (intOf v).toNat)
 case atStart=>exact ⟨0,by omega,rfl,HX0,aH ((aZ _ _).alloc (bA _) _),by simp,aH HR.out.symm⟩
 case round=>
  clear HX0;obtain ⟨k,hk,rfl,HX,HB,hsz,hr⟩:=hrel;have hlw:w.heap.size<wr.heap.size:=hsz;obtain ⟨x0,x1,x2,x3,x4,x5,x6,x7⟩:=aV HX.out;by_cases hlt:k<l.length
  ·have hd:=dA hlt;obtain ⟨bb,oo,rfl,hbb,hx⟩:=HL.out.sl.at_ hlt;obtain ⟨o,hxx⟩:∃o,l[k]=o:=⟨_,rfl⟩;rw [hxx] at hd hx;obtain ⟨p0,⟨p1,A2,c2,p2,hc1,hc2,hsl⟩,p3⟩:=hx;have HPJ:Hid (Slc 2 RPj w A2 c2 o.place.proj):=aH ⟨hsl,hc1,hc2⟩;replace p0:=cQ HB.out p0;replace p1:=cQ HB.out p1;replace p2:=cQ HB.out p2;replace p3:=cQ HB.out p3;rw [Nat.add_assoc (oo+k * 4) 1 1] at p2;have HOK:=aH (fun W hb=>HO.out W hb o A2 c2 HPJ.out);have HQ:Hid (R=opsE b (o :: l.drop (k+1)) (fs.drop k)):=aH (by rw [hr.out,hd]);clear hd hxx hsl hc1 hc2 hr;unfold opC at HOK;by_cases he:opE b o=0
   ·have HE:=aH he;rw [he] at HOK;have HBA:=aH (HB.out.alloc (by omega) (.cells (opC o A2 c2).toArray 121));by_cases hkf:k<fs.length
    ·obtain ⟨b3,o3,rfl,hb3,hy⟩:=HFS.out.sl.at_ hkf;have hyr:=hfr fs[k] (bO hkf);obtain ⟨y,hyy⟩:∃y,fs[k]=y:=⟨_,rfl⟩;have hd2:=dA hkf;rw [hyy] at hy hyr hd2;have y0:w.cell? ⟨b3,o3+k,none⟩=some (.int .i64 y):=(by simpa [RInt] using hy);have HY0:=aH y0;have HQ2:Hid (R=if fitsO b o y=true then opsE b (l.drop (k+1)) (fs.drop (k+1)) else 22):=aH (by rw [HQ.out,hd2,vH he]);have HFK:=aH (fun W hb=>HFT.out W hb o A2 c2 HPJ.out he y hyr.1 hyr.2);unfold opC at HFK;have ek:decide ((k:Int)<(fs.length:Int))=true:=by simp;omega
     have EK:=aH ek;clear hy hyy hyr hd2 he HQ y0 ek;generalize fitsO b o y=q at HFK HQ2;go_wp2_with (go_at_call 121;refine (HOK.out _ HBA.out).mono ?_;rintro e' w1 ⟨rfl,hb1⟩;have HB1:=aH hb1;have HW1:=aH (HBA.out.trans (hb1.mono HBA.out.size));clear hb1)
     have hS:=bM (eT HX.out HB1.out) (bM (cV (cT wr (opC o A2 c2) 121) HB1.out) (cQ HW1.out HY0.out));replace hS:(aD (bdH b bh [.pointer (some ⟨r,0,none⟩)]) w1.drew w.heap.size)/\(aD (opC o A2 c2) w1.drew wr.heap.size)/\w1.drew.cell? ⟨b3,o3+k,none⟩=some (.int .i64 y):=hS;clear x0 x1 x2 x3 x4 x5 x6 x7 p0 p1 p2 p3;refine cZ (S:=fun X=>(aD (bdH b bh [.pointer (some ⟨r,0,none⟩)]) X w.heap.size)/\(aD (opC o A2 c2) X wr.heap.size)/\X.cell? ⟨b3,o3+k,none⟩=some (.int .i64 y)) [0,1,2,3,4,5,6,7,8,9,10,11,12,13] (by kernel_rfl) ?_;(iterate 4 (refine cY (v:=?_) ?_ hS ?_;rotate_left;(next=>(rintro X -;(try simp only [aK]);go_simp;rfl));simp only [aO]));try rw [EK.out]
     (iterate 7 (refine cY (v:=?_) ?_ hS ?_;rotate_left;(next=>(rintro X ⟨hX,hY,s8⟩;obtain ⟨s0,s1,s2,s3,s4,s5,s6,s7⟩:=aV hX;obtain ⟨u0,u1,u2,u3⟩:=aR hY;(try simp only [aK]);go_simp;rfl));simp only [aO]));(refine cX (fun K1 hK1=>?_);simp only [aO];rw [bD (by rfl)];go_simp);refine (HFK.out _ HW1.out.drew).mono ?_;rintro e' w2 ⟨rfl,hb⟩;replace hS:=bM (fun i v hi=>cQ hb (hS.1 i v hi)) (bM (fun i v hi=>cQ hb (hS.2.1 i v hi)) (cQ hb hS.2.2));have HW2:=aH (HW1.out.drew.trans (hb.mono HW1.out.size));have hsz2:=HW1.out.size;have hsz3:=hb.size;have hsz4:=HB1.out.size;simp only [bK] at hsz4;clear hb;refine hK1.out _ _ (fun _=>hS) ?_;(iterate 2 (refine cY (v:=?_) ?_ hS ?_;rotate_left;(next=>(rintro X -;(try simp only [aK]);go_simp;rfl));simp only [aO]));refine dI ?_;cases q
     ·have HF:Hid (R=22):=HQ2;clear HQ2;go_wp2_with fail
      go_ret;exact ⟨by rw [HF.out];rfl,HW2.out⟩
     ·have HF:Hid (R=opsE b (l.drop (k+1)) (fs.drop (k+1))):=HQ2;have HX2:=aH hS.1;clear HQ2 hS;go_wp2_with fail
      go_roundw
      case rel=>exact ⟨k+1,by omega,by go_num,HX2,HW2,by have:w1.drew.heap.size=w1.heap.size:=rfl;omega,HF⟩
      case measure=>simp [intOf];omega
    ·have ek:decide ((k:Int)<(fs.length:Int))=false:=by simp;omega
     have EK:=aH ek;have HF:Hid (R=opsE b (l.drop (k+1)) (fs.drop (k+1))):=aH (by rw [HQ.out,bG (by omega:fs.length<=k),bG (by omega:fs.length<=k+1),oS he]);clear he HQ ek;go_wp2_with (go_at_call 121;refine (HOK.out _ HBA.out).mono ?_;rintro e' w1 ⟨rfl,hb1⟩;have HB1:=aH hb1;have HW1:=aH (HBA.out.trans (hb1.mono HBA.out.size));clear hb1)
     have hS:True:=trivial;have HX2:=aH (eT HX.out HB1.out);have hsz4:=HB1.out.size;simp only [bK] at hsz4;clear x0 x1 x2 x3 x4 x5 x6 x7 p0 p1 p2 p3;refine cZ (S:=fun _=>True) [0,1,2,3,4,5,6,7,8,9,10,11,12,13] (by kernel_rfl) ?_;(iterate 4 (refine cY (v:=?_) ?_ hS ?_;rotate_left;(next=>(rintro X -;(try simp only [aK]);go_simp;rfl));simp only [aO]));try rw [EK.out]
     ((refine cY (v:=?_) ?_ hS ?_;rotate_left;(next=>(rintro X -;(try simp only [aK]);go_simp;rfl));simp only [aO]))
     (iterate 8 (refine nA (v:=undef) (by kernel_rfl) (fun _ _ _ h=>h) (Or.inr ⟨by rfl,rfl⟩) hS ?_;simp only [aO]));((refine cY (v:=?_) ?_ hS ?_;rotate_left;(next=>(rintro X -;(try simp only [aK]);go_simp;rfl));simp only [aO]))
     refine dI ?_;go_wp2_with fail
     go_roundw
     case rel=>exact ⟨k+1,by omega,by go_num,HX2,aH HW1.out.drew,by have:w1.drew.heap.size=w1.heap.size:=rfl;omega,HF⟩
     case measure=>simp [intOf];omega
   ·have HF:Hid (R=opE b o):=aH (by rw [HQ.out,rN he]);generalize opE b o=eo at HOK HF he;have e1:(eo != 0)=true:=by simp [he]
    have HBA:=aH (HB.out.alloc (by omega) (.cells (opC o A2 c2).toArray 121));clear he HQ;go_wp2_with (go_at_call 121;refine (HOK.out _ HBA.out).mono ?_;rintro e' w1 ⟨rfl,hb1⟩;have HW1:=aH (HBA.out.trans (hb1.mono HBA.out.size));clear hb1)
    go_ret;exact ⟨by rw [HF.out];rfl,HW1.out⟩
  ·have HF:Hid (R=0):=aH (by rw [hr.out,bG (by omega:l.length<=k),vI]);clear hr;go_wp2_with fail
   go_ret;exact ⟨by rw [HF.out];rfl,HB.out⟩
theorem rO {b:Bdy}:∀{l:List Opd},opsE b l []=0->∀o∈l,opE b o=0
 | [],_=>by simp
 | o :: r,h=>by
   by_cases he:opE b o=0
   ·rw [oS he] at h;intro x hx;rcases List.mem_cons.1 hx with rfl | hx
    ·exact he
    ·exact rO h x hx
   ·rw [rN he] at h;exact absurd h he
theorem tO (w:World) (x y:Value) (t:TypeId) (k:Nat) (hk:k=w.heap.size):(w.alloc (.cells #[x,y] t)).cell? ⟨k,0,none⟩=some x/\(w.alloc (.cells #[x,y] t)).cell? ⟨k,1,none⟩=some y:=by
 subst hk;exact ⟨cT w [x,y] t 0 _ rfl,cT w [x,y] t 1 _ rfl⟩
theorem nK {b:Bdy} {bh:BH} {r:Nat} {w:World} (H:Ck w b bh r) (rv:Rvl) (t:Nat) (ht:t<b.types.length) (tab:List (Int × Int)) (A B T:Option Addr) (c d tc:Nat) (hl:Slc 4 ROp w B d rv.args) (hT:Slc 2 RPr w T tc tab):
 Calls Tryz.prog 153 #[.agg (ckC b bh r).toArray,.agg (rvC rv A c B d).toArray,.int .i64 t,.slice T tab.length tc] w fun e' w'=>e' = .returned (.int .i64 (operE b rv t tab))/\Below w.heap.size w w':=by
 have hle:=hl.le;have hbig:=hl.big;have hle2:=hT.le;have hbig2:=hT.big;have HP:=aH (fun (W:World) (hb:Below w.heap.size w W)=>eZ (H.keep hb) rv.args [] B none d 0 (hl.keep ROp.keeps hb) ⟨Sl.nil,by simp,by omega⟩ (by simp));have HK:=aH (fun (W:World) (hb:Below w.heap.size w W) (o:Opd) (A:Option Addr) (c:Nat) (hp:Slc 2 RPj w A c o.place.proj) (ho:opE b o=0)=>rY (H.keep hb) o A c (hp.keep RPj.keeps hb) ho);have HL:=aH hl;have HTB:=aH hT;have HTY:=aH H.at_.typ;obtain ⟨R,hR⟩:∃R,operE b rv t tab=R:=⟨_,rfl⟩;rw [hR];have HR:=aH hR;clear hR hl hT H;unfold operE at HR;unfold ckC at HP HK ⊢;unfold rvC;by_cases h0:rv.op<0\/(tab.length:Int)<=rv.op
 ·have HF:Hid (R=14):=aH (by rw [<- HR.out,bD h0]);clear HR HP HK;go_enter Tryz.func153,Tryz.ntmps153
  go_wp2_with fail
  all_goals first
   | (exfalso;omega)
   | (go_ret;exact ⟨by rw [HF.out];rfl,aJ⟩)
 have h1:¬rv.op<0:=by omega
 have h2:¬(tab.length:Int)<=rv.op:=by omega
 obtain ⟨n,hn⟩:=bI (show 0<=rv.op by omega);have hnl:n<tab.length:=by omega
 by_cases he:opsE b rv.args []=0
 case neg=>
  have HF:Hid (R=opsE b rv.args []):=aH (by rw [<- HR.out,bB h0,bD he]);generalize opsE b rv.args []=eo at HP HF he;have e1:(eo != 0)=true:=by simp [he]
  clear HR HK he h0;go_enter Tryz.func153,Tryz.ntmps153
  go_wp2_with (go_at_call 124;refine (HP.out _ (bel2 _ _ _)).mono ?_;rintro e' w1 ⟨rfl,hb1⟩;have HB:=aH ((bel2 _ _ _).trans (hb1.mono (bel2 _ _ _).size));clear hb1)
  go_ret;exact ⟨by rw [HF.out];rfl,HB.out⟩
 case pos=>
 obtain ⟨bt,ot,rfl,hbt,hxt⟩:=HTB.out.sl.at_ hnl;obtain ⟨bb,oo,hA3,hbb,hxx⟩:=HTY.out.sl.at_ ht;obtain ⟨ty,hty⟩:∃ty,b.types[t]=ty:=⟨_,rfl⟩;obtain ⟨x,hx⟩:∃x,tab[n]=x:=⟨_,rfl⟩;rw [hty] at hxx;rw [hx] at hxt;obtain ⟨q0,-⟩:=hxx;obtain ⟨u0,u1⟩:=hxt;have HE:=aH (rO he);have hkt:kindT b (t:Int)=ty.kind:=by unfold kindT;simp [ht,hty]
 have HF:Hid (R=if rv.args.all (fun o=>decide (kindO b o=x.1))=true then fail22 (decide (ty.kind≠x.2)) else 22):=aH (by
  rw [<- HR.out,bB h0,bB (by simpa using he),hn];simp only [bX];rw [bF hnl,hx]
  simp only [hkt])
 rw [he] at HP;have Q0:=aH q0;clear HR h0 he hx hty hkt;obtain ⟨x1,x2⟩:=x;simp only at u0 u1 HF;rw [hA3] at HP HK ⊢;rw [hn];rw [hn] at h1 h2;go_enter Tryz.func153,Tryz.ntmps153
 go_wp2_with (go_at_call 124;refine (HP.out _ (bel2 _ _ _)).mono ?_;rintro e' w1 ⟨rfl,hb1⟩;have HB:=aH ((bel2 _ _ _).trans (hb1.mono (bel2 _ _ _).size));obtain ⟨y,z⟩:=dD hb1;have HY:=aH y;have HZ:=aH z;have y3:=y 3 _ rfl;obtain ⟨-,z1,-,-,-,-,z5⟩:=aU z;have v0:=cQ HB.out u0;have v1:=cQ HB.out u1;have hlw:=hb1.size;simp only [bK] at hlw;have hlw1:w.heap.size+1<w1.heap.size:=hlw;have hlw0:w.heap.size<w1.heap.size:=cE hlw;clear y z hb1)
 have HXC:=aH (tO w1 (.int .i64 x1) (.int .i64 x2) 231 _ rfl);have HY1:Hid (∀i v,[Value.string b.name,.slice bh.A1 b.regions.length bh.c1,.slice bh.A2 b.outl.length bh.c2,.slice (some ⟨bb,oo,none⟩) b.types.length bh.c3,.slice bh.A4 b.locals.length bh.c4,.int .i64 b.args,.slice bh.A5 b.blocks.length bh.c5,.pointer (some ⟨r,0,none⟩)][i]?=some v->(w1.alloc (.cells #[.int .i64 x1,.int .i64 x2] 231)).cell? ⟨w.heap.size,i,none⟩=some v):=aH (fun i v hi=>cQ ((aZ _ _).alloc (bA _) _) (HY.out i v hi));have HBL:=aH (HB.out.alloc HB.out.size (.cells #[.int .i64 x1,.int .i64 x2] 231));clear HY HZ;go_loopw [38] (fun v wr=>∃k:Nat,k<=rv.args.length/\v = .int .i64 k/\Hid (aD (bdM b bh.A1 bh.c1 bh.A2 bh.c2 (some ⟨bb,oo,none⟩) bh.c3 bh.A4 bh.c4 bh.A5 bh.c5 [.pointer (some ⟨r,0,none⟩)]) wr w.heap.size)/\Hid (wr.cell? ⟨w1.heap.size,0,none⟩=some (.int .i64 x1)/\wr.cell? ⟨w1.heap.size,1,none⟩=some (.int .i64 x2))/\Hid (Below w.heap.size w wr)/\w1.heap.size+1<=wr.heap.size/\Hid (R=if (rv.args.drop k).all (fun o=>decide (kindO b o=x1))=true then fail22 (decide (ty.kind≠x2)) else 22)) (fun v _=>rv.args.length - (intOf v).toNat)
 case atStart=>exact ⟨0,by omega,rfl,HY1,HXC,HBL,by simp,HF⟩
 case round=>
  clear HY1 HXC HBL HF;obtain ⟨k,hk,rfl,HX,HXC,HBR,hsz,hr⟩:=hrel;by_cases hlt:k<rv.args.length
  ·have hd:=dA hlt;obtain ⟨b5,o5,rfl,hb5,hx⟩:=HL.out.sl.at_ hlt;have he:=HE.out _ (bO hlt);obtain ⟨o,hxx⟩:∃o,rv.args[k]=o:=⟨_,rfl⟩;rw [hxx] at hd hx he;obtain ⟨p0,⟨p1,A2,c2,p2,hc1,hc2,hsl⟩,p3⟩:=hx;have HPJ:Hid (Slc 2 RPj w A2 c2 o.place.proj):=aH ⟨hsl,hc1,hc2⟩;replace p0:=cQ HBR.out p0;replace p1:=cQ HBR.out p1;replace p2:=cQ HBR.out p2;replace p3:=cQ HBR.out p3;rw [Nat.add_assoc (o5+k * 4) 1 1] at p2;have HKK:=aH (fun W hb=>HK.out W hb o A2 c2 HPJ.out he);have HQ:Hid (R=if kindO b o=x1 then (if (rv.args.drop (k+1)).all (fun o=>decide (kindO b o=x1))=true then fail22 (decide (ty.kind≠x2)) else 22) else 22):=aH (by rw [hr.out,hd,cD];by_cases h:kindO b o=x1 <;> simp [h]);clear hd hxx hsl hc1 hc2 hr he;unfold opC at HKK;generalize kindO b o=ko at HKK HQ;have HBA:=aH ((HBR.out.alloc HBR.out.size (.cells (opC o A2 c2).toArray 121)).drew);have HQ2:Hid ((ko=x1->R=(if (rv.args.drop (k+1)).all (fun o=>decide (kindO b o=x1))=true then fail22 (decide (ty.kind≠x2)) else 22))/\(ko≠x1->R=22)):=aH ⟨fun h=>by rw [HQ.out,bD h],fun h=>by rw [HQ.out,bB h]⟩;clear HQ;go_wp2_with fail
   have hS:(∀i v,[Value.string b.name,.slice bh.A1 b.regions.length bh.c1,.slice bh.A2 b.outl.length bh.c2,.slice (some ⟨bb,oo,none⟩) b.types.length bh.c3,.slice bh.A4 b.locals.length bh.c4,.int .i64 b.args,.slice bh.A5 b.blocks.length bh.c5,.pointer (some ⟨r,0,none⟩)][i]?=some v->(wr.alloc (.cells (opC o A2 c2).toArray 121)).drew.cell? ⟨w.heap.size,i,none⟩=some v)/\(∀i v,(opC o A2 c2)[i]?=some v->(wr.alloc (.cells (opC o A2 c2).toArray 121)).drew.cell? ⟨wr.heap.size,i,none⟩=some v)/\(wr.alloc (.cells (opC o A2 c2).toArray 121)).drew.cell? ⟨w1.heap.size,0,none⟩=some (.int .i64 x1)/\(wr.alloc (.cells (opC o A2 c2).toArray 121)).drew.cell? ⟨w1.heap.size,1,none⟩=some (.int .i64 x2):=
    ⟨fun i v hi=>cQ (((aZ _ _).alloc (bA _) _).drew) (HX.out i v hi),cT wr (opC o A2 c2) 121,cQ (((aZ _ _).alloc (bA _) _).drew) HXC.out.1,cQ (((aZ _ _).alloc (bA _) _).drew) HXC.out.2⟩
   clear p0 p1 p2 p3;refine cZ (S:=fun X=>(aD (bdM b bh.A1 bh.c1 bh.A2 bh.c2 (some ⟨bb,oo,none⟩) bh.c3 bh.A4 bh.c4 bh.A5 bh.c5 [.pointer (some ⟨r,0,none⟩)]) X w.heap.size)/\(aD (opC o A2 c2) X wr.heap.size)/\X.cell? ⟨w1.heap.size,0,none⟩=some (.int .i64 x1)/\X.cell? ⟨w1.heap.size,1,none⟩=some (.int .i64 x2)) [0,1,3,4,2,5] (by kernel_rfl) ?_;(iterate 4 (refine cY (v:=?_) ?_ hS ?_;rotate_left;(next=>(rintro X ⟨hX,hY,s8,s9⟩;obtain ⟨s0,s1,s2,s3,s4,s5,s6,s7⟩:=aV hX;obtain ⟨u0,u1,u2,u3⟩:=aR hY;(try simp only [aK]);go_simp;rfl));simp only [aO]));(refine cX (fun K1 hK1=>?_);simp only [aO];rw [bD (by rfl)];go_simp);refine (HKK.out _ HBA.out).mono ?_;rintro e' w2 ⟨rfl,hb⟩;replace hS:=bM (fun i v hi=>cQ hb (hS.1 i v hi)) (bM (fun i v hi=>cQ hb (hS.2.1 i v hi)) (bM (cQ hb hS.2.2.1) (cQ hb hS.2.2.2)));have HW2:=aH (HBA.out.trans (hb.mono HBA.out.size));have hsz3:=hb.size;have hsz4:wr.heap.size+1<=w2.heap.size:=by simpa using hsz3
   clear hb hsz3;refine hK1.out _ _ (fun _=>hS) ?_;clear hK1;have HX2:=aH hS.1;have HXC2:=aH hS.2.2;((refine cY (v:=?_) ?_ hS ?_;rotate_left;(next=>(rintro X -;(try simp only [aK]);go_simp;rfl));simp only [aO]))
   refine dI ?_;clear hS;by_cases hkx:ko=x1
   ·have e1:(ko != x1)=false:=by simp [hkx]
    have HF:=aH (HQ2.out.1 hkx);clear HQ2 hkx;go_wp2_with fail
    go_roundw
    case rel=>exact ⟨k+1,by omega,by go_num,HX2,HXC2,HW2,by omega,HF⟩
    case measure=>simp [intOf];omega
   ·have e1:(ko != x1)=true:=by simp [hkx]
    have HF:=aH (HQ2.out.2 hkx);clear HQ2 hkx;go_wp2_with fail
    go_ret;exact ⟨by rw [HF.out];rfl,HW2.out⟩
  ·have HF:Hid (R=fail22 (decide (ty.kind≠x2))):=aH (by rw [hr.out,bG (by omega:rv.args.length<=k)];rfl);clear hr;go_wp2_with fail
   have hS:=bM HX.out (bM HXC.out (cQ HBR.out Q0.out));refine cZ (S:=fun X=>(aD (bdM b bh.A1 bh.c1 bh.A2 bh.c2 (some ⟨bb,oo,none⟩) bh.c3 bh.A4 bh.c4 bh.A5 bh.c5 [.pointer (some ⟨r,0,none⟩)]) X w.heap.size)/\(X.cell? ⟨w1.heap.size,0,none⟩=some (.int .i64 x1)/\X.cell? ⟨w1.heap.size,1,none⟩=some (.int .i64 x2))/\X.cell? ⟨bb,oo+t * 5,none⟩=some (.int .i64 ty.kind)) [0,1,2,3,4,5,6,7,8,9,10,11] (by kernel_rfl) ?_;(iterate 10 (refine cY (v:=?_) ?_ hS ?_;rotate_left;(next=>(rintro X ⟨hX,⟨s8,s9⟩,sT⟩;have s3:=hX 3 _ rfl;(try simp only [aK]);go_simp;rfl));simp only [aO]));(refine cX (fun K1 hK1=>?_);simp only [aO];rw [bD (by rfl)];go_simp);refine (dX _ _).mono ?_;rintro e' w3 ⟨rfl,hw⟩;obtain rfl:=hw.symm;refine hK1.out _ _ (fun _=>hS) ?_;((refine cY (v:=?_) ?_ hS ?_;rotate_left;(next=>(rintro X -;(try simp only [aK]);go_simp;rfl));simp only [aO]))
   refine dI ?_;go_wp2_with fail
   go_ret;exact ⟨by rw [HF.out];show Ending.returned (.int .i64 (fail22 (ty.kind != x2)))=_;have e:(ty.kind != x2)=decide (ty.kind≠x2):=(by rw [bS];simp);rw [e],HBR.out.drew⟩
theorem xAW {R te ti rg nr:Int} {ty:Ty} {mu mb al:Bool} (HR:R=if te≠0 then te else if rg<0\/nr<=rg then 3 else if ty.kind≠3\/ty.reg≠rg\/ty.mu≠mu\/ty.elem≠ti then 22 else if mu=true/\mb=false then 22 else if al=true then 0 else 22):
 (te≠0/\R=te)\/(te=0/\((rg<0\/nr<=rg)/\R=3\/¬rg<0/\¬nr<=rg/\(((ty.kind != 3)=true\/(ty.kind != 3)=false/\((ty.reg != rg)=true\/(ty.reg != rg)=false/\((ty.mu != mu)=true\/(ty.mu != mu)=false/\(ty.elem != ti)=true)))/\R=22\/((ty.kind != 3)=false/\(ty.reg != rg)=false/\(ty.mu != mu)=false/\(ty.elem != ti)=false)/\(mu=true/\mb=false/\R=22\/(mu=false\/mu=true/\mb=true)/\R=if al=true then 0 else 22)))):=by
 rw [HR];by_cases he:te=0
 ·subst he;refine .inr ⟨rfl,?_⟩;rw [bB (fun h=>h rfl)];by_cases h0:rg<0\/nr<=rg
  ·exact .inl ⟨h0,bD h0⟩
  ·refine .inr ⟨fun h=>h0 (.inl h),fun h=>h0 (.inr h),?_⟩;rw [bB h0];simp only [<- bne_iff_ne];generalize (ty.kind != 3)=p1;generalize (ty.reg != rg)=p2;generalize (ty.mu != mu)=p3;generalize (ty.elem != ti)=p4;cases p1 <;> cases p2 <;> cases p3 <;> cases p4 <;> cases mu <;> cases mb <;> simp
 ·exact .inl ⟨he,bD he⟩
theorem tD {b:Bdy} {bh:BH} {r:Nat} {w:World} (H:Ck w b bh r) (rv:Rvl) (t:Nat) (ht:t<b.types.length) (A B:Option Addr) (c d:Nat) (hp:Slc 2 RPj w A c rv.place.proj):
 Calls Tryz.prog 152 #[.agg (ckC b bh r).toArray,.agg (rvC rv A c B d).toArray,.int .i64 t] w fun e' w'=>e' = .returned (.int .i64 (borE b rv t))/\Below w.heap.size w w':=by
 have HT:=aH (fun W (hb:Below w.heap.size w W)=>eI b bh r rv.place A c W (H.keep hb).at_ (hp.keep RPj.keeps hb) H.ok.okay);have HM:=aH (fun W (hb:Below w.heap.size w W)=>lN b.types b.locals rv.place.loc rv.place.proj bh.A3 bh.A4 A bh.c3 bh.c4 c W (H.keep hb).at_.typ (H.keep hb).at_.loc (hp.keep RPj.keeps hb) H.ok.okay);have HG:=aH (fun W (hb:Below w.heap.size w W)=>pT b.types b.locals rv.place.loc rv.place.proj bh.A3 bh.A4 A bh.c3 bh.c4 c W (H.keep hb).at_.typ (H.keep hb).at_.loc (hp.keep RPj.keeps hb) H.ok.okay);have HO:=aH (fun W (hb:Below w.heap.size w W) (x:Int)=>kC b.outl b.regions.length x rv.reg r W (H.keep hb).rel H.ok.pairs (by have:=H.ok.nreg;omega) H.ok.nout);change Hid (∀W,Below w.heap.size w W->Calls Tryz.prog 150 _ W fun e' w'=>e' = .returned (.bool (mutB b rv.place))/\Below W.heap.size W w') at HM;have hbl:=H.at_.reg.le;have hbg:=H.at_.reg.big;obtain ⟨bb,oo,hA3,hbb,hxx⟩:=H.at_.typ.sl.at_ ht;have hle3:=H.at_.typ.le;have hbig3:=H.at_.typ.big;obtain ⟨ty,hty⟩:∃ty,b.types[t]=ty:=⟨_,rfl⟩;rw [hty] at hxx;obtain ⟨q0,q1,q2,q3,A5,c5,q4,-,-,-⟩:=hxx;obtain ⟨R,hR⟩:∃R,borE b rv t=R:=⟨_,rfl⟩;rw [hR]
 have HR:Hid (R=if (tyB b rv.place).2≠0 then (tyB b rv.place).2 else if rv.reg<0\/(b.regions.length:Int)<=rv.reg then 3 else if ty.kind≠3\/ty.reg≠rv.reg\/ty.mu≠rv.mu\/ty.elem≠(tyB b rv.place).1 then 22 else if rv.mu=true/\mutB b rv.place=false then 22 else if ((refsOf b.types b.locals rv.place.loc rv.place.proj).1.map (·.reg)).all (fun x=>outB b.outl b.regions.length x rv.reg)=true then 0 else 22):=aH (by
  rw [<- hR,borE];simp only [bX];rw [bF ht,hty,List.all_map]
  rfl)
 have HLN:Hid (((refsOf b.types b.locals rv.place.loc rv.place.proj).1.map (·.reg)).length=(refsOf b.types b.locals rv.place.loc rv.place.proj).1.length):=aH (cH _);generalize (refsOf b.types b.locals rv.place.loc rv.place.proj).1.length=nl at HLN HG;generalize (refsOf b.types b.locals rv.place.loc rv.place.proj).1.map (·.reg)=rs at HG HR HLN;generalize tyB b rv.place=q at HT HR;generalize mutB b rv.place=mb at HM HR;obtain ⟨ti,te⟩:=q;simp only at HR HT;clear hR hty H hp;unfold ckC at HT ⊢;unfold rvC;rw [hA3] at HT HM HG ⊢;have key:=xAW HR.out;clear HR;obtain ⟨mu,hmu⟩:∃mu,rv.mu=mu:=⟨_,rfl⟩;rw [hmu] at key ⊢;clear hmu;rcases key with ⟨he,hr⟩ | ⟨rfl,⟨h0 | h0,hr⟩ | ⟨h1,h2,⟨p1 | ⟨p1,p2 | ⟨p2,p3 | ⟨p3,p4⟩⟩⟩,hr⟩ | ⟨⟨p1,p2,p3,p4⟩,⟨rfl,rfl,hr⟩ | ⟨rfl | ⟨rfl,rfl⟩,hr⟩⟩⟩⟩
 rotate_left
 all_goals
  have HF:=aH hr;clear hr;try (have e1:(te != 0)=true:=by simp [he];clear he)
  go_enter Tryz.func152,Tryz.ntmps152
  go_wp2_with (first | (go_at_call 125;refine (HT.out _ (bel2 _ _ _)).mono ?_;rintro e' w1 ⟨rfl,hb1⟩;have HB:=aH ((bel2 _ _ _).trans (hb1.mono (bel2 _ _ _).size));obtain ⟨y,z⟩:=dD hb1;have HY:=aH y;have HZ:=aH z;obtain ⟨y0,y1,y2,y3,y4,y5,y6,y7⟩:=aV HY.out;obtain ⟨z0,z1,z2,z3,z4,z5,z6⟩:=aU HZ.out;have v0:=cQ HB.out q0;have v1:=cQ HB.out q1;have v2:=cQ HB.out q2;have v3:=cQ HB.out q3;have v4:=cQ HB.out q4;have hlw:=hb1.size;simp only [bK] at hlw;have hlw1:w.heap.size+1<w1.heap.size:=hlw;have hlw0:w.heap.size<w1.heap.size:=cE hlw;clear y z hb1) | (go_at_call 150;refine (HM.out _ (HB.out.alloc HB.out.size _)).mono ?_;rintro e' w2 ⟨rfl,hb2⟩;have HB2:=aH ((HB.out.alloc HB.out.size _).trans (hb2.mono (HB.out.alloc HB.out.size _).size));replace HY:=aH (eT HY.out hb2);replace HZ:=aH (eT HZ.out hb2);obtain ⟨y0,y1,y2,y3,y4,y5,y6,y7⟩:=aV HY.out;obtain ⟨z0,z1,z2,z3,z4,z5,z6⟩:=aU HZ.out;have hsz2:=hb2.size;simp only [bK] at hsz2;clear hb2) | (go_at_call 183;refine (HG.out _ HB2.out).mono ?_;rintro e' w3 ⟨A8,c8,rfl,hs8,hb4⟩;have HB3:=aH (HB2.out.trans (hb4.mono HB2.out.size));have HC3:=aH (fun X (hb:Below w3.heap.size w3 X)=>bM (cQ hb (cQ hb4 y7)) (cQ hb (cQ hb4 z2)));have HS8:=aH hs8;have hs8l:=hs8.le;have hs8b:=hs8.big;clear hb4 hs8) | (go_at_call 183;refine (HG.out _ (HB.out.alloc HB.out.size _)).mono ?_;rintro e' w3 ⟨A8,c8,rfl,hs8,hb3⟩;have hb4:=((aZ w1.heap.size w1).alloc (bA _) _).trans (hb3.mono (by simp));have HB3:=aH (HB.out.trans (hb4.mono HB.out.size));clear hb3;have HC3:=aH (fun X (hb:Below w3.heap.size w3 X)=>bM (cQ hb (cQ hb4 y7)) (cQ hb (cQ hb4 z2)));have HS8:=aH hs8;have hs8l:=hs8.le;have hs8b:=hs8.big;clear hb4 hs8))
  all_goals first
   | (exfalso;omega)
   | (go_ret;exact ⟨by rw [HF.out];rfl,by first | exact HB2.out | exact HB.out | exact HB.out.alloc HB.out.size _⟩)
   | (exfalso;simp_all;done)
   | skip
 all_goals
  rw [HLN.out] at hs8l;go_loopw [91] (fun v wr=>∃k:Nat,k<=nl/\v = .int .i64 k/\Hid (Below w3.heap.size w3 wr)/\Hid (R=if (rs.drop k).all (fun x=>outB b.outl b.regions.length x rv.reg)=true then 0 else 22)) (fun v _=>nl - (intOf v).toNat)
  case atStart=>exact ⟨0,by omega,rfl,aH (aZ _ _),HF⟩
  case round=>
   clear HF;obtain ⟨k,hk,rfl,HB9,hr⟩:=hrel;have HBR:=aH (HB3.out.trans (HB9.out.mono HB3.out.size));obtain ⟨y7,z2⟩:=HC3.out wr HB9.out;by_cases hlt:k<nl
   ·have hlt2:k<rs.length:=by rw [HLN.out];exact hlt
    have hd:=dA hlt2;obtain ⟨b8,o8,rfl,hb8,hx⟩:=(HS8.out.keep RInt.keeps HB9.out).sl.at_ hlt2;obtain ⟨x,hxx⟩:∃x,rs[k]=x:=⟨_,rfl⟩;rw [hxx] at hx hd;have x0:wr.cell? ⟨b8,o8+k,none⟩=some (.int .i64 x):=(by simpa [RInt] using hx);have HOX:=aH (HO.out wr HBR.out x);have HQX:Hid (R=if outB b.outl b.regions.length x rv.reg=true then (if (rs.drop (k+1)).all (fun x=>outB b.outl b.regions.length x rv.reg)=true then 0 else 22) else 22):=aH (by rw [hr.out,hd,cD];cases outB b.outl b.regions.length x rv.reg <;> rfl);clear hx hd hxx hr hlt2;generalize outB b.outl b.regions.length x rv.reg=ob at HOX HQX;cases ob
    all_goals
     go_wp2_with (go_at_call 184;refine HOX.out.mono ?_;rintro e' w4 ⟨rfl,hb4⟩;have HB4:=aH (HBR.out.trans (hb4.mono HBR.out.size));have HB5:=aH (HB9.out.trans (hb4.mono HB9.out.size));clear hb4)
    ·go_ret;exact ⟨by rw [show R=22 from HQX.out];rfl,HB4.out⟩
    ·go_roundw
     case rel=>exact ⟨k+1,by omega,by go_num,HB5,HQX⟩
     case measure=>simp [intOf];omega
   ·have HF:Hid (R=0):=aH (by rw [hr.out,bG (by rw [HLN.out];omega:rs.length<=k)];rfl);clear hr;go_wp2_with fail
    go_ret;exact ⟨by rw [HF.out];rfl,HBR.out⟩
end
end Go.Proofs.YtkaigkfbkpinlaaGreatDoor
