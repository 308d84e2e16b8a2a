/-
  Parts of the proof: V32T V32E V23 V24 V25 V26 V33 V34 V42D E4.
-/
import Derived.Test.YtbnljlpefpllcaaGreatDoorME0
import Derived.Test.YtbnljlpefpllcaaGreatDoorME10
import Derived.Test.YtbnljlpefpllcaaGreatDoorME9
import Derived.Test.YtbnljlpefpllcaaGreatDoorME6
import Derived.Test.YtbnljlpefpllcaaGreatDoorME7
namespace Go.Proofs.YtbnljlpefpllcaaGreatDoor
set_option maxRecDepth 100000
set_option maxHeartbeats 16000000
section
open Go Go.RowKit Go.Maps Go.WideMaps
theorem xEZ (E:SubE) (b:Bdy) (HE:E.Ok b) (m:Nat) (HREC0:E.Rec b m) (s t:Nat) (hm:s+t<m+1) (hs:s<b.types.length) (ht:t<b.types.length) (W:World) (ks:List (Int × Int)) (h:E.St b W ks) (hmem:((s:Int),(t:Int))∉ks) (hcase:((b.types[s].kind == b.types[t].kind) && (b.types[s].mu == b.types[t].mu) && ((b.types[s].flds.length:Int) == (b.types[t].flds.length:Int)) && !(b.types[s].kind == 3))=true):
 Calls Tryz.prog 231 #[.int .i64 s,.int .i64 t,.pointer (some ⟨E.pk,0,none⟩),.pointer (some ⟨E.pl,0,none⟩),.pointer (some ⟨E.pr,0,none⟩),.pointer (some ⟨E.pf,0,none⟩)] W fun e' W'=>e' = .returned (.bool (subB b s t))∧E.Q b W ks s t W':=by
 have HREC:=aF HREC0
 have HSB:=aF (jP HE.ok.tyok hs ht)
 have HOKS:=aF (HE.ok.tyok s hs)
 have HOKT:=aF (HE.ok.tyok t ht)
 have hn:=HE.ok.ntyp
 have hlen:=h.lt HE
 have wfs:(Lit.int .i64 (s:Int)).wf=true:=WalkArith.wf_i64 (by omega)
 have wft:(Lit.int .i64 (t:Int)).wf=true:=WalkArith.wf_i64 (by omega)
 have x1:=h.k
 have x2:=h.l
 have x3:=h.r
 have x4:=h.f
 have hmemo:=h.memo
 have HST:=aF h
 have HEE:=aF HE
 have hle:=HE.ty.le
 have hbig:=HE.ty.big
 have HMD:Hid (decide (((s:Int),(t:Int))∈ks)=false):=aF (by simp [hmem])
 have HM:=aF hmem
 obtain ⟨bb,oo,hA,hbb,hxs⟩:=HE.ty.sl.at_ hs
 obtain ⟨b2,o2,hA2,hbb2,hxt⟩:=HE.ty.sl.at_ ht
 have hAA:some (⟨bb,oo,none⟩:Addr)=some ⟨b2,o2,none⟩:=hA.symm.trans hA2
 simp only [cJ,Addr.mk.injEq,and_true] at hAA
 obtain ⟨rfl,rfl⟩:=hAA
 clear hA2 hbb2
 obtain ⟨ta,hta⟩:∃x,b.types[s]=x:=⟨_,rfl⟩
 obtain ⟨tb,htb⟩:∃x,b.types[t]=x:=⟨_,rfl⟩
 rw [hta] at hxs HSB HOKS hcase
 rw [htb] at hxt HSB HOKT hcase
 obtain ⟨r0,r1,r2,r3,A2,c2,r4,r6,r7,r8⟩:=hxs
 obtain ⟨q0,q1,q2,q3,B2,d2,q4,q6,q7,q8⟩:=hxt
 have HFA:Hid (Slc 1 RInt E.w0 A2 c2 ta.flds):=aF ⟨r8,r6,r7⟩
 have HFB:Hid (Slc 1 RInt E.w0 B2 d2 tb.flds):=aF ⟨q8,q6,q7⟩
 have hb0:=h.low
 replace r0:=cell_keep hb0 r0
 replace r1:=cell_keep hb0 r1
 replace r2:=cell_keep hb0 r2
 replace r3:=cell_keep hb0 r3
 replace r4:=cell_keep hb0 r4
 replace q0:=cell_keep hb0 q0
 replace q1:=cell_keep hb0 q1
 replace q2:=cell_keep hb0 q2
 replace q3:=cell_keep hb0 q3
 replace q4:=cell_keep hb0 q4
 rw [hA] at x2
 clear r8 q8 hta htb hb0 h HE hmem
 go_enter Tryz.func231,Tryz.ntmps231;go_wp2_with (at_lookup;refine fU _ rfl _ _ 299 rfl 79 3 4 arrP Tryz.underlying3 progN Tryz.underlying299 (iC _) _ _ _ rfl hmemo _ _ rfl wfs wft ?_;rw [aX HM.out,HMD.out])
 have hS:Below W.heap.size W W.drew:=(aV _ _).drew
 refine cP (S:=fun X=>Below W.heap.size W X) [0,1,2,3,4,5,6,7,8,9,10,11] (by kernel_rfl) ?_
 (iterate 8 (refine cQ (v:=?_) ?_ hS ?_;rotate_left;(next=>(rintro X hX;have s0:=cell_keep hX x2;have u0:=cell_keep hX r0;have u1:=cell_keep hX r1;have u2:=cell_keep hX r2;have u3:=cell_keep hX r3;have u4:=cell_keep hX r4;have v0:=cell_keep hX q0;have v1:=cell_keep hX q1;have v2:=cell_keep hX q2;have v3:=cell_keep hX q3;have v4:=cell_keep hX q4;(try simp only [aH]);go_simp;rfl));simp only [aH,Act.put,aJ]))
 have hS1:Below W.heap.size W (W.drew.alloc ty0):=aG
 have hS2:Below W.heap.size W ((W.drew.alloc ty0).alloc ty0):=aG
 refine jM [0,1,2,3,4,5,6,7,9,8,10,11] ty0 (by kernel_rfl) ?_ ?_ ?_ hS1 hS2 ?_
 ·intro a1 w1 K hK
  (simp only [aH,Act.put])
  rw [aY (by rfl)]
  go_simp
  exact hK
 ·intro a1 w1 K hK
  (simp only [aH,Act.put])
  rw [aY (by rfl)]
  go_simp
  exact hK
 ·exact fun _ _=>rfl
 intro ga gb hg
 obtain ⟨hB1,ya,yb⟩:=oM W.drew ga gb ta tb A2 B2 c2 d2 hg
 have hS3:Below W.heap.size W (((W.drew.alloc ty0).alloc ty0).setCells ga 0 (tyL ta A2 c2)):=dP (by rcases hg with h | h <;> (rw [h.1];simp)) _ _ _ hS2
 have tha:((W.drew.alloc ty0).alloc ty0).there ga 0 (tyL ta A2 c2).toArray.size:=by
  rcases hg with ⟨h,-⟩ | ⟨h,-⟩ <;> rw [h]
  ·exact World.there_alloc (dN _ _ _ _ 5 rfl (by simp)) _
  ·exact dN _ _ _ _ 5 (by simp) (by simp)
 have thb:((W.drew.alloc ty0).alloc ty0).there gb 0 (tyL tb B2 d2).toArray.size:=by
  rcases hg with ⟨-,h⟩ | ⟨-,h⟩ <;> rw [h]
  ·exact dN _ _ _ _ 5 (by simp) (by simp)
  ·exact World.there_alloc (dN _ _ _ _ 5 rfl (by simp)) _
 have hS4:Below W.heap.size W ((((W.drew.alloc ty0).alloc ty0).setCells ga 0 (tyL ta A2 c2)).setCells gb 0 (tyL tb B2 d2)):=hS.trans (hB1.mono (aW _))
 have hne:ga≠gb∧W.heap.size≤ga∧W.heap.size≤gb:=by rcases hg with ⟨rfl,rfl⟩ | ⟨rfl,rfl⟩ <;> simp
 have hML:=HST.out.memo.lt
 have hM:E.M≠ga∧E.M≠gb:=by omega
 clear hg
 have thc:=World.there_setCells thb ga 0 (tyL ta A2 c2)
 generalize (W.drew.alloc ty0).alloc ty0=W8 at *
 have E9:∃W9,W8.setCells ga 0 (tyL ta A2 c2)=W9:=⟨_,rfl⟩
 obtain ⟨W9,e9⟩:=E9
 obtain ⟨W1,e1⟩:∃W1,W9.setCells gb 0 (tyL tb B2 d2)=W1:=⟨_,rfl⟩
 rw [e9] at hB1 ya yb hS3 hS4 thc
 rw [e1] at hB1 ya yb hS4
 (refine cS (by kernel_rfl) (fun K1 hK1=>?_);simp only [aH,Act.put,aJ];rw [aY (by rfl)])
 refine wp_store_mid 83 (.tmp 11) (.tmp 27) rfl ga 0 (tyL ta A2 c2).toArray rfl rfl tha (by kernel_rfl) (by simp [tyL,Value.oneCell']) ?_
 rw [List.toList_toArray,e9]
 refine hK1.out _ _ (fun _=>hS3) ?_
 clear hK1
 (refine cS (by kernel_rfl) (fun K1 hK1=>?_);simp only [aH,Act.put];rw [aY (by rfl)])
 refine wp_store_mid 83 (.tmp 12) (.tmp 31) rfl gb 0 (tyL tb B2 d2).toArray rfl rfl thc (by kernel_rfl) (by simp [tyL,Value.oneCell']) ?_
 rw [List.toList_toArray,e1]
 refine hK1.out _ _ (fun _=>hS4) ?_
 clear hK1
 refine cV (by kernel_rfl) ?_
 (simp only [Act.put])
 obtain ⟨ya0,ya1,ya2,ya3,ya4⟩:=aO ya
 obtain ⟨yb0,yb1,yb2,yb3,yb4⟩:=aO yb
 have hst1:=HST.out.keep hS4
 have HPH:=aF (SubE.Ph.start HST.out hS4 ((s:Int)+t))
 have HB1:=aF hS4
 have HM1:=aF hM
 have HC:Hid (∀X,E.Ph b W1 ks ((s:Int)+t) X→(aA (tyL ta A2 c2) X ga)∧(aA (tyL tb B2 d2) X gb)∧X.cell? ⟨E.pf,0,none⟩=some E.F∧X.cell? ⟨E.pr,0,none⟩=some (.pointer (some ⟨E.r,0,none⟩))∧X.cell? ⟨E.pk,0,none⟩=some (.map (some E.M))∧Below E.w0.heap.size E.w0 X):=aF (fun X ⟨kx,h1,h2,h3⟩=>
  ⟨fun i v hi=>eR h3 (ya i v hi) (by simpa using Ne.symm HM1.out.1),fun i v hi=>eR h3 (yb i v hi) (by simpa using Ne.symm HM1.out.2),h1.f,h1.r,h1.k,h1.low⟩)
 have hbp:=HST.out.memo.lt
 clear hS hS1 hS2 hS3 hS4 hB1 ya yb tha thb thc e9 e1 x1 x2 x3 x4 hmemo r0 r1 r2 r3 r4 q0 q1 q2 q3 q4 hM hML
 have HCALL:Hid (∀x y:Int,0≤x→0≤y→x+y<(s:Int)+t→x<(b.types.length:Int)→y<(b.types.length:Int)→∀X,E.Ph b W1 ks ((s:Int)+t) X→
  Calls Tryz.prog 231 #[.int .i64 x,.int .i64 y,.pointer (some ⟨E.pk,0,none⟩),.pointer (some ⟨E.pl,0,none⟩),.pointer (some ⟨E.pr,0,none⟩),.pointer (some ⟨E.pf,0,none⟩)] X fun e' X'=>e' = .returned (.bool (subB b x y))∧E.Ph b W1 ks ((s:Int)+t) X'):=aF (fun x y hx hy hxy hxl hyl X ⟨kx,h1,h2,h3⟩=>by
  obtain ⟨x,rfl⟩:=bF hx
  obtain ⟨y,rfl⟩:=bF hy
  refine (HREC.out x y (by omega) (by omega) (by omega) X kx h1).mono ?_
  rintro e' X' ⟨rfl,hq⟩
  exact ⟨rfl,SubE.Ph.call h1 h2 h3 hq hxy⟩)
 clear HREC hn
 obtain ⟨p1,hp1⟩:∃q,(ta.kind == tb.kind)=q:=⟨_,rfl⟩
 obtain ⟨p2,hp2⟩:∃q,(ta.mu == tb.mu)=q:=⟨_,rfl⟩
 obtain ⟨p3,hp3⟩:∃q,((ta.flds.length:Int) == (tb.flds.length:Int))=q:=⟨_,rfl⟩
 obtain ⟨p4,hp4⟩:∃q,(ta.kind == 3)=q:=⟨_,rfl⟩
 rw [hp1,hp2,hp3,hp4] at hcase
 have HCASE:=aF hcase
 clear hcase
 have HP1:=aF hp1
 have HP2:=aF hp2
 have HP3:=aF hp3
 have HP4:=aF hp4
 have HLAW:Hid (∀q:Bool,(p1=true→p2=true→p3=true→p4=true→q=(outB b.outl b.regions.length ta.reg tb.reg && subB b ta.elem tb.elem && (!ta.mu || subB b tb.elem ta.elem)))→(¬(p1=true∧p2=true∧p3=true∧p4=true)→q=(p1 && p2 && p3))→
  subB b s t=(q && (((ta.flds.drop 0).zip (tb.flds.drop 0)).all (fun p=>subB b p.1 p.2)))∧(q=true→ta.flds.length=tb.flds.length)):=aF (fun q h1 h2=>by
  rw [HSB.out]
  unfold subS
  have g1:decide (ta.kind=tb.kind)=p1:=by rw [← HP1.out];rfl
  have g2:decide (ta.mu=tb.mu)=p2:=by rw [← HP2.out];cases ta.mu <;> cases tb.mu <;> rfl
  have g3:decide (ta.flds.length=tb.flds.length)=p3:=by rw [← HP3.out,lG]
  have g4:decide (ta.kind≠3) = !p4:=by rw [← HP4.out];by_cases h:ta.kind=3 <;> simp [h]
  have g5:p4=true→ta.flds=[]:=fun h=>(HOKS.out.1 (by rw [← HP4.out] at h;simpa using h)).2.2
  rw [g1,g2,g3,g4,bW,bW]
  have g6:p3=true→ta.flds.length=tb.flds.length:=fun h=>by rw [← g3] at h;simpa using h
  cases p1 <;> cases p2 <;> cases p3 <;> cases p4 <;> simp_all)
 clear HSB
 have HR:Hid (0≤(s:Int)∧(s:Int)<(b.types.length:Int)∧0≤(t:Int)∧(t:Int)<(b.types.length:Int)):=aF ⟨by omega,by omega,by omega,by omega⟩
 have HO:Hid (∀X,E.Ph b W1 ks ((s:Int)+t) X→Calls Tryz.prog 214 #[.pointer (some ⟨E.r,0,none⟩),.int .i64 ta.reg,.int .i64 tb.reg] X fun e' X'=>e' = .returned (.bool (outB b.outl b.regions.length ta.reg tb.reg))∧E.Ph b W1 ks ((s:Int)+t) X'):=aF (fun X hX=>by
  refine (kE b.outl b.regions.length ta.reg tb.reg E.r X (HEE.out.rel.keep (HC.out X hX).2.2.2.2.2) HEE.out.ok.pairs (by have:=HEE.out.ok.nreg;omega) HEE.out.ok.nout).mono ?_
  rintro e' X' ⟨rfl,hb⟩
  exact ⟨rfl,hX.keep hb⟩)
 obtain ⟨z1,z2,z3,z4⟩:W1.cell? ⟨E.pf,0,none⟩=some E.F∧W1.cell? ⟨E.pr,0,none⟩=some (.pointer (some ⟨E.r,0,none⟩))∧W1.cell? ⟨E.pk,0,none⟩=some (.map (some E.M))∧True:=⟨hst1.f,hst1.r,hst1.k,trivial⟩
 clear hst1 z4
 unfold SubE.F at z1
 have hc:=HCASE.out
 clear HCASE
 have hall:¬(p1=true∧p2=true∧p3=true∧p4=true):=by rintro ⟨rfl,rfl,rfl,rfl⟩;simp at hc
 have HL3:Hid (∀q:Bool,q=(p1 && p2 && p3)→subB b s t=(q && (((ta.flds.drop 0).zip (tb.flds.drop 0)).all (fun p=>subB b p.1 p.2)))∧(q=true→ta.flds.length=tb.flds.length)):=aF (fun q hq=>HLAW.out q (fun h1 h2 h3 h4=>absurd ⟨h1,h2,h3,h4⟩ hall) (fun _=>hq))
 clear HLAW HO HP1 HP2 HP3 HP4
 have HPZ:=HPH
 obtain ⟨rfl,rfl,rfl,rfl⟩:p1=true∧p2=true∧p3=true∧p4=false:=by revert hc;cases p1 <;> cases p2 <;> cases p3 <;> cases p4 <;> simp
 clear hc
 have HV:=aF (HL3.out true rfl)
 have hln:=HV.out.2 rfl
 have HLN:=aF hln
 clear hall HL3 hln
 go_wp2_with fail
 go_loopg [9,13] ta.flds.length (fun gk v i wr=>∃(j:Nat) (q:Bool),gk=ta.flds.length - j∧j≤ta.flds.length∧v = .bool q∧i = .int .i64 j∧Hid (E.Ph b W1 ks ((s:Int)+t) wr)∧Hid (subB b s t=(q && ((ta.flds.drop j).zip (tb.flds.drop j)).all (fun p=>subB b p.1 p.2))))
 case atStart=>exact ⟨0,true,by omega,by omega,rfl,rfl,HPZ,aF HV.out.1⟩
 case round=>
  clear HPZ HV
  obtain ⟨j,q,hgj,hj,rfl,rfl,HPZ,HV⟩:=hrel
  have hq:=HPZ.out
  obtain ⟨ca,cb,cf,cr,ck,-⟩:=HC.out _ hq;unfold SubE.F at cf;obtain ⟨ca0,ca1,ca2,ca3,ca4⟩:=aO ca;obtain ⟨cb0,cb1,cb2,cb3,cb4⟩:=aO cb;clear ca cb
  clear hq
  cases q
  ·have HVV:Hid (subB b s t=false):=aF (by rw [HV.out];rfl)
   clear HCALL HOKS HOKT
   obtain ⟨kz,hstz,hnz,hgz⟩:=HPZ.out;have HSZ:=aF hstz;have HNZ:=aF hnz;have HGZ:=aF hgz;have hkz:=hstz.k;clear hnz hgz;go_wp2_with (at_mapUpdate;refine dD _ rfl _ _ _ 299 rfl 79 3 4 arrP Tryz.underlying3 progN Tryz.underlying299 _ _ _ rfl hstz.memo (hstz.lt HEE.out) _ _ rfl wfs wft (by rw [HVV.out];rfl) ?_;intro w9 hm9 hg9;have HM9:=aF hm9;have HG9:=aF hg9;clear hm9 hg9);clear hstz;go_ret;refine ⟨?_,SubE.fin HEE.out HM.out HR.out HB1.out HSZ.out HNZ.out HGZ.out HM9.out HG9.out⟩;rw [HVV.out];rfl
  ·by_cases hlt:j<ta.flds.length
   ·have hlt2:j<tb.flds.length:=by have:=HLN.out;omega
    obtain ⟨ba,oa,rfl,hba,hxa⟩:=HFA.out.sl.at_ hlt
    obtain ⟨b8,o8,rfl,hb8,hxb⟩:=HFB.out.sl.at_ hlt2
    have h5:=HOKS.out.2 ta.flds[j] (bM hlt)
    have h6:=HOKT.out.2 tb.flds[j] (bM hlt2)
    have HV2:Hid (subB b s t=(subB b ta.flds[j] tb.flds[j] && ((ta.flds.drop (j+1)).zip (tb.flds.drop (j+1))).all (fun p=>subB b p.1 p.2))):=aF (by rw [HV.out,cU hlt,cU hlt2,List.zip_cons_cons,cB,Bool.true_and])
    obtain ⟨x,hxx⟩:∃x,ta.flds[j]=x:=⟨_,rfl⟩
    obtain ⟨y,hyy⟩:∃y,tb.flds[j]=y:=⟨_,rfl⟩
    rw [hxx] at hxa h5 HV2
    rw [hyy] at hxb h6 HV2
    have xa:E.w0.cell? ⟨ba,oa+j,none⟩=some (.int .i64 x):=by simpa [RInt] using hxa
    have xb:E.w0.cell? ⟨b8,o8+j,none⟩=some (.int .i64 y):=by simpa [RInt] using hxb
    have HCX:=aF (HCALL.out x y h5.1 h6.1 (by omega) (by omega) (by omega))
    have XA:=aF xa
    have XB:=aF xb
    clear hxa hxb h5 h6 hxx hyy HV HCALL HOKS HOKT xa xb
    go_wp2_with fail
    have hS:E.Ph b W1 ks ((s:Int)+t) wr.drew:=HPZ.out.keep ((aV _ _).drew)
    clear ca0 ca1 ca2 ca3 ca4 cb0 cb1 cb2 cb3 cb4 cf cr ck
    refine cP (S:=fun X=>E.Ph b W1 ks ((s:Int)+t) X) [0,1,2,3,4,5,6,7,8,9,10,11,12] (by kernel_rfl) ?_
    (iterate 11 (refine cQ (v:=?_) ?_ hS ?_;rotate_left;(next=>(rintro X hX;obtain ⟨da,db,df,-,-,dl⟩:=HC.out X hX;unfold SubE.F at df;have s4:=da 4 _ rfl;have u4:=db 4 _ rfl;have v1:=cell_keep dl XA.out;have v2:=cell_keep dl XB.out;clear da db;(try simp only [aH]);go_simp;rfl));simp only [aH,Act.put,aJ]))
    (refine cS (by kernel_rfl) (fun K1 hK1=>?_);simp only [aH,Act.put,aJ];rw [aY (by rfl)];go_simp)
    refine (HCX.out _ hS).mono ?_
    rintro e' w2 ⟨rfl,hq⟩
    refine hK1.out _ _ (fun _=>hq) ?_
    have HQ:=aF hq
    replace hS:=hq
    clear hK1 hq
    (iterate 1 (refine cQ (v:=?_) ?_ hS ?_;rotate_left;(next=>(rintro X -;(try simp only [aH]);go_simp;rfl));simp only [aH,Act.put,aJ]))
    refine cV (by kernel_rfl) ?_
    go_wp2_with fail
    go_roundg (ta.flds.length - (j+1))
    case measure=>omega
    case rel=>exact ⟨j+1,subB b x y,rfl,by omega,rfl,by go_num,HQ,HV2⟩
   ·have HVV:Hid (subB b s t=true):=aF (by rw [HV.out,bD (by omega)];rfl)
    have e0:¬((j:Int)<(ta.flds.length:Int)):=by omega
    clear HCALL HOKS HOKT
    obtain ⟨kz,hstz,hnz,hgz⟩:=HPZ.out;have HSZ:=aF hstz;have HNZ:=aF hnz;have HGZ:=aF hgz;have hkz:=hstz.k;clear hnz hgz;go_wp2_with (at_mapUpdate;refine dD _ rfl _ _ _ 299 rfl 79 3 4 arrP Tryz.underlying3 progN Tryz.underlying299 _ _ _ rfl hstz.memo (hstz.lt HEE.out) _ _ rfl wfs wft (by rw [HVV.out];rfl) ?_;intro w9 hm9 hg9;have HM9:=aF hm9;have HG9:=aF hg9;clear hm9 hg9);clear hstz;go_ret;refine ⟨?_,SubE.fin HEE.out HM.out HR.out HB1.out HSZ.out HNZ.out HGZ.out HM9.out HG9.out⟩;rw [HVV.out];rfl
theorem xO (E:SubE) (b:Bdy) (HE:E.Ok b) (s t:Nat) (hs:s<b.types.length) (ht:t<b.types.length) (W:World) (ks:List (Int × Int)) (h:E.St b W ks) (hmem:((s:Int),(t:Int))∈ks):
 Calls Tryz.prog 231 #[.int .i64 s,.int .i64 t,.pointer (some ⟨E.pk,0,none⟩),.pointer (some ⟨E.pl,0,none⟩),.pointer (some ⟨E.pr,0,none⟩),.pointer (some ⟨E.pf,0,none⟩)] W fun e' W'=>e' = .returned (.bool (subB b s t))∧E.Q b W ks s t W':=by
 have hn:=HE.ok.ntyp
 have hlen:=h.lt HE
 have wfs:(Lit.int .i64 (s:Int)).wf=true:=WalkArith.wf_i64 (by omega)
 have wft:(Lit.int .i64 (t:Int)).wf=true:=WalkArith.wf_i64 (by omega)
 have x1:=h.k
 have x2:=h.l
 have x3:=h.r
 have x4:=h.f
 have hmemo:=h.memo
 have HST:=aF h
 have HEE:=aF HE
 have hle:=HE.ty.le
 have hbig:=HE.ty.big
 have HMD:Hid (decide (((s:Int),(t:Int))∈ks)=true):=aF (by simp [hmem])
 have HM:=aF hmem
 clear h HE hmem
 go_enter Tryz.func231,Tryz.ntmps231
 go_wp2_with (at_lookup;refine fU _ rfl _ _ 299 rfl 79 3 4 arrP Tryz.underlying3 progN Tryz.underlying299 (iC _) _ _ _ rfl hmemo _ _ rfl wfs wft ?_;rw [aY HM.out,HMD.out])
 go_ret
 exact ⟨rfl,ks,HST.out,fun p hp=>Or.inl hp,fC (aV _ _) _⟩
theorem tH (E:SubE) (b:Bdy) (HE:E.Ok b):∀m:Nat,E.Rec b m
 | 0=>fun _ _ h=>absurd h (by omega)
 | m+1=>fun s t hm hs ht W ks h=>by
   have HR:=tH E b HE m
   by_cases hmem:((s:Int),(t:Int))∈ks
   ·exact xO E b HE s t hs ht W ks h hmem
   obtain ⟨p,hp⟩:∃p,((b.types[s].kind == b.types[t].kind) && (b.types[s].mu == b.types[t].mu) && ((b.types[s].flds.length:Int) == (b.types[t].flds.length:Int)))=p:=⟨_,rfl⟩
   obtain ⟨q,hq⟩:∃q,(b.types[s].kind == 3)=q:=⟨_,rfl⟩
   cases p
   ·exact xBN E b HE m HR s t hm hs ht W ks h hmem hp
   ·cases q
    ·exact xEZ E b HE m HR s t hm hs ht W ks h hmem (by rw [hp,hq];rfl)
    ·exact xFA E b HE m HR s t hm hs ht W ks h hmem (by rw [hp,hq];rfl)
end
section
open Go Go.RowKit
theorem pJ (W:World) (x y:Int) (T:TypeId) (k:Nat) (hk:k=W.heap.size):Slc 1 RInt (W.alloc (.cells #[.int .i64 x,.int .i64 y] T)) (some ⟨k,0,none⟩) 2 [x,y]:=by
 subst hk
 refine ⟨fun _=>⟨_,_,rfl,by simp,fun i q hi=>?_⟩,by simp,by omega⟩
 show (W.alloc _).cell? ⟨W.heap.size,0+i * 1,none⟩=_
 rw [World.cell?_alloc_at _ _ _ _ (by simp),Nat.zero_add,Nat.mul_one]
 match i,hi with
 | 0,hi=>simp at hi;subst hi;rfl
 | 1,hi=>simp at hi;subst hi;rfl
 | i+2,hi=>simp at hi
theorem cR {w w1:World} {l1 l2:List Value} {t1 t2:TypeId} (hb:Below ((w.alloc (.cells l1.toArray t1)).alloc (.cells l2.toArray t2)).heap.size ((w.alloc (.cells l1.toArray t1)).alloc (.cells l2.toArray t2)) w1):
 (∀i v,l1[i]?=some v→w1.cell? ⟨w.heap.size,i,none⟩=some v)∧(∀i v,l2[i]?=some v→w1.cell? ⟨w.heap.size+1,i,none⟩=some v):=by
 refine ⟨fun i v hi=>cell_keep hb ?_,fun i v hi=>cell_keep hb ?_⟩
 ·exact cell_keep ((aV _ _).alloc (aW _) _) (cW w l1 t1 i v hi)
 ·have:=cW (w.alloc (.cells l1.toArray t1)) l2 t2 i v hi
  rwa [bH] at this
theorem gM (b:Bdy) (bh:BH) (r:Nat) (p:Plc) (A:Option Addr) (c:Nat) (w:World) (H:BdAt w b bh) (hp:Slc 2 RPj w A c p.proj) (hok:Okay b.types b.locals):
 Calls Tryz.prog 125 #[.agg (ckC b bh r).toArray,.agg #[.int .i64 p.loc,.slice A p.proj.length c]] w fun e' w'=>e' = .returned (.tuple #[.int .i64 (tyB b p).1,.int .i64 (writE b p)])∧Below w.heap.size w w':=by
 have HT:=aF (fun W (hb:Below w.heap.size w W)=>eY b bh r p A c W (H.keep hb) (hp.keep RPj.keeps hb) hok)
 have HM:=aF (fun W (hb:Below w.heap.size w W)=>lI b.types b.locals p.loc p.proj bh.A3 bh.A4 A bh.c3 bh.c4 c W (H.keep hb).typ (H.keep hb).loc (hp.keep RPj.keeps hb) hok)
 change Hid (∀W,Below w.heap.size w W→Calls Tryz.prog 175 _ W fun e' w'=>e' = .returned (.bool (mutB b p))∧Below W.heap.size W w') at HM
 have HQ:Hid (writE b p=if (tyB b p).2≠0 then (tyB b p).2 else fail22 (!mutB b p)):=aF rfl
 generalize hq:writE b p=q at HQ ⊢
 clear hq
 generalize tyB b p=t at HT HQ ⊢
 generalize mutB b p=mu at HM HQ
 obtain ⟨t,e⟩:=t
 simp only at HT HQ ⊢
 clear H hp hok
 unfold ckC at HT ⊢
 by_cases he:e=0
 ·subst he
  have HF:Hid (firstE [0,fail22 !mu]=q):=aF (by rw [HQ.out];cases mu <;> rfl)
  clear HQ
  go_enter Tryz.func125,Tryz.ntmps125
  go_wp2_with (first
   | (go_at_call 132;refine (HT.out _ (bel2 _ _ _)).mono ?_;rintro e' w1 ⟨rfl,hb1⟩;have HB:=aF ((bel2 _ _ _).trans (hb1.mono (bel2 _ _ _).size));obtain ⟨y,z⟩:=cR hb1;obtain ⟨-,-,-,y3,y4⟩:=aO y;obtain ⟨z0,z1⟩:=aL z;clear y z hb1)
   | (go_at_call 175;refine (HM.out _ HB.out).mono ?_;rintro e' w2 ⟨rfl,hb2⟩;have HB2:=aF (HB.out.trans (hb2.mono HB.out.size));clear hb2)
   | (go_at_call 129;refine (eC _ _).mono ?_;rintro e' w3 ⟨rfl,hw⟩;obtain rfl:=hw.symm)
   | (go_at_call 118;refine (gB [0,fail22 !mu] _ 2 _ (pJ _ _ _ _ _ rfl)).mono ?_;rintro e' w4 ⟨rfl,hw⟩;obtain rfl:=hw.symm))
  go_ret2
  exact ⟨by rw [← HF.out];rfl,HB2.out.alloc HB2.out.size _⟩
 ·have HF:Hid (firstE [e,fail22 false]=q):=aF (by rw [HQ.out,aY he];show (if e=0 then _ else e)=e;rw [aX he])
  have e1:(e == 0)=false:=by simp [he]
  clear HQ he HM
  go_enter Tryz.func125,Tryz.ntmps125
  go_wp2_with (first
   | (go_at_call 132;refine (HT.out _ (bel2 _ _ _)).mono ?_;rintro e' w1 ⟨rfl,hb1⟩;have HB:=aF ((bel2 _ _ _).trans (hb1.mono (bel2 _ _ _).size));obtain ⟨y,z⟩:=cR hb1;obtain ⟨-,-,-,y3,y4⟩:=aO y;obtain ⟨z0,z1⟩:=aL z;clear y z hb1)
   | (go_at_call 129;refine (eC _ _).mono ?_;rintro e' w3 ⟨rfl,hw⟩;obtain rfl:=hw.symm)
   | (go_at_call 118;refine (gB [e,fail22 false] _ 2 _ (pJ _ _ _ _ _ rfl)).mono ?_;rintro e' w4 ⟨rfl,hw⟩;obtain rfl:=hw.symm))
  go_ret2
  exact ⟨by rw [← HF.out];rfl,HB.out.alloc HB.out.size _⟩
theorem mX (b:Bdy) (bh:BH) (r:Nat) (o:Opd) (A:Option Addr) (c:Nat) (w:World) (H:BdAt w b bh) (hp:Slc 2 RPj w A c o.place.proj) (hok:Okay b.types b.locals)
 (hty:o.kind≠2→o.kind≠3→o.kind≠4→(tyB b o.place).2=0):
 Calls Tryz.prog 130 #[.agg (ckC b bh r).toArray,.agg (opC o A c).toArray] w fun e' w'=>e' = .returned (.int .i64 (kindO b o))∧Below w.heap.size w w':=by
 have HT:=aF (fun W (hb:Below w.heap.size w W)=>eY b bh r o.place A c W (H.keep hb) (hp.keep RPj.keeps hb) hok)
 have HQ:Hid (kindO b o=if o.kind=2 then 2 else if o.kind=3 then 1 else if o.kind=4 then 0 else kindT b (tyB b o.place).1):=aF rfl
 generalize kindO b o=q at HQ ⊢
 have HS:=aF H.typ
 have hin:=gO hok (l:=o.place.loc) (ps:=o.place.proj)
 change (tyB b o.place).2=0→0≤(tyB b o.place).1∧(tyB b o.place).1<b.types.length at hin
 generalize tyB b o.place=t at HT HQ hty hin
 obtain ⟨t,e⟩:=t
 simp only at HQ hty hin
 clear H hp hok
 unfold ckC at HT ⊢
 unfold opC
 obtain ⟨A3,h3⟩:∃x,bh.A3=x:=⟨_,rfl⟩
 rw [h3] at HS HT ⊢
 clear h3
 by_cases h2:o.kind=2
 ·have HF:Hid (q=2):=aF (by rw [HQ.out,aY h2])
  rw [h2]
  clear HQ HT HS hty hin
  go_enter Tryz.func130,Tryz.ntmps130
  go_wp2_with fail
  go_ret
  exact ⟨by rw [HF.out];rfl,aG⟩
 by_cases h3:o.kind=3
 ·have HF:Hid (q=1):=aF (by rw [HQ.out,aX h2,aY h3])
  rw [h3]
  clear HQ HT HS hty hin
  go_enter Tryz.func130,Tryz.ntmps130
  go_wp2_with fail
  go_ret
  exact ⟨by rw [HF.out];rfl,aG⟩
 by_cases h4:o.kind=4
 ·have HF:Hid (q=0):=aF (by rw [HQ.out,aX h2,aX h3,aY h4])
  rw [h4]
  clear HQ HT HS hty hin
  go_enter Tryz.func130,Tryz.ntmps130
  go_wp2_with fail
  go_ret
  exact ⟨by rw [HF.out];rfl,aG⟩
 obtain rfl:=hty h2 h3 h4
 obtain ⟨g1,g2⟩:=hin rfl
 obtain ⟨k,rfl⟩:=bF g1
 have hlt:k<b.types.length:=by omega
 obtain ⟨bb,oo,rfl,hbb,hx⟩:=HS.out.sl.at_ hlt
 have HF:Hid (q=b.types[k].kind):=aF (by rw [HQ.out,aX h2,aX h3,aX h4,kindT];simp [hlt])
 generalize b.types[k]=ty at hx HF
 obtain ⟨r1,-⟩:=hx
 have e2:(o.kind == 2)=false:=by simp [h2]
 have e3:(o.kind == 3)=false:=by simp [h3]
 have e4:(o.kind == 4)=false:=by simp [h4]
 clear HQ HS hty hin h2 h3 h4 g1
 go_enter Tryz.func130,Tryz.ntmps130
 go_wp2_with (go_at_call 132;refine (HT.out _ (bel2 _ _ _)).mono ?_;rintro e' w1 ⟨rfl,hb1⟩;have HB:=aF ((bel2 _ _ _).trans (hb1.mono (bel2 _ _ _).size));obtain ⟨y,-⟩:=cR hb1;have y3:=y 3 _ rfl;have x1:=cell_keep HB.out r1;clear y hb1)
 go_ret
 exact ⟨by rw [HF.out];rfl,HB.out⟩
theorem sH (b:Bdy) (bh:BH) (r:Nat) (o:Opd) (A:Option Addr) (c:Nat) (w:World) (H:BdAt w b bh) (hp:Slc 2 RPj w A c o.place.proj) (hok:Okay b.types b.locals)
 (hcop:∀W,Below w.heap.size w W→∀i:Int,0≤i→i<b.types.length→Calls Tryz.prog 180 #[.slice bh.A3 b.types.length bh.c3,.int .i64 i] W fun e' w'=>e' = .returned (.bool (copB b.types i))∧Below W.heap.size W w'):
 Calls Tryz.prog 128 #[.agg (ckC b bh r).toArray,.agg (opC o A c).toArray] w fun e' w'=>e' = .returned (.int .i64 (opE b o))∧Below w.heap.size w w':=by
 have HT:=aF (fun W (hb:Below w.heap.size w W)=>eY b bh r o.place A c W (H.keep hb) (hp.keep RPj.keeps hb) hok)
 have HZ:=aF (fun W=>fI o.place A c W)
 have HD:=aF (fun W (hb:Below w.heap.size w W)=>uF o.place 0 A c W (hp.keep RPj.keeps hb))
 have HQ:Hid (opE b o=if o.kind<0∨4<o.kind then 14 else if (o.kind≠2∧o.kind≠3∧o.n≠0)∨(1<o.kind∧zeroP o.place=false) then 2 else if o.kind=3∧o.n≠0∧o.n≠1 then 3 else if 1<o.kind then 0 else if (tyB b o.place).2≠0 then (tyB b o.place).2 else if o.kind=0 then fail22 (!copB b.types (tyB b o.place).1) else fail22 (hasD o.place.proj 0)):=aF rfl
 have hin:=gO hok (l:=o.place.loc) (ps:=o.place.proj)
 change (tyB b o.place).2=0→0≤(tyB b o.place).1∧(tyB b o.place).1<b.types.length at hin
 have HIN:=aF (fun W (hb:Below w.heap.size w W) (h:(tyB b o.place).2=0)=>hcop W hb (tyB b o.place).1 (hin h).1 (hin h).2)
 clear hcop hin
 generalize opE b o=q at HQ ⊢
 generalize zeroP o.place=z at HZ HQ
 generalize hasD o.place.proj 0=hd at HD HQ
 generalize tyB b o.place=t at HT HQ HIN
 obtain ⟨t,e⟩:=t
 simp only at HQ HIN
 generalize copB b.types t=cp at HIN HQ
 obtain ⟨k,pl,n⟩:=o
 simp only at HQ HT HZ HD
 clear H hp hok
 unfold ckC at HT ⊢
 unfold opC
 simp only
 by_cases h01:k=0∨k=1
 ·by_cases hn:n=0
  ·subst hn
   by_cases he:e=0
   ·subst he
    rcases h01 with rfl | rfl
    ·have HF:Hid (q=fail22 (!cp)):=aF (by rw [HQ.out];simp)
     have HC:=aF (fun W hb=>HIN.out W hb rfl)
     clear HQ HZ HD HIN
     go_enter Tryz.func128,Tryz.ntmps128
     go_wp2_with (first
      | (go_at_call 132;refine (HT.out _ (bel2 _ _ _)).mono ?_;rintro e' w1 ⟨rfl,hb1⟩;have HB:=aF ((bel2 _ _ _).trans (hb1.mono (bel2 _ _ _).size));obtain ⟨z,y⟩:=cR hb1;have z3:=z 3 _ rfl;obtain ⟨y0,y1,y2,y3⟩:=aN y;clear y z hb1)
      | (go_at_call 180;refine (HC.out _ HB.out).mono ?_;rintro e' w2 ⟨rfl,hb2⟩;have HB2:=aF (HB.out.trans (hb2.mono HB.out.size));clear hb2)
      | (go_at_call 129;refine (eC _ _).mono ?_;rintro e' w3 ⟨rfl,hw⟩;obtain rfl:=hw.symm))
     go_ret
     exact ⟨by rw [HF.out];rfl,HB2.out⟩
    ·have HF:Hid (q=fail22 hd):=aF (by rw [HQ.out];simp)
     clear HQ HZ HIN
     go_enter Tryz.func128,Tryz.ntmps128
     go_wp2_with (first
      | (go_at_call 132;refine (HT.out _ (bel2 _ _ _)).mono ?_;rintro e' w1 ⟨rfl,hb1⟩;have HB:=aF ((bel2 _ _ _).trans (hb1.mono (bel2 _ _ _).size));obtain ⟨z,y⟩:=cR hb1;have z3:=z 3 _ rfl;obtain ⟨y0,y1,y2,y3⟩:=aN y;clear y z hb1)
      | (go_at_call 133;refine (HD.out _ HB.out).mono ?_;rintro e' w2 ⟨rfl,hb2⟩;have HB2:=aF (HB.out.trans (hb2.mono HB.out.size));clear hb2)
      | (go_at_call 129;refine (eC _ _).mono ?_;rintro e' w3 ⟨rfl,hw⟩;obtain rfl:=hw.symm))
     go_ret
     exact ⟨by rw [HF.out];rfl,HB2.out⟩
   ·have HF:Hid (q=e):=aF (by rw [HQ.out];rcases h01 with rfl | rfl <;> simp [he])
    have e5:(e != 0)=true:=by simp [he]
    clear HQ HZ HIN HD
    rcases h01 with rfl | rfl
    all_goals
     go_enter Tryz.func128,Tryz.ntmps128
     go_wp2_with (go_at_call 132;refine (HT.out _ (bel2 _ _ _)).mono ?_;rintro e' w1 ⟨rfl,hb1⟩;have HB:=aF ((bel2 _ _ _).trans (hb1.mono (bel2 _ _ _).size));obtain ⟨z,y⟩:=cR hb1;have z3:=z 3 _ rfl;obtain ⟨y0,y1,y2,y3⟩:=aN y;clear y z hb1)
     go_ret
     exact ⟨by rw [HF.out];rfl,HB.out⟩
  ·have HF:Hid (q=2):=aF (by rw [HQ.out];rcases h01 with rfl | rfl <;> simp [hn])
   have e5:(n != 0)=true:=by simp [hn]
   clear HQ HZ HIN HD HT
   rcases h01 with rfl | rfl
   all_goals
    go_enter Tryz.func128,Tryz.ntmps128
    go_wp2_with fail
    go_ret
    exact ⟨by rw [HF.out];rfl,aG⟩
 ·have HK:Hid (¬(k=0∨k=1)):=aF h01
  have e0:(k == 0)=false:=by simp;omega
  have e1:(k == 1)=false:=by simp;omega
  clear h01 HT HD HIN
  go_enter Tryz.func128,Tryz.ntmps128
  go_wp2_with (go_at_call 124;refine (HZ.out _).mono ?_;rintro e' w1 ⟨rfl,hb1⟩;have HB:=aF ((bel2 _ _ _).trans (hb1.mono (bel2 _ _ _).size));obtain ⟨-,y⟩:=cR hb1;obtain ⟨y0,y1,y2,y3⟩:=aN y;clear y hb1)
  all_goals
   go_ret
   refine ⟨?_,by first | exact HB.out | exact aG⟩
   have HF:=HQ.out
   have hk:=HK.out
   try clear y0 y1 y2 y3
   clear HQ HZ HK
   rw [HF]
   refine congrArg (fun i=>Ending.returned (Value.int .i64 i)) ?_
   clear HF
   have b2:(k == 2)=decide (k=2):=by rw [bQ];simp
   have b3:(k == 3)=decide (k=3):=by rw [bQ];simp
   have b4:(k != 4)=decide (k≠4):=by rw [bQ];simp
   have b5:(n != 0)=decide (n≠0):=by rw [bQ];simp
   have b6:(n != 1)=decide (n≠1):=by rw [bQ];simp
   simp only [b2,b3,b4,b5,b6] at *
   clear b2 b3 b4 b5 b6
   grind
theorem xDG (b:Bdy) (bh:BH) (r:Nat) (o:Opd) (f:Nat) (A:Option Addr) (c:Nat) (w:World) (H:BdAt w b bh) (hp:Slc 2 RPj w A c o.place.proj) (hok:Okay b.types b.locals)
 (hty:o.kind≠2→o.kind≠3→o.kind≠4→(tyB b o.place).2=0) (hf:f<b.types.length)
 (hsub:∀W,Below w.heap.size w W→∀i:Int,0≤i→i<b.types.length→Calls Tryz.prog 218 #[.pointer (some ⟨r,0,none⟩),.slice bh.A3 b.types.length bh.c3,.int .i64 i,.int .i64 f] W fun e' w'=>e' = .returned (.bool (subB b i f))∧Below W.heap.size W w'):
 Calls Tryz.prog 181 #[.agg (ckC b bh r).toArray,.agg (opC o A c).toArray,.int .i64 f] w fun e' w'=>e' = .returned (.bool (fitsO b o f))∧Below w.heap.size w w':=by
 have HT:=aF (fun W (hb:Below w.heap.size w W)=>eY b bh r o.place A c W (H.keep hb) (hp.keep RPj.keeps hb) hok)
 have HK:=aF (fun W (hb:Below w.heap.size w W)=>mX b bh r o A c W (H.keep hb) (hp.keep RPj.keeps hb) hok hty)
 have HQ:Hid (fitsO b o f=if o.kind≠0∧o.kind≠1 then decide (kindO b o=kindT b f) else subB b (tyB b o.place).1 f):=aF rfl
 have HS:=aF H.typ
 have hin:=gO hok (l:=o.place.loc) (ps:=o.place.proj)
 change (tyB b o.place).2=0→0≤(tyB b o.place).1∧(tyB b o.place).1<b.types.length at hin
 have HIN:=aF (fun W (hb:Below w.heap.size w W) (h:(tyB b o.place).2=0)=>hsub W hb (tyB b o.place).1 (hin h).1 (hin h).2)
 clear hsub hin
 generalize fitsO b o f=q at HQ ⊢
 generalize tyB b o.place=t at HT HQ HIN hty
 generalize kindO b o=ko at HK HQ
 obtain ⟨t,e⟩:=t
 simp only at HQ HIN hty
 clear H hp hok
 unfold ckC at HT HK ⊢
 unfold opC at HK ⊢
 by_cases h01:o.kind=0∨o.kind=1
 ·obtain rfl:e=0:=hty (by omega) (by omega) (by omega)
  have HF:Hid (q=subB b t f):=aF (by rw [HQ.out,aX (by omega)])
  have HC:=aF (fun W hb=>HIN.out W hb rfl)
  clear HQ HIN HK HS hty
  generalize subB b t f=sb at HF HC
  obtain ⟨k,hk⟩:∃k,o.kind=k:=⟨_,rfl⟩
  rw [hk] at h01 ⊢
  clear hk
  rcases h01 with rfl | rfl
  all_goals
   go_enter Tryz.func181,Tryz.ntmps181
   go_wp2_with (first
    | (go_at_call 132;refine (HT.out _ (bel2 _ _ _)).mono ?_;rintro e' w1 ⟨rfl,hb1⟩;have HB:=aF ((bel2 _ _ _).trans (hb1.mono (bel2 _ _ _).size));obtain ⟨y,-⟩:=cR hb1;obtain ⟨-,-,-,y3,-,-,-,y7⟩:=aR y;clear y hb1)
    | (go_at_call 218;refine (HC.out _ HB.out).mono ?_;rintro e' w2 ⟨rfl,hb2⟩;have HB2:=aF (HB.out.trans (hb2.mono HB.out.size));clear hb2))
   go_ret
   exact ⟨by rw [HF.out];rfl,HB2.out⟩
 ·have HF:Hid (q=decide (ko=kindT b f)):=aF (by rw [HQ.out,aY ⟨fun h=>h01 (Or.inl h),fun h=>h01 (Or.inr h)⟩])
  have e0:(o.kind != 0)=true:=by simp;omega
  have e1:(o.kind != 1)=true:=by simp;omega
  clear HQ HIN HT hty h01
  obtain ⟨A3,h3⟩:∃x,bh.A3=x:=⟨_,rfl⟩
  rw [h3] at HS HK ⊢
  clear h3
  obtain ⟨bb,oo,rfl,hbb,hx⟩:=HS.out.sl.at_ hf
  have HF2:Hid (q=decide (ko=b.types[f].kind)):=aF (by rw [HF.out,kindT];simp [hf])
  generalize b.types[f]=ty at hx HF2
  obtain ⟨r1,-⟩:=hx
  clear HS HF
  have HB1:=aF (fun (W:World) (h:Below w.heap.size w W)=>h.drew)
  go_enter Tryz.func181,Tryz.ntmps181
  go_wp2_with fail
  have HB2:=aF (HB1.out _ (bel2 w (.cells #[.string b.name,.slice bh.A1 b.regions.length bh.c1,.slice bh.A2 b.outl.length bh.c2,.slice (some ⟨bb,oo,none⟩) b.types.length bh.c3,.slice bh.A4 b.locals.length bh.c4,.int .i64 b.args,.slice bh.A5 b.blocks.length bh.c5,.pointer (some ⟨r,0,none⟩)] 137) (.cells #[.int .i64 o.kind,.int .i64 o.place.loc,.slice A o.place.proj.length c,.int .i64 o.n] 175)))
  obtain ⟨y,z⟩:=cR (w:=w) (l1:=[.string b.name,.slice bh.A1 b.regions.length bh.c1,.slice bh.A2 b.outl.length bh.c2,.slice (some ⟨bb,oo,none⟩) b.types.length bh.c3,.slice bh.A4 b.locals.length bh.c4,.int .i64 b.args,.slice bh.A5 b.blocks.length bh.c5,.pointer (some ⟨r,0,none⟩)]) (l2:=[.int .i64 o.kind,.int .i64 o.place.loc,.slice A o.place.proj.length c,.int .i64 o.n]) (t1:=137) (t2:=175) ((aV _ _).drew)
  have hS:=bI y (bI z (cell_keep HB2.out r1))
  clear y z
  refine cP (S:=fun X=>(aA [.string b.name,.slice bh.A1 b.regions.length bh.c1,.slice bh.A2 b.outl.length bh.c2,.slice (some ⟨bb,oo,none⟩) b.types.length bh.c3,.slice bh.A4 b.locals.length bh.c4,.int .i64 b.args,.slice bh.A5 b.blocks.length bh.c5,.pointer (some ⟨r,0,none⟩)] X w.heap.size)∧(aA [.int .i64 o.kind,.int .i64 o.place.loc,.slice A o.place.proj.length c,.int .i64 o.n] X (w.heap.size+1))∧X.cell? ⟨bb,oo+f * 5,none⟩=some (.int .i64 ty.kind)) [0,1,3,4,5,6,7,8,9,2,10,11] (by kernel_rfl) ?_
  (iterate 9 (refine cQ (v:=?_) ?_ hS ?_;rotate_left;(next=>(rintro X ⟨hX,hY,hZ⟩;obtain ⟨s0,s1,s2,s3,s4,s5,s6,s7⟩:=aR hX;obtain ⟨u0,u1,u2,u3⟩:=aN hY;(try simp only [aH]);go_simp;rfl));simp only [aH,Act.put,aJ]))
  (refine cS (by kernel_rfl) (fun K1 hK1=>?_);simp only [aH,Act.put,aJ];rw [aY (by rfl)];go_simp)
  refine (HK.out _ HB2.out).mono ?_
  rintro e' w2 ⟨rfl,hb⟩
  replace hS:=bI (fun i v hi=>cell_keep hb (hS.1 i v hi)) (bI (fun i v hi=>cell_keep hb (hS.2.1 i v hi)) (cell_keep hb hS.2.2))
  have HB3:=aF (HB2.out.trans (hb.mono HB2.out.size))
  clear hb
  refine hK1.out _ _ (fun _=>hS) ?_
  (iterate 2 (refine cQ (v:=?_) ?_ hS ?_;rotate_left;(next=>(rintro X -;(try simp only [aH]);go_simp;rfl));simp only [aH,Act.put,aJ]))
  refine cV (by kernel_rfl) ?_
  go_wp2_with fail
  go_ret
  exact ⟨by rw [HF2.out];rfl,HB3.out⟩
end
section
open Go Go.RowKit Go.Maps Go.WideMaps
theorem xGT (w:World) (b:Bdy) (A:Option Addr) (c r:Nat) (t0 t1 t2 t3:TypeId):
 SubE.St ⟨w,A,c,w.heap.size+3,w.heap.size+1,w.heap.size,w.heap.size+4,w.heap.size+2,r⟩ b (((((w.alloc (.cells #[.pointer (some ⟨r,0,none⟩)] t0)).alloc (.cells #[.slice A b.types.length c] t1)).alloc (.map #[] 0)).alloc (.cells #[.map (some (w.heap.size+2))] t2)).alloc (.cells #[SubE.F ⟨w,A,c,w.heap.size+3,w.heap.size+1,w.heap.size,w.heap.size+4,w.heap.size+2,r⟩] t3)) []:=by
 obtain ⟨F,hF⟩:∃F,SubE.F ⟨w,A,c,w.heap.size+3,w.heap.size+1,w.heap.size,w.heap.size+4,w.heap.size+2,r⟩=F:=⟨_,rfl⟩
 rw [hF]
 have keepA:∀(W W':World) (p:Addr) (v:Value),Below W.heap.size W W'→W.cell? p=some v→W'.cell? p=some v:=fun W W' p v hb h=>cell_keep hb h
 refine ⟨aG,?_,?_,?_,?_,?_,by simp,by simp⟩
 ·have:=cW (((w.alloc (.cells #[.pointer (some ⟨r,0,none⟩)] t0)).alloc (.cells #[.slice A b.types.length c] t1)).alloc (.map #[] 0)) [.map (some (w.heap.size+2))] t2 0 _ rfl
  simp only [bH] at this
  exact cell_keep ((aV _ _).alloc (aW _) _) this
 ·have:=cW (w.alloc (.cells #[.pointer (some ⟨r,0,none⟩)] t0)) [.slice A b.types.length c] t1 0 _ rfl
  simp only [bH] at this
  exact cell_keep ((((aV _ _).alloc (aW _) _).alloc (by simp) _).alloc (by simp) _) this
 ·have:=cW w [.pointer (some ⟨r,0,none⟩)] t0 0 _ rfl
  exact cell_keep (((((aV _ _).alloc (aW _) _).alloc (by simp) _).alloc (by simp) _).alloc (by simp) _) this
 ·have:=cW ((((w.alloc (.cells #[.pointer (some ⟨r,0,none⟩)] t0)).alloc (.cells #[.slice A b.types.length c] t1)).alloc (.map #[] 0)).alloc (.cells #[.map (some (w.heap.size+2))] t2)) [F] t3 0 _ rfl
  simp only [bH] at this
  rw [hF]
  exact this
 ·have:=Memo.made ((w.alloc (.cells #[.pointer (some ⟨r,0,none⟩)] t0)).alloc (.cells #[.slice A b.types.length c] t1)) Tryz.prog 79 (subB b)
  simp only [bH] at this
  exact (this.alloc _).alloc _
theorem xFB (b:Bdy) (A:Option Addr) (c r:Nat) (s t:Int) (w:World) (hs:Slc 5 RTy w A c b.types) (hok:DeclOk b) (hrel:Rel3 w r b.regions.length (relL b.outl)):
 Calls Tryz.prog 218 #[.pointer (some ⟨r,0,none⟩),.slice A b.types.length c,.int .i64 s,.int .i64 t] w fun e' w'=>e' = .returned (.bool (subB b s t))∧Below w.heap.size w w':=by
 have hle:=hs.le
 have hbig:=hs.big
 by_cases hr:0≤s∧s<(b.types.length:Int)∧0≤t∧t<(b.types.length:Int)
 case neg=>
  rw [tG (by omega)]
  clear hs hrel hok
  go_enter Tryz.func218,Tryz.ntmps218
  go_wp2_with fail
  all_goals first
   | (exfalso;omega)
   | (go_ret;exact ⟨rfl,aG⟩)
 case pos=>
 obtain ⟨i,rfl⟩:=bF hr.1
 obtain ⟨j,rfl⟩:=bF hr.2.2.1
 have hi:i<b.types.length:=by omega
 have hj:j<b.types.length:=by omega
 have HE:SubE.Ok ⟨w,A,c,w.heap.size+3,w.heap.size+1,w.heap.size,w.heap.size+4,w.heap.size+2,r⟩ b:=⟨hs,hok,hrel,by simp,by simp,by simp,by simp,by simp⟩
 have HC:=aF (fun W h=>tH _ b HE (i+j+1) i j (by omega) hi hj W [] h)
 have hmm:= @run_makeMap Tryz.prog
 have hst:∀(a:Addr) (fn:Fn) (f c:Array Value) (W:World),(store a (.func fn f c)).run Tryz.prog W=stored Tryz.prog W a (.func fn f c) .plain:=fun a fn f c W=>run_store Tryz.prog W a (.func fn f c) _ rfl
 clear hs HE hok hrel
 generalize hq:subB b (i:Int) (j:Int)=q at HC ⊢
 go_enter Tryz.func218,Tryz.ntmps218
 go_wp2_with (go_at_call 231;refine (HC.out _ (xGT w b A c r _ _ _ _)).mono ?_;rintro e' w1 ⟨rfl,hq⟩;have HQ:=aF hq;clear hq)
 all_goals first
  | (exfalso;omega)
  | (go_ret
     obtain ⟨ks,h1,-⟩:=HQ.out
     exact ⟨rfl,h1.low⟩)
structure Ck (w:World) (b:Bdy) (bh:BH) (r:Nat):Prop where
 at_:BdAt w b bh
 ok:DeclOk b
 rel:Rel3 w r b.regions.length (relL b.outl)
theorem Ck.keep {w w':World} {b:Bdy} {bh:BH} {r:Nat} (h:Ck w b bh r) (hb:Below w.heap.size w w'):Ck w' b bh r:=⟨h.at_.keep hb,h.ok,h.rel.keep hb⟩
theorem qN {b:Bdy} {bh:BH} {r:Nat} {w:World} (H:Ck w b bh r) (o:Opd) (A:Option Addr) (c:Nat) (hp:Slc 2 RPj w A c o.place.proj):
 Calls Tryz.prog 128 #[.agg (ckC b bh r).toArray,.agg (opC o A c).toArray] w fun e' w'=>e' = .returned (.int .i64 (opE b o))∧Below w.heap.size w w':=
 sH b bh r o A c w H.at_ hp H.ok.okay (fun W hb i _h0 _h1=>xGI b.types H.ok.tyok H.ok.ntyp i bh.A3 bh.c3 W (H.keep hb).at_.typ)
theorem tW {b:Bdy} {o:Opd} (h:opE b o=0):o.kind≠2→o.kind≠3→o.kind≠4→(tyB b o.place).2=0:=by
 intro h2 h3 h4
 unfold opE at h
 by_cases c1:o.kind<0∨4<o.kind
 ·rw [aY c1] at h;cases h
 rw [aX c1] at h
 by_cases c2:(o.kind≠2∧o.kind≠3∧o.n≠0)∨(1<o.kind∧zeroP o.place=false)
 ·rw [aY c2] at h;cases h
 rw [aX c2,aX (by omega),aX (by omega)] at h
 by_cases c3:(tyB b o.place).2≠0
 ·rw [aY c3] at h;exact h
 ·simpa using c3
theorem tX {b:Bdy} {o:Opd} (h:opE b o=0):0≤o.kind∧o.kind≤4:=by
 unfold opE at h
 by_cases c1:o.kind<0∨4<o.kind
 ·rw [aY c1] at h;cases h
 ·omega
theorem uC {b:Bdy} {bh:BH} {r:Nat} {w:World} (H:Ck w b bh r) (o:Opd) (A:Option Addr) (c:Nat) (hp:Slc 2 RPj w A c o.place.proj) (ho:opE b o=0):
 Calls Tryz.prog 130 #[.agg (ckC b bh r).toArray,.agg (opC o A c).toArray] w fun e' w'=>e' = .returned (.int .i64 (kindO b o))∧Below w.heap.size w w':=
 mX b bh r o A c w H.at_ hp H.ok.okay (tW ho)
theorem xHH {b:Bdy} {bh:BH} {r:Nat} {w:World} (H:Ck w b bh r) (o:Opd) (A:Option Addr) (c:Nat) (hp:Slc 2 RPj w A c o.place.proj) (ho:opE b o=0) (f:Int) (h0:0≤f) (hf:f<b.types.length):
 Calls Tryz.prog 181 #[.agg (ckC b bh r).toArray,.agg (opC o A c).toArray,.int .i64 f] w fun e' w'=>e' = .returned (.bool (fitsO b o f))∧Below w.heap.size w w':=by
 obtain ⟨f,rfl⟩:=bF h0
 exact xDG b bh r o f A c w H.at_ hp H.ok.okay (tW ho) (by omega) (fun W hb i _ _=>xFB b bh.A3 bh.c3 r i f W (H.keep hb).at_.typ H.ok (H.keep hb).rel)
end
section
open Go Go.RowKit Go.Maps
theorem dH (b:Bdy) (fs:List Int):opsE b [] fs=0:=by rw [opsE]
theorem fK {b:Bdy} {o:Opd} (h:opE b o≠0) (r:List Opd) (fs:List Int):opsE b (o :: r) fs=opE b o:=by
 cases fs <;> (rw [opsE,aX h])
theorem fR {b:Bdy} {o:Opd} (h:opE b o=0) (r:List Opd):opsE b (o :: r) []=opsE b r []:=by rw [opsE,aY h]
theorem lE {b:Bdy} {o:Opd} (h:opE b o=0) (r:List Opd) (f:Int) (fs:List Int):opsE b (o :: r) (f :: fs)=if fitsO b o f=true then opsE b r fs else 22:=by rw [opsE,aY h]
theorem keepO {w W:World} {o:Obj} {p:Addr} {v:Value} (hb:Below (w.alloc o).heap.size (w.alloc o) W) (h:w.cell? p=some v):W.cell? p=some v:=
 cell_keep hb (((((aV w.heap.size w).alloc (aW _) o).cell (p:=p) (cD w p h))).trans h)
theorem dM {W w1:World} {n:Nat} {l:List Value} {o:Obj} (h:∀i v,l[i]?=some v→W.cell? ⟨n,i,none⟩=some v) (hb:Below (W.alloc o).heap.size (W.alloc o) w1):∀i v,l[i]?=some v→w1.cell? ⟨n,i,none⟩=some v:=
 fun i v hi=>keepO hb (h i v hi)
theorem fV {b:Bdy} {bh:BH} {r:Nat} {w:World} (H:Ck w b bh r) (l:List Opd) (fs:List Int) (A C:Option Addr) (d f:Nat) (hl:Slc 4 ROp w A d l) (hf:Slc 1 RInt w C f fs) (hfr:∀x∈fs,0≤x∧x<(b.types.length:Int)):
 Calls Tryz.prog 131 #[.agg (ckC b bh r).toArray,.slice A l.length d,.slice C fs.length f] w fun e' w'=>e' = .returned (.int .i64 (opsE b l fs))∧Below w.heap.size w w':=by
 have hle:=hl.le
 have hbig:=hl.big
 have hle2:=hf.le
 have hbig2:=hf.big
 have HO:=aF (fun (W:World) (hb:Below w.heap.size w W) (o:Opd) (A:Option Addr) (c:Nat) (hp:Slc 2 RPj w A c o.place.proj)=>qN (H.keep hb) o A c (hp.keep RPj.keeps hb))
 have HFT:=aF (fun (W:World) (hb:Below w.heap.size w W) (o:Opd) (A:Option Addr) (c:Nat) (hp:Slc 2 RPj w A c o.place.proj) (ho:opE b o=0) (f:Int) (h0:0≤f) (hf:f<b.types.length)=>xHH (H.keep hb) o A c (hp.keep RPj.keeps hb) ho f h0 hf)
 have HL:=aF hl
 have HFS:=aF hf
 obtain ⟨R,hR⟩:∃R,opsE b l fs=R:=⟨_,rfl⟩
 rw [hR]
 have HR:=aF hR
 have HX0:=aF (cW w (ckC b bh r) 137)
 clear hR hl hf H
 unfold ckC at HO HFT HX0 ⊢
 go_enter Tryz.func131,Tryz.ntmps131
 go_wp2_with fail
 go_loopw [12] (fun v wr=>∃k:Nat,k≤l.length∧v = .int .i64 k∧Hid (aA (bdH b bh [.pointer (some ⟨r,0,none⟩)]) wr w.heap.size)∧Hid (Below w.heap.size w wr)∧w.heap.size+1≤wr.heap.size∧Hid (R=opsE b (l.drop k) (fs.drop k))) (fun v _=>l.length - (intOf v).toNat)
 case atStart=>exact ⟨0,by omega,rfl,HX0,aF ((aV _ _).alloc (aW _) _),by simp,aF HR.out.symm⟩
 case round=>
  clear HX0
  obtain ⟨k,hk,rfl,HX,HB,hsz,hr⟩:=hrel
  have hlw:w.heap.size<wr.heap.size:=hsz
  obtain ⟨x0,x1,x2,x3,x4,x5,x6,x7⟩:=aR HX.out
  by_cases hlt:k<l.length
  ·have hd:=cU hlt
   obtain ⟨bb,oo,rfl,hbb,hx⟩:=HL.out.sl.at_ hlt
   obtain ⟨o,hxx⟩:∃o,l[k]=o:=⟨_,rfl⟩
   rw [hxx] at hd hx
   obtain ⟨p0,⟨p1,A2,c2,p2,hc1,hc2,hsl⟩,p3⟩:=hx
   have HPJ:Hid (Slc 2 RPj w A2 c2 o.place.proj):=aF ⟨hsl,hc1,hc2⟩
   replace p0:=cell_keep HB.out p0
   replace p1:=cell_keep HB.out p1
   replace p2:=cell_keep HB.out p2
   replace p3:=cell_keep HB.out p3
   rw [Nat.add_assoc (oo+k * 4) 1 1] at p2
   have HOK:=aF (fun W hb=>HO.out W hb o A2 c2 HPJ.out)
   have HQ:Hid (R=opsE b (o :: l.drop (k+1)) (fs.drop k)):=aF (by rw [hr.out,hd])
   clear hd hxx hsl hc1 hc2 hr
   unfold opC at HOK
   by_cases he:opE b o=0
   ·have HE:=aF he
    rw [he] at HOK
    have HBA:=aF (HB.out.alloc (by omega) (.cells (opC o A2 c2).toArray 175))
    by_cases hkf:k<fs.length
    ·obtain ⟨b3,o3,rfl,hb3,hy⟩:=HFS.out.sl.at_ hkf
     have hyr:=hfr fs[k] (bM hkf)
     obtain ⟨y,hyy⟩:∃y,fs[k]=y:=⟨_,rfl⟩
     have hd2:=cU hkf
     rw [hyy] at hy hyr hd2
     have y0:w.cell? ⟨b3,o3+k,none⟩=some (.int .i64 y):=by simpa [RInt] using hy
     have HY0:=aF y0
     have HQ2:Hid (R=if fitsO b o y=true then opsE b (l.drop (k+1)) (fs.drop (k+1)) else 22):=aF (by rw [HQ.out,hd2,lE he])
     have HFK:=aF (fun W hb=>HFT.out W hb o A2 c2 HPJ.out he y hyr.1 hyr.2)
     unfold opC at HFK
     have ek:decide ((k:Int)<(fs.length:Int))=true:=by simp;omega
     have EK:=aF ek
     clear hy hyy hyr hd2 he HQ y0 ek
     generalize fitsO b o y=q at HFK HQ2
     go_wp2_with (go_at_call 128;refine (HOK.out _ HBA.out).mono ?_;rintro e' w1 ⟨rfl,hb1⟩;have HB1:=aF hb1;have HW1:=aF (HBA.out.trans (hb1.mono HBA.out.size));clear hb1)
     have hS:=bI (dM HX.out HB1.out) (bI (cells_kept (cW wr (opC o A2 c2) 175) HB1.out) (cell_keep HW1.out HY0.out))
     replace hS:(aA (bdH b bh [.pointer (some ⟨r,0,none⟩)]) w1.drew w.heap.size)∧(aA (opC o A2 c2) w1.drew wr.heap.size)∧w1.drew.cell? ⟨b3,o3+k,none⟩=some (.int .i64 y):=hS
     clear x0 x1 x2 x3 x4 x5 x6 x7 p0 p1 p2 p3
     refine cP (S:=fun X=>(aA (bdH b bh [.pointer (some ⟨r,0,none⟩)]) X w.heap.size)∧(aA (opC o A2 c2) X wr.heap.size)∧X.cell? ⟨b3,o3+k,none⟩=some (.int .i64 y)) [0,1,2,3,4,5,6,7,8,9,10,11,12,13] (by kernel_rfl) ?_
     (iterate 4 (refine cQ (v:=?_) ?_ hS ?_;rotate_left;(next=>(rintro X -;(try simp only [aH]);go_simp;rfl));simp only [aH,Act.put,aJ]))
     try rw [EK.out]
     (iterate 7 (refine cQ (v:=?_) ?_ hS ?_;rotate_left;(next=>(rintro X ⟨hX,hY,s8⟩;obtain ⟨s0,s1,s2,s3,s4,s5,s6,s7⟩:=aR hX;obtain ⟨u0,u1,u2,u3⟩:=aN hY;(try simp only [aH]);go_simp;rfl));simp only [aH,Act.put,aJ]))
     (refine cS (by kernel_rfl) (fun K1 hK1=>?_);simp only [aH,Act.put,aJ];rw [aY (by rfl)];go_simp)
     refine (HFK.out _ HW1.out.drew).mono ?_
     rintro e' w2 ⟨rfl,hb⟩
     replace hS:=bI (fun i v hi=>cell_keep hb (hS.1 i v hi)) (bI (fun i v hi=>cell_keep hb (hS.2.1 i v hi)) (cell_keep hb hS.2.2))
     have HW2:=aF (HW1.out.drew.trans (hb.mono HW1.out.size))
     have hsz2:=HW1.out.size
     have hsz3:=hb.size
     have hsz4:=HB1.out.size
     simp only [bH] at hsz4
     clear hb
     refine hK1.out _ _ (fun _=>hS) ?_
     (iterate 2 (refine cQ (v:=?_) ?_ hS ?_;rotate_left;(next=>(rintro X -;(try simp only [aH]);go_simp;rfl));simp only [aH,Act.put,aJ]))
     refine cV (by kernel_rfl) ?_
     cases q
     ·have HF:Hid (R=22):=HQ2
      clear HQ2
      go_wp2_with fail
      go_ret
      exact ⟨by rw [HF.out];rfl,HW2.out⟩
     ·have HF:Hid (R=opsE b (l.drop (k+1)) (fs.drop (k+1))):=HQ2
      have HX2:=aF hS.1
      clear HQ2 hS
      go_wp2_with fail
      go_roundw
      case rel=>exact ⟨k+1,by omega,by go_num,HX2,HW2,by have:w1.drew.heap.size=w1.heap.size:=rfl;omega,HF⟩
      case measure=>simp [intOf];omega
    ·have ek:decide ((k:Int)<(fs.length:Int))=false:=by simp;omega
     have EK:=aF ek
     have HF:Hid (R=opsE b (l.drop (k+1)) (fs.drop (k+1))):=aF (by rw [HQ.out,bD (by omega:fs.length≤k),bD (by omega:fs.length≤k+1),fR he])
     clear he HQ ek
     go_wp2_with (go_at_call 128;refine (HOK.out _ HBA.out).mono ?_;rintro e' w1 ⟨rfl,hb1⟩;have HB1:=aF hb1;have HW1:=aF (HBA.out.trans (hb1.mono HBA.out.size));clear hb1)
     have hS:True:=trivial
     have HX2:=aF (dM HX.out HB1.out)
     have hsz4:=HB1.out.size
     simp only [bH] at hsz4
     clear x0 x1 x2 x3 x4 x5 x6 x7 p0 p1 p2 p3
     refine cP (S:=fun _=>True) [0,1,2,3,4,5,6,7,8,9,10,11,12,13] (by kernel_rfl) ?_
     (iterate 4 (refine cQ (v:=?_) ?_ hS ?_;rotate_left;(next=>(rintro X -;(try simp only [aH]);go_simp;rfl));simp only [aH,Act.put,aJ]))
     try rw [EK.out]
     (iterate 1 (refine cQ (v:=?_) ?_ hS ?_;rotate_left;(next=>(rintro X -;(try simp only [aH]);go_simp;rfl));simp only [aH,Act.put,aJ]))
     (iterate 8 (refine dA (v:=undef) (by kernel_rfl) (fun _ _ _ h=>h) (Or.inr ⟨by rfl,rfl⟩) hS ?_;simp only [aH,Act.put,aJ]))
     (iterate 1 (refine cQ (v:=?_) ?_ hS ?_;rotate_left;(next=>(rintro X -;(try simp only [aH]);go_simp;rfl));simp only [aH,Act.put,aJ]))
     refine cV (by kernel_rfl) ?_
     go_wp2_with fail
     go_roundw
     case rel=>exact ⟨k+1,by omega,by go_num,HX2,aF HW1.out.drew,by have:w1.drew.heap.size=w1.heap.size:=rfl;omega,HF⟩
     case measure=>simp [intOf];omega
   ·have HF:Hid (R=opE b o):=aF (by rw [HQ.out,fK he])
    generalize opE b o=eo at HOK HF he
    have e1:(eo != 0)=true:=by simp [he]
    have HBA:=aF (HB.out.alloc (by omega) (.cells (opC o A2 c2).toArray 175))
    clear he HQ
    go_wp2_with (go_at_call 128;refine (HOK.out _ HBA.out).mono ?_;rintro e' w1 ⟨rfl,hb1⟩;have HW1:=aF (HBA.out.trans (hb1.mono HBA.out.size));clear hb1)
    go_ret
    exact ⟨by rw [HF.out];rfl,HW1.out⟩
  ·have HF:Hid (R=0):=aF (by rw [hr.out,bD (by omega:l.length≤k),dH])
   clear hr
   go_wp2_with fail
   go_ret
   exact ⟨by rw [HF.out];rfl,HB.out⟩
theorem xW (b:Bdy) (hok:DeclOk b) (m:Nat) (HREC0:∀(s t:Int),s.toNat+t.toNat<m→∀(A D:Option Addr) (c d:Nat) (w:World),Slc 5 RTy w A c b.types→Slc 2 RPr w D d b.outl→Calls Tryz.prog 193 #[.slice D b.outl.length d,.int .i64 b.regions.length,.slice A b.types.length c,.int .i64 s,.int .i64 t] w fun e' w'=>e' = .returned (.bool (subB b s t))∧Below w.heap.size w w') (i j0:Nat) (hm:(i:Int).toNat+(j0:Int).toNat<m+1) (hi:i<b.types.length) (hj0:j0<b.types.length) (A D:Option Addr) (c d:Nat) (w:World) (hs:Slc 5 RTy w A c b.types) (hd:Slc 2 RPr w D d b.outl) (hcase:((b.types[i].kind != b.types[j0].kind) || (b.types[i].mu != b.types[j0].mu) || ((b.types[i].flds.length:Int) != (b.types[j0].flds.length:Int)))=true):
 Calls Tryz.prog 193 #[.slice D b.outl.length d,.int .i64 b.regions.length,.slice A b.types.length c,.int .i64 i,.int .i64 j0] w fun e' w'=>e' = .returned (.bool (subB b i j0))∧Below w.heap.size w w':=by
 have hle:=hs.le
 have hbig:=hs.big
 have HREC:=aF (fun (x y:Int) (h:x.toNat+y.toNat<m) W (hb:Below w.heap.size w W)=>HREC0 x y h A D c d W (hs.keep RTy.keeps hb) (hd.keep RPr.keeps hb))
 have HO:=aF (fun (x y:Int) W (hb:Below w.heap.size w W)=>iY b.outl b.regions.length x y D d W (hd.keep RPr.keeps hb) hok.pairs (by have:=hok.nreg;omega))
 have h1:¬(i:Int)<0:=by omega
 have h2:¬(b.types.length:Int)≤(i:Int):=by omega
 have h3:¬(j0:Int)<0:=by omega
 have h4:¬(b.types.length:Int)≤(j0:Int):=by omega
 have HSB:=aF (jP hok.tyok hi hj0)
 have HOKS:=aF (hok.tyok i hi)
 have HOKT:=aF (hok.tyok j0 hj0)
 obtain ⟨bb,oo,hA,hbb,hxs⟩:=hs.sl.at_ hi
 obtain ⟨b2,o2,hA2,hbb2,hxt⟩:=hs.sl.at_ hj0
 have hAA:some (⟨bb,oo,none⟩:Addr)=some ⟨b2,o2,none⟩:=hA.symm.trans hA2
 simp only [cJ,Addr.mk.injEq,and_true] at hAA
 obtain ⟨rfl,rfl⟩:=hAA
 clear hA2 hbb2
 obtain ⟨ta,hta⟩:∃x,b.types[i]=x:=⟨_,rfl⟩
 obtain ⟨tb,htb⟩:∃x,b.types[j0]=x:=⟨_,rfl⟩
 rw [hta] at hxs HSB HOKS hcase
 rw [htb] at hxt HSB HOKT hcase
 obtain ⟨r0,r1,r2,r3,A2,c2,r4,r6,r7,r8⟩:=hxs
 obtain ⟨q0,q1,q2,q3,B2,d2,q4,q6,q7,q8⟩:=hxt
 have HFA:Hid (Slc 1 RInt w A2 c2 ta.flds):=aF ⟨r8,r6,r7⟩
 have HFB:Hid (Slc 1 RInt w B2 d2 tb.flds):=aF ⟨q8,q6,q7⟩
 subst hA
 simp only [bV] at hm
 have HCALL:Hid (∀(x y:Int),((0≤x∧x<i∧0≤y∧y<j0)∨(0≤x∧x<j0∧0≤y∧y<i))→∀W,Below w.heap.size w W→_):=aF (fun x y h W hb=>HREC.out x y (by omega) W hb)
 clear hs hd r8 q8 hta htb HREC
 obtain ⟨ma,hma⟩:∃q,ta.mu=q:=⟨_,rfl⟩
 obtain ⟨mb,hmb⟩:∃q,tb.mu=q:=⟨_,rfl⟩
 obtain ⟨ka,hka⟩:∃q,ta.kind=q:=⟨_,rfl⟩
 obtain ⟨kb,hkb⟩:∃q,tb.kind=q:=⟨_,rfl⟩
 obtain ⟨na,hna⟩:∃q,ta.flds.length=q:=⟨_,rfl⟩
 obtain ⟨nb,hnb⟩:∃q,tb.flds.length=q:=⟨_,rfl⟩
 rw [hma] at r1
 rw [hmb] at q1
 rw [hka] at r0
 rw [hkb] at q0
 rw [hna] at r4 r6
 rw [hnb] at q4 q6
 obtain ⟨p1,hp1⟩:∃q,(ka != kb)=q:=⟨_,rfl⟩
 obtain ⟨p2,hp2⟩:∃q,(ma != mb)=q:=⟨_,rfl⟩
 obtain ⟨p3,hp3⟩:∃q,((na:Int) != (nb:Int))=q:=⟨_,rfl⟩
 rw [hma,hmb,hka,hkb,hna,hnb,hp1,hp2,hp3] at hcase
 have HLAW:Hid (subB b i j0=(!p1 && !p2 && !p3 && (ta.flds.zip tb.flds).all (fun p=>subB b p.1 p.2) && (decide (ta.kind≠3) || (outB b.outl b.regions.length ta.reg tb.reg && subB b ta.elem tb.elem && (!ta.mu || subB b tb.elem ta.elem))))):=aF (by
  rw [HSB.out]
  unfold subS
  have g1:decide (ta.kind=tb.kind) = !p1:=by rw [← hp1,hka,hkb,bQ];simp
  have g2:decide (ta.mu=tb.mu) = !p2:=by rw [← hp2,hma,hmb];cases ma <;> cases mb <;> rfl
  have g3:decide (ta.flds.length=tb.flds.length) = !p3:=by rw [← hp3,hna,hnb,bQ];simp;omega
  rw [g1,g2,g3])
 clear HSB
 have HB0:=aF (fun x y=>bel2 w x y)
 have HB0:=aF (fun x y=>bel2 w x y)
 have HF:Hid (subB b i j0=false):=aF (by rw [HLAW.out];revert hcase;cases p1 <;> cases p2 <;> cases p3 <;> simp)
 rw [HF.out]
 clear HLAW HCALL HO hma hmb hka hkb hna hnb
 rcases (show p1=true∨(p1=false∧p2=true)∨(p1=false∧p2=false∧p3=true) by revert hcase;cases p1 <;> cases p2 <;> cases p3 <;> simp) with rfl | ⟨rfl,rfl⟩ | ⟨rfl,rfl,rfl⟩
 ·clear hcase hp2 hp3
  go_enter Tryz.func193,Tryz.ntmps193
  go_wp2_with fail
  all_goals first
   | (exfalso;omega)
   | (go_ret;exact ⟨rfl,HB0.out _ _⟩)
 ·clear hcase hp3
  have hmm:(ma=true∧mb=false)∨(ma=false∧mb=true):=by revert hp2;cases ma <;> cases mb <;> simp
  clear hp2
  rcases hmm with ⟨rfl,rfl⟩ | ⟨rfl,rfl⟩
  all_goals
   go_enter Tryz.func193,Tryz.ntmps193
   go_wp2_with fail
   all_goals first
    | (exfalso;omega)
    | (go_ret;exact ⟨rfl,HB0.out _ _⟩)
 ·clear hcase
  obtain rfl:ma=mb:=by revert hp2;cases ma <;> cases mb <;> simp
  clear hp2
  go_enter Tryz.func193,Tryz.ntmps193
  go_wp2_with fail
  all_goals first
   | (exfalso;omega)
   | (go_ret;exact ⟨rfl,HB0.out _ _⟩)
end
section
open Go Go.RowKit
theorem xBE {prev:List Ty} {d:List Int} {n:Int} {t:Ty} (hn:n≤65535) (hdl:d.length≤65535) (h:(tyE prev d n t).1=0):TyGood t:=by
 unfold tyE at h
 by_cases c1:t.kind<0∨4<t.kind
 ·rw [aY c1] at h;cases h
 rw [aX c1] at h
 by_cases c2:(t.kind≠3∧(t.mu=true∨t.reg≠0∨t.elem≠0))∨(t.kind≠4∧0<t.flds.length)
 ·rw [aY c2] at h;cases h
 rw [aX c2] at h
 by_cases c3:t.kind=3∧(t.reg<0∨n≤t.reg)
 ·rw [aY c3] at h;cases h
 rw [aX c3] at h
 have hfl:t.kind≠4→t.flds=[]:=fun h4=>by
  have:¬0<t.flds.length:=fun h5=>c2 (Or.inr ⟨h4,h5⟩)
  exact List.length_eq_zero_iff.1 (by omega)
 have hz:t.kind≠3→t.mu=false∧t.reg=0∧t.elem=0:=fun h3=>by
  have a1:¬(t.mu=true∨t.reg≠0∨t.elem≠0):=fun h5=>c2 (Or.inl ⟨h3,h5⟩)
  refine ⟨?_,?_,?_⟩
  ·cases hm:t.mu with
   | false=>rfl
   | true=>exact absurd (Or.inl hm) a1
  ·exact Decidable.byContradiction fun h=>a1 (Or.inr (Or.inl h))
  ·exact Decidable.byContradiction fun h=>a1 (Or.inr (Or.inr h))
 cases hd:depF d 0 (if t.kind=3 then [t.elem] else t.flds) with
 | none=>rw [hd] at h;cases h
 | some k=>
   rw [hd] at h
   simp only at h
   have hin:=sP d _ _ _ hd
   by_cases c4:t.kind=4∧(t.flds.length=0∨65535<t.flds.length)
   ·rw [aY c4] at h;cases h
   by_cases h3:t.kind=3
   ·rw [aY h3] at hin
    have:=hin t.elem (by simp)
    have:¬(t.reg<0∨n≤t.reg):=fun h=>c3 ⟨h3,h⟩
    exact .inl ⟨h3,by omega,by omega,hfl (by omega)⟩
   ·rw [aX h3] at hin
    obtain ⟨z1,z2,z3⟩:=hz h3
    by_cases h4:t.kind=4
    ·have:¬(t.flds.length=0∨65535<t.flds.length):=fun h=>c4 ⟨h4,h⟩
     exact .inr (.inl ⟨h4,z1,z2,z3,by omega,fun i hi=>by have:=hin i hi;omega⟩)
    ·exact .inr (.inr ⟨by omega,by omega,z1,z2,z3,hfl h4⟩)
theorem iE {n:Int} (hn:n≤65535):∀(l prev:List Ty) (d:List Int),d.length+l.length≤65535→typesE n prev d l=0→∀x∈l,TyGood x
 | [],_,_,_,_=>fun x h=>absurd h (by simp)
 | t :: r,prev,d,hd,h=>by
   rw [typesE] at h
   simp only [bJ] at hd
   by_cases h0:(tyE prev d n t).1=0
   ·rw [aY h0] at h
    intro x hx
    rcases List.mem_cons.1 hx with rfl | hx
    ·exact xBE hn (by omega) h0
    ·exact iE hn r _ _ (by simp only [aZ,bJ,bO];omega) h x hx
   ·rw [aX h0] at h
    exact absurd h h0
theorem xAG {t:List ByteArray} {b:Bdy} (h:declC b=0) (ht:t.length≤65536) (hn:memN b.name t=true) (hr:∀s∈b.regions,memN s t=true) (hl:∀x∈b.locals,memN x.name t=true):DGood t b:=by
 have H:=dY h
 have hty:=H.typC
 unfold typesC at hty
 rw [aX (by have:=H.ntyp;omega)] at hty
 have h1:=H.nreg
 have h2:=H.nloc
 have h3:=H.ntyp
 have h4:=H.args
 refine ⟨ht,hn,h1,hr,H.nout,fun p hp=>?_,h3,iE (by omega) _ _ _ (by simpa using h3) hty,h2,fun x hx=>⟨hl x hx,?_⟩,by omega⟩
 ·have:=H.pairs p hp
  omega
 ·have:=(H.locs x hx).2
  omega
end
end Go.Proofs.YtbnljlpefpllcaaGreatDoor
