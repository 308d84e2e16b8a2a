/-
  Parts of the proof: V42L V42T V42 V43 V35 V36.
-/
import Derived.Test.YtbnljlpefpllcaaGreatDoorME0
import Derived.Test.YtbnljlpefpllcaaGreatDoorME11
namespace Go.Proofs.YtbnljlpefpllcaaGreatDoor
set_option maxRecDepth 100000
set_option maxHeartbeats 16000000
section
open Go Go.RowKit Go.Maps
theorem xCB (b:Bdy) (hok:DeclOk b) (m:Nat) (HREC0:∀(s t:Int),s.toNat+t.toNat<m→∀(A D:Option Addr) (c d:Nat) (w:World),Slc 5 RTy w A c b.types→Slc 2 RPr w D d b.outl→Calls Tryz.prog 193 #[.slice D b.outl.length d,.int .i64 b.regions.length,.slice A b.types.length c,.int .i64 s,.int .i64 t] w fun e' w'=>e' = .returned (.bool (subB b s t))∧Below w.heap.size w w') (i j0:Nat) (hm:(i:Int).toNat+(j0:Int).toNat<m+1) (hi:i<b.types.length) (hj0:j0<b.types.length) (A D:Option Addr) (c d:Nat) (w:World) (hs:Slc 5 RTy w A c b.types) (hd:Slc 2 RPr w D d b.outl) (hcase:((b.types[i].kind != b.types[j0].kind) || (b.types[i].mu != b.types[j0].mu) || ((b.types[i].flds.length:Int) != (b.types[j0].flds.length:Int)))=false) (hk:b.types[i].kind≠3):
 Calls Tryz.prog 193 #[.slice D b.outl.length d,.int .i64 b.regions.length,.slice A b.types.length c,.int .i64 i,.int .i64 j0] w fun e' w'=>e' = .returned (.bool (subB b i j0))∧Below w.heap.size w w':=by
 have hle:=hs.le
 have hbig:=hs.big
 have HREC:=aF (fun (x y:Int) (h:x.toNat+y.toNat<m) W (hb:Below w.heap.size w W)=>HREC0 x y h A D c d W (hs.keep RTy.keeps hb) (hd.keep RPr.keeps hb))
 have HO:=aF (fun (x y:Int) W (hb:Below w.heap.size w W)=>iY b.outl b.regions.length x y D d W (hd.keep RPr.keeps hb) hok.pairs (by have:=hok.nreg;omega))
 have h1:¬(i:Int)<0:=by omega
 have h2:¬(b.types.length:Int)≤(i:Int):=by omega
 have h3:¬(j0:Int)<0:=by omega
 have h4:¬(b.types.length:Int)≤(j0:Int):=by omega
 have HSB:=aF (jP hok.tyok hi hj0)
 have HOKS:=aF (hok.tyok i hi)
 have HOKT:=aF (hok.tyok j0 hj0)
 obtain ⟨bb,oo,hA,hbb,hxs⟩:=hs.sl.at_ hi
 obtain ⟨b2,o2,hA2,hbb2,hxt⟩:=hs.sl.at_ hj0
 have hAA:some (⟨bb,oo,none⟩:Addr)=some ⟨b2,o2,none⟩:=hA.symm.trans hA2
 simp only [cJ,Addr.mk.injEq,and_true] at hAA
 obtain ⟨rfl,rfl⟩:=hAA
 clear hA2 hbb2
 obtain ⟨ta,hta⟩:∃x,b.types[i]=x:=⟨_,rfl⟩
 obtain ⟨tb,htb⟩:∃x,b.types[j0]=x:=⟨_,rfl⟩
 rw [hta] at hxs HSB HOKS hcase hk
 rw [htb] at hxt HSB HOKT hcase
 obtain ⟨r0,r1,r2,r3,A2,c2,r4,r6,r7,r8⟩:=hxs
 obtain ⟨q0,q1,q2,q3,B2,d2,q4,q6,q7,q8⟩:=hxt
 have HFA:Hid (Slc 1 RInt w A2 c2 ta.flds):=aF ⟨r8,r6,r7⟩
 have HFB:Hid (Slc 1 RInt w B2 d2 tb.flds):=aF ⟨q8,q6,q7⟩
 subst hA
 simp only [bV] at hm
 have HCALL:Hid (∀(x y:Int),((0≤x∧x<i∧0≤y∧y<j0)∨(0≤x∧x<j0∧0≤y∧y<i))→∀W,Below w.heap.size w W→_):=aF (fun x y h W hb=>HREC.out x y (by omega) W hb)
 clear hs hd r8 q8 hta htb HREC
 obtain ⟨ma,hma⟩:∃q,ta.mu=q:=⟨_,rfl⟩
 obtain ⟨mb,hmb⟩:∃q,tb.mu=q:=⟨_,rfl⟩
 obtain ⟨ka,hka⟩:∃q,ta.kind=q:=⟨_,rfl⟩
 obtain ⟨kb,hkb⟩:∃q,tb.kind=q:=⟨_,rfl⟩
 obtain ⟨na,hna⟩:∃q,ta.flds.length=q:=⟨_,rfl⟩
 obtain ⟨nb,hnb⟩:∃q,tb.flds.length=q:=⟨_,rfl⟩
 rw [hma] at r1
 rw [hmb] at q1
 rw [hka] at r0
 rw [hkb] at q0
 rw [hna] at r4 r6
 rw [hnb] at q4 q6
 obtain ⟨p1,hp1⟩:∃q,(ka != kb)=q:=⟨_,rfl⟩
 obtain ⟨p2,hp2⟩:∃q,(ma != mb)=q:=⟨_,rfl⟩
 obtain ⟨p3,hp3⟩:∃q,((na:Int) != (nb:Int))=q:=⟨_,rfl⟩
 rw [hma,hmb,hka,hkb,hna,hnb,hp1,hp2,hp3] at hcase
 have HLAW:Hid (subB b i j0=(!p1 && !p2 && !p3 && (ta.flds.zip tb.flds).all (fun p=>subB b p.1 p.2) && (decide (ta.kind≠3) || (outB b.outl b.regions.length ta.reg tb.reg && subB b ta.elem tb.elem && (!ta.mu || subB b tb.elem ta.elem))))):=aF (by
  rw [HSB.out]
  unfold subS
  have g1:decide (ta.kind=tb.kind) = !p1:=by rw [← hp1,hka,hkb,bQ];simp
  have g2:decide (ta.mu=tb.mu) = !p2:=by rw [← hp2,hma,hmb];cases ma <;> cases mb <;> rfl
  have g3:decide (ta.flds.length=tb.flds.length) = !p3:=by rw [← hp3,hna,hnb,bQ];simp;omega
  rw [g1,g2,g3])
 clear HSB
 have HB0:=aF (fun x y=>bel2 w x y)
 have HB0:=aF (fun x y=>bel2 w x y)
 obtain ⟨rfl,rfl,rfl⟩:p1=false∧p2=false∧p3=false:=by revert hcase;cases p1 <;> cases p2 <;> cases p3 <;> simp
 obtain rfl:ma=mb:=by revert hp2;cases ma <;> cases mb <;> simp
 obtain rfl:ka=kb:=by simpa using hp1
 obtain rfl:na=nb:=by have h5:(na:Int)=nb:=by simpa using hp3
                      omega
 clear hp1 hp2 hp3 hmb
 have HMA:=aF hma
 have HKA:=aF hka
 have HKB:=aF hkb
 have HNA:=aF hna
 have HNB:=aF hnb
 clear hma hka hkb hna hnb
 obtain ⟨EE,hEE⟩:∃EE,(decide (ta.kind≠3) || (outB b.outl b.regions.length ta.reg tb.reg && subB b ta.elem tb.elem && (!ta.mu || subB b tb.elem ta.elem)))=EE:=⟨_,rfl⟩
 have HE:=aF hEE
 have HL2:Hid (subB b i j0=(((ta.flds.drop 0).zip (tb.flds.drop 0)).all (fun p=>subB b p.1 p.2) && EE)):=aF (by rw [HLAW.out,hEE,bW,bW];simp only [Bool.not_false,Bool.true_and])
 generalize subB b (i:Int) (j0:Int)=R at HL2 ⊢
 clear hcase HLAW hEE
 have HAC:=aF (fun k v (hk:([Value.int .i64 ka,.bool ma,.int .i64 ta.reg,.int .i64 ta.elem,.slice A2 na c2]:List Value)[k]?=some v)=>(cell_keep ((aV _ _).alloc (aW _) (.cells ([Value.int .i64 ka,.bool ma,.int .i64 tb.reg,.int .i64 tb.elem,.slice B2 na d2]:List Value).toArray 83)) (cW w [Value.int .i64 ka,.bool ma,.int .i64 ta.reg,.int .i64 ta.elem,.slice A2 na c2] 83 k v hk)))
 have HBC0:=aF (cW (w.alloc (.cells ([Value.int .i64 ka,.bool ma,.int .i64 ta.reg,.int .i64 ta.elem,.slice A2 na c2]:List Value).toArray 83)) [Value.int .i64 ka,.bool ma,.int .i64 tb.reg,.int .i64 tb.elem,.slice B2 na d2] 83)
 rw [bH] at HBC0
 go_enter Tryz.func193,Tryz.ntmps193
 go_wp2_with fail
 all_goals try (exfalso;omega)
 all_goals try (exfalso;simp_all;done)
 go_loopg [13] na (fun gk v wr=>∃j:Nat,gk=na - j∧j≤na∧v = .int .i64 j∧Hid (Below w.heap.size w wr)∧Hid (aA [Value.int .i64 ka,.bool ma,.int .i64 ta.reg,.int .i64 ta.elem,.slice A2 na c2] wr w.heap.size)∧Hid (aA [Value.int .i64 ka,.bool ma,.int .i64 tb.reg,.int .i64 tb.elem,.slice B2 na d2] wr (w.heap.size+1))∧Hid (R=(((ta.flds.drop j).zip (tb.flds.drop j)).all (fun p=>subB b p.1 p.2) && EE)))
 case atStart=>exact ⟨0,by omega,by omega,rfl,aF (HB0.out _ _),HAC,HBC0,HL2⟩
 case round=>
  clear HB0 HAC HBC0 HL2 r0 r1 r2 r3 r4 q0 q1 q2 q3 q4
  obtain ⟨j,hgk,hj,rfl,HBL,HA,HBC,HV⟩:=hrel
  obtain ⟨ca0,ca1,ca2,ca3,ca4⟩:=aO HA.out;obtain ⟨cb0,cb1,cb2,cb3,cb4⟩:=aO HBC.out
  by_cases hltn:j<na
  ·have hlt:j<ta.flds.length:=by rw [HNA.out];exact hltn
   have hlt2:j<tb.flds.length:=by rw [HNB.out];exact hltn
   obtain ⟨ba,oa,rfl,hba,hxa⟩:=HFA.out.sl.at_ hlt
   obtain ⟨b8,o8,rfl,hb8,hxb⟩:=HFB.out.sl.at_ hlt2
   have h5:=HOKS.out.2 ta.flds[j] (bM hlt)
   have h6:=HOKT.out.2 tb.flds[j] (bM hlt2)
   have HV2:Hid (R=(subB b ta.flds[j] tb.flds[j] && (((ta.flds.drop (j+1)).zip (tb.flds.drop (j+1))).all (fun p=>subB b p.1 p.2) && EE))):=aF (by rw [HV.out,cU hlt,cU hlt2,List.zip_cons_cons,cB,Bool.and_assoc])
   obtain ⟨x,hxx⟩:∃x,ta.flds[j]=x:=⟨_,rfl⟩
   obtain ⟨y,hyy⟩:∃y,tb.flds[j]=y:=⟨_,rfl⟩
   rw [hxx] at hxa h5 HV2
   rw [hyy] at hxb h6 HV2
   have xa:w.cell? ⟨ba,oa+j,none⟩=some (.int .i64 x):=by simpa [RInt] using hxa
   have xb:w.cell? ⟨b8,o8+j,none⟩=some (.int .i64 y):=by simpa [RInt] using hxb
   have HCX:=aF (HCALL.out x y (Or.inl ⟨h5.1,h5.2,h6.1,h6.2⟩))
   have XA:=aF xa
   have XB:=aF xb
   clear hxa hxb h5 h6 hxx hyy HV xa xb
   go_wp2_with fail
   have hS:Below w.heap.size w wr.drew∧(aA [Value.int .i64 ka,.bool ma,.int .i64 ta.reg,.int .i64 ta.elem,.slice (some ⟨ba,oa,none⟩) na c2] wr.drew w.heap.size)∧(aA [Value.int .i64 ka,.bool ma,.int .i64 tb.reg,.int .i64 tb.elem,.slice (some ⟨b8,o8,none⟩) na d2] wr.drew (w.heap.size+1)):=⟨HBL.out.drew,HA.out,HBC.out⟩
   clear ca0 ca1 ca2 ca3 ca4 cb0 cb1 cb2 cb3 cb4
   refine cP (S:=fun X=>Below w.heap.size w X∧(aA [Value.int .i64 ka,.bool ma,.int .i64 ta.reg,.int .i64 ta.elem,.slice (some ⟨ba,oa,none⟩) na c2] X w.heap.size)∧(aA [Value.int .i64 ka,.bool ma,.int .i64 tb.reg,.int .i64 tb.elem,.slice (some ⟨b8,o8,none⟩) na d2] X (w.heap.size+1))) [0,1,2,3,4,5,6,7,8,9,10,11,12,13,14] (by kernel_rfl) ?_
   (iterate 13 (refine cQ (v:=?_) ?_ hS ?_;rotate_left;(next=>(rintro X ⟨hZ,hX,hY⟩;have s4:=hX 4 _ rfl;have u4:=hY 4 _ rfl;have v1:=cell_keep hZ XA.out;have v2:=cell_keep hZ XB.out;(try simp only [aH]);go_simp;rfl));simp only [aH,Act.put,aJ]))
   (refine cS (by kernel_rfl) (fun K1 hK1=>?_);simp only [aH,Act.put,aJ];rw [aY (by rfl)];go_simp)
   refine (HCX.out _ hS.1).mono ?_
   rintro e' w2 ⟨rfl,hb⟩
   replace hS:=bI (hS.1.trans (hb.mono hS.1.size)) (bI (cells_kept hS.2.1 hb) (cells_kept hS.2.2 hb))
   clear hb
   refine hK1.out _ _ (fun _=>hS) ?_
   clear hK1
   have HS2:=aF hS
   generalize subB b x y=sb at HV2
   (iterate 1 (refine cQ (v:=?_) ?_ hS ?_;rotate_left;(next=>(rintro X -;(try simp only [aH]);go_simp;rfl));simp only [aH,Act.put,aJ]))
   refine cV (by kernel_rfl) ?_
   clear hS
   cases sb
   ·have HF:Hid (R=false):=aF (by rw [HV2.out];rfl)
    go_wp2_with fail
    go_ret
    exact ⟨by rw [HF.out];rfl,HS2.out.1⟩
   ·have HF:Hid (R=(((ta.flds.drop (j+1)).zip (tb.flds.drop (j+1))).all (fun p=>subB b p.1 p.2) && EE)):=aF (by rw [HV2.out,Bool.true_and])
    go_wp2_with fail
    go_roundg (na - (j+1))
    case measure=>omega
    case rel=>exact ⟨j+1,rfl,by omega,by go_num,aF HS2.out.1,aF HS2.out.2.1,aF HS2.out.2.2,HF⟩
  ·have HR:Hid (R=EE):=aF (by rw [HV.out,bD (by rw [HNA.out];omega:ta.flds.length≤j)];rfl)
   have e0:¬((j:Int)<(na:Int)):=by omega
   clear HV
   have e3:(ka != 3)=true:=by rw [← HKA.out];simp [hk]
   have HF:Hid (R=true):=aF (by rw [HR.out,← HE.out];simp [hk])
   go_wp2_with fail
   go_ret
   exact ⟨by rw [HF.out];rfl,HBL.out⟩
theorem xCA (b:Bdy) (hok:DeclOk b) (m:Nat) (HREC0:∀(s t:Int),s.toNat+t.toNat<m→∀(A D:Option Addr) (c d:Nat) (w:World),Slc 5 RTy w A c b.types→Slc 2 RPr w D d b.outl→Calls Tryz.prog 193 #[.slice D b.outl.length d,.int .i64 b.regions.length,.slice A b.types.length c,.int .i64 s,.int .i64 t] w fun e' w'=>e' = .returned (.bool (subB b s t))∧Below w.heap.size w w') (i j0:Nat) (hm:(i:Int).toNat+(j0:Int).toNat<m+1) (hi:i<b.types.length) (hj0:j0<b.types.length) (A D:Option Addr) (c d:Nat) (w:World) (hs:Slc 5 RTy w A c b.types) (hd:Slc 2 RPr w D d b.outl) (hcase:((b.types[i].kind != b.types[j0].kind) || (b.types[i].mu != b.types[j0].mu) || ((b.types[i].flds.length:Int) != (b.types[j0].flds.length:Int)))=false) (hk:b.types[i].kind=3):
 Calls Tryz.prog 193 #[.slice D b.outl.length d,.int .i64 b.regions.length,.slice A b.types.length c,.int .i64 i,.int .i64 j0] w fun e' w'=>e' = .returned (.bool (subB b i j0))∧Below w.heap.size w w':=by
 have hle:=hs.le
 have hbig:=hs.big
 have HREC:=aF (fun (x y:Int) (h:x.toNat+y.toNat<m) W (hb:Below w.heap.size w W)=>HREC0 x y h A D c d W (hs.keep RTy.keeps hb) (hd.keep RPr.keeps hb))
 have HO:=aF (fun (x y:Int) W (hb:Below w.heap.size w W)=>iY b.outl b.regions.length x y D d W (hd.keep RPr.keeps hb) hok.pairs (by have:=hok.nreg;omega))
 have h1:¬(i:Int)<0:=by omega
 have h2:¬(b.types.length:Int)≤(i:Int):=by omega
 have h3:¬(j0:Int)<0:=by omega
 have h4:¬(b.types.length:Int)≤(j0:Int):=by omega
 have HSB:=aF (jP hok.tyok hi hj0)
 have HOKS:=aF (hok.tyok i hi)
 have HOKT:=aF (hok.tyok j0 hj0)
 obtain ⟨bb,oo,hA,hbb,hxs⟩:=hs.sl.at_ hi
 obtain ⟨b2,o2,hA2,hbb2,hxt⟩:=hs.sl.at_ hj0
 have hAA:some (⟨bb,oo,none⟩:Addr)=some ⟨b2,o2,none⟩:=hA.symm.trans hA2
 simp only [cJ,Addr.mk.injEq,and_true] at hAA
 obtain ⟨rfl,rfl⟩:=hAA
 clear hA2 hbb2
 obtain ⟨ta,hta⟩:∃x,b.types[i]=x:=⟨_,rfl⟩
 obtain ⟨tb,htb⟩:∃x,b.types[j0]=x:=⟨_,rfl⟩
 rw [hta] at hxs HSB HOKS hcase hk
 rw [htb] at hxt HSB HOKT hcase
 obtain ⟨r0,r1,r2,r3,A2,c2,r4,r6,r7,r8⟩:=hxs
 obtain ⟨q0,q1,q2,q3,B2,d2,q4,q6,q7,q8⟩:=hxt
 have HFA:Hid (Slc 1 RInt w A2 c2 ta.flds):=aF ⟨r8,r6,r7⟩
 have HFB:Hid (Slc 1 RInt w B2 d2 tb.flds):=aF ⟨q8,q6,q7⟩
 subst hA
 simp only [bV] at hm
 have HCALL:Hid (∀(x y:Int),((0≤x∧x<i∧0≤y∧y<j0)∨(0≤x∧x<j0∧0≤y∧y<i))→∀W,Below w.heap.size w W→_):=aF (fun x y h W hb=>HREC.out x y (by omega) W hb)
 clear hs hd r8 q8 hta htb HREC
 obtain ⟨ma,hma⟩:∃q,ta.mu=q:=⟨_,rfl⟩
 obtain ⟨mb,hmb⟩:∃q,tb.mu=q:=⟨_,rfl⟩
 obtain ⟨ka,hka⟩:∃q,ta.kind=q:=⟨_,rfl⟩
 obtain ⟨kb,hkb⟩:∃q,tb.kind=q:=⟨_,rfl⟩
 obtain ⟨na,hna⟩:∃q,ta.flds.length=q:=⟨_,rfl⟩
 obtain ⟨nb,hnb⟩:∃q,tb.flds.length=q:=⟨_,rfl⟩
 rw [hma] at r1
 rw [hmb] at q1
 rw [hka] at r0
 rw [hkb] at q0
 rw [hna] at r4 r6
 rw [hnb] at q4 q6
 obtain ⟨p1,hp1⟩:∃q,(ka != kb)=q:=⟨_,rfl⟩
 obtain ⟨p2,hp2⟩:∃q,(ma != mb)=q:=⟨_,rfl⟩
 obtain ⟨p3,hp3⟩:∃q,((na:Int) != (nb:Int))=q:=⟨_,rfl⟩
 rw [hma,hmb,hka,hkb,hna,hnb,hp1,hp2,hp3] at hcase
 have HLAW:Hid (subB b i j0=(!p1 && !p2 && !p3 && (ta.flds.zip tb.flds).all (fun p=>subB b p.1 p.2) && (decide (ta.kind≠3) || (outB b.outl b.regions.length ta.reg tb.reg && subB b ta.elem tb.elem && (!ta.mu || subB b tb.elem ta.elem))))):=aF (by
  rw [HSB.out]
  unfold subS
  have g1:decide (ta.kind=tb.kind) = !p1:=by rw [← hp1,hka,hkb,bQ];simp
  have g2:decide (ta.mu=tb.mu) = !p2:=by rw [← hp2,hma,hmb];cases ma <;> cases mb <;> rfl
  have g3:decide (ta.flds.length=tb.flds.length) = !p3:=by rw [← hp3,hna,hnb,bQ];simp;omega
  rw [g1,g2,g3])
 clear HSB
 have HB0:=aF (fun x y=>bel2 w x y)
 have HB0:=aF (fun x y=>bel2 w x y)
 obtain ⟨rfl,rfl,rfl⟩:p1=false∧p2=false∧p3=false:=by revert hcase;cases p1 <;> cases p2 <;> cases p3 <;> simp
 obtain rfl:ma=mb:=by revert hp2;cases ma <;> cases mb <;> simp
 obtain rfl:ka=kb:=by simpa using hp1
 obtain rfl:na=nb:=by have h5:(na:Int)=nb:=by simpa using hp3
                      omega
 clear hp1 hp2 hp3 hmb
 have HMA:=aF hma
 have HKA:=aF hka
 have HKB:=aF hkb
 have HNA:=aF hna
 have HNB:=aF hnb
 clear hma hka hkb hna hnb
 obtain ⟨EE,hEE⟩:∃EE,(decide (ta.kind≠3) || (outB b.outl b.regions.length ta.reg tb.reg && subB b ta.elem tb.elem && (!ta.mu || subB b tb.elem ta.elem)))=EE:=⟨_,rfl⟩
 have HE:=aF hEE
 have HL2:Hid (subB b i j0=(((ta.flds.drop 0).zip (tb.flds.drop 0)).all (fun p=>subB b p.1 p.2) && EE)):=aF (by rw [HLAW.out,hEE,bW,bW];simp only [Bool.not_false,Bool.true_and])
 generalize subB b (i:Int) (j0:Int)=R at HL2 ⊢
 clear hcase HLAW hEE
 have HAC:=aF (fun k v (hk:([Value.int .i64 ka,.bool ma,.int .i64 ta.reg,.int .i64 ta.elem,.slice A2 na c2]:List Value)[k]?=some v)=>(cell_keep ((aV _ _).alloc (aW _) (.cells ([Value.int .i64 ka,.bool ma,.int .i64 tb.reg,.int .i64 tb.elem,.slice B2 na d2]:List Value).toArray 83)) (cW w [Value.int .i64 ka,.bool ma,.int .i64 ta.reg,.int .i64 ta.elem,.slice A2 na c2] 83 k v hk)))
 have HBC0:=aF (cW (w.alloc (.cells ([Value.int .i64 ka,.bool ma,.int .i64 ta.reg,.int .i64 ta.elem,.slice A2 na c2]:List Value).toArray 83)) [Value.int .i64 ka,.bool ma,.int .i64 tb.reg,.int .i64 tb.elem,.slice B2 na d2] 83)
 rw [bH] at HBC0
 go_enter Tryz.func193,Tryz.ntmps193
 go_wp2_with fail
 all_goals try (exfalso;omega)
 all_goals try (exfalso;simp_all;done)
 go_loopg [13] na (fun gk v wr=>∃j:Nat,gk=na - j∧j≤na∧v = .int .i64 j∧Hid (Below w.heap.size w wr)∧Hid (aA [Value.int .i64 ka,.bool ma,.int .i64 ta.reg,.int .i64 ta.elem,.slice A2 na c2] wr w.heap.size)∧Hid (aA [Value.int .i64 ka,.bool ma,.int .i64 tb.reg,.int .i64 tb.elem,.slice B2 na d2] wr (w.heap.size+1))∧Hid (R=(((ta.flds.drop j).zip (tb.flds.drop j)).all (fun p=>subB b p.1 p.2) && EE)))
 case atStart=>exact ⟨0,by omega,by omega,rfl,aF (HB0.out _ _),HAC,HBC0,HL2⟩
 case round=>
  clear HB0 HAC HBC0 HL2 r0 r1 r2 r3 r4 q0 q1 q2 q3 q4
  obtain ⟨j,hgk,hj,rfl,HBL,HA,HBC,HV⟩:=hrel
  obtain ⟨ca0,ca1,ca2,ca3,ca4⟩:=aO HA.out;obtain ⟨cb0,cb1,cb2,cb3,cb4⟩:=aO HBC.out
  have hlt:¬j<na:=by rw [← HNA.out,(HOKS.out.1 hk).2.2];simp
  have HR:Hid (R=EE):=aF (by rw [HV.out,bD (by rw [HNA.out];omega:ta.flds.length≤j)];rfl)
  have e0:¬((j:Int)<(na:Int)):=by omega
  clear HV
  have e3:(ka != 3)=false:=by rw [← HKA.out];simp [hk]
  have hk4:tb.kind=3:=by
   rw [HKB.out,← HKA.out];exact hk
  obtain ⟨a1,a2,-⟩:=HOKS.out.1 hk
  obtain ⟨b1,b2',-⟩:=HOKT.out.1 hk4
  have HE3:Hid (R=(outB b.outl b.regions.length ta.reg tb.reg && subB b ta.elem tb.elem && (!ta.mu || subB b tb.elem ta.elem))):=aF (by rw [HR.out,← HE.out];simp [hk])
  obtain ⟨o1,ho1⟩:∃q,outB b.outl b.regions.length ta.reg tb.reg=q:=⟨_,rfl⟩
  obtain ⟨s1,hs1⟩:∃q,subB b ta.elem tb.elem=q:=⟨_,rfl⟩
  obtain ⟨s2,hs2⟩:∃q,subB b tb.elem ta.elem=q:=⟨_,rfl⟩
  rw [ho1,hs1,hs2,HMA.out] at HE3
  have HE0:=aF ho1
  have HE1:=aF hs1
  have HE2:=aF hs2
  clear ho1 hs1 hs2 hk hk4 HOKS HOKT HE HR
  rcases (show o1=false∨(o1=true∧s1=false)∨(o1=true∧s1=true∧ma=false)∨(o1=true∧s1=true∧ma=true) by cases o1 <;> cases s1 <;> cases ma <;> simp) with rfl | ⟨rfl,rfl⟩ | ⟨rfl,rfl,rfl⟩ | ⟨rfl,rfl,rfl⟩
  ·have HF:Hid (R=false):=aF (by rw [HE3.out];rfl)
   go_wp2_with (go_at_call 192;refine (HO.out _ _ _ HBL.out).mono ?_;rintro e' w4 ⟨rfl,hb⟩;rw [HE0.out];have HBX1:=aF (HBL.out.trans (hb.mono HBL.out.size));have HA1:=aF (cells_kept HA.out hb);have HC1:=aF (cells_kept HBC.out hb);clear hb HA HBC;clear ca0 ca1 ca2 ca3 ca4 cb0 cb1 cb2 cb3 cb4;have HA:=HA1;have HBC:=HC1;obtain ⟨ca0,ca1,ca2,ca3,ca4⟩:=aO HA.out;obtain ⟨cb0,cb1,cb2,cb3,cb4⟩:=aO HBC.out)
   go_ret
   exact ⟨by rw [HF.out];rfl,HBX1.out⟩
  ·have HF:Hid (R=false):=aF (by rw [HE3.out];rfl)
   go_wp2_with (first | (go_at_call 193;refine (HCALL.out _ _ (by first | exact Or.inl ⟨by omega,by omega,by omega,by omega⟩ | exact Or.inr ⟨by omega,by omega,by omega,by omega⟩) _ (by exact HBX1.out)).mono ?_;rintro e' w2 ⟨rfl,hb⟩;rw [HE1.out];have HBX2:=aF (HBX1.out.trans (hb.mono HBX1.out.size));have HA2:=aF (cells_kept HA1.out hb);have HC2:=aF (cells_kept HC1.out hb);clear hb;clear ca0 ca1 ca2 ca3 ca4 cb0 cb1 cb2 cb3 cb4;have HA:=HA2;have HBC:=HC2;obtain ⟨ca0,ca1,ca2,ca3,ca4⟩:=aO HA.out;obtain ⟨cb0,cb1,cb2,cb3,cb4⟩:=aO HBC.out) | (go_at_call 192;refine (HO.out _ _ _ HBL.out).mono ?_;rintro e' w4 ⟨rfl,hb⟩;rw [HE0.out];have HBX1:=aF (HBL.out.trans (hb.mono HBL.out.size));have HA1:=aF (cells_kept HA.out hb);have HC1:=aF (cells_kept HBC.out hb);clear hb HA HBC;clear ca0 ca1 ca2 ca3 ca4 cb0 cb1 cb2 cb3 cb4;have HA:=HA1;have HBC:=HC1;obtain ⟨ca0,ca1,ca2,ca3,ca4⟩:=aO HA.out;obtain ⟨cb0,cb1,cb2,cb3,cb4⟩:=aO HBC.out))
   go_ret
   exact ⟨by rw [HF.out];rfl,HBX2.out⟩
  ·have HF:Hid (R=true):=aF (by rw [HE3.out];rfl)
   go_wp2_with (first | (go_at_call 193;refine (HCALL.out _ _ (by first | exact Or.inl ⟨by omega,by omega,by omega,by omega⟩ | exact Or.inr ⟨by omega,by omega,by omega,by omega⟩) _ (by exact HBX1.out)).mono ?_;rintro e' w2 ⟨rfl,hb⟩;rw [HE1.out];have HBX2:=aF (HBX1.out.trans (hb.mono HBX1.out.size));have HA2:=aF (cells_kept HA1.out hb);have HC2:=aF (cells_kept HC1.out hb);clear hb;clear ca0 ca1 ca2 ca3 ca4 cb0 cb1 cb2 cb3 cb4;have HA:=HA2;have HBC:=HC2;obtain ⟨ca0,ca1,ca2,ca3,ca4⟩:=aO HA.out;obtain ⟨cb0,cb1,cb2,cb3,cb4⟩:=aO HBC.out) | (go_at_call 192;refine (HO.out _ _ _ HBL.out).mono ?_;rintro e' w4 ⟨rfl,hb⟩;rw [HE0.out];have HBX1:=aF (HBL.out.trans (hb.mono HBL.out.size));have HA1:=aF (cells_kept HA.out hb);have HC1:=aF (cells_kept HBC.out hb);clear hb HA HBC;clear ca0 ca1 ca2 ca3 ca4 cb0 cb1 cb2 cb3 cb4;have HA:=HA1;have HBC:=HC1;obtain ⟨ca0,ca1,ca2,ca3,ca4⟩:=aO HA.out;obtain ⟨cb0,cb1,cb2,cb3,cb4⟩:=aO HBC.out))
   go_ret
   exact ⟨by rw [HF.out];rfl,HBX2.out⟩
  ·have HF:Hid (R=s2):=aF (by rw [HE3.out];simp)
   go_wp2_with (first | (go_at_call 193;refine (HCALL.out _ _ (by first | exact Or.inl ⟨by omega,by omega,by omega,by omega⟩ | exact Or.inr ⟨by omega,by omega,by omega,by omega⟩) _ (by exact HBX2.out)).mono ?_;rintro e' w3 ⟨rfl,hb⟩;rw [HE2.out];have HBX3:=aF (HBX2.out.trans (hb.mono HBX2.out.size));have HA3:=aF (cells_kept HA2.out hb);have HC3:=aF (cells_kept HC2.out hb);clear hb;clear ca0 ca1 ca2 ca3 ca4 cb0 cb1 cb2 cb3 cb4;have HA:=HA3;have HBC:=HC3;obtain ⟨ca0,ca1,ca2,ca3,ca4⟩:=aO HA.out;obtain ⟨cb0,cb1,cb2,cb3,cb4⟩:=aO HBC.out) | (go_at_call 193;refine (HCALL.out _ _ (by first | exact Or.inl ⟨by omega,by omega,by omega,by omega⟩ | exact Or.inr ⟨by omega,by omega,by omega,by omega⟩) _ (by exact HBX1.out)).mono ?_;rintro e' w2 ⟨rfl,hb⟩;rw [HE1.out];have HBX2:=aF (HBX1.out.trans (hb.mono HBX1.out.size));have HA2:=aF (cells_kept HA1.out hb);have HC2:=aF (cells_kept HC1.out hb);clear hb;clear ca0 ca1 ca2 ca3 ca4 cb0 cb1 cb2 cb3 cb4;have HA:=HA2;have HBC:=HC2;obtain ⟨ca0,ca1,ca2,ca3,ca4⟩:=aO HA.out;obtain ⟨cb0,cb1,cb2,cb3,cb4⟩:=aO HBC.out) | (go_at_call 192;refine (HO.out _ _ _ HBL.out).mono ?_;rintro e' w4 ⟨rfl,hb⟩;rw [HE0.out];have HBX1:=aF (HBL.out.trans (hb.mono HBL.out.size));have HA1:=aF (cells_kept HA.out hb);have HC1:=aF (cells_kept HBC.out hb);clear hb HA HBC;clear ca0 ca1 ca2 ca3 ca4 cb0 cb1 cb2 cb3 cb4;have HA:=HA1;have HBC:=HC1;obtain ⟨ca0,ca1,ca2,ca3,ca4⟩:=aO HA.out;obtain ⟨cb0,cb1,cb2,cb3,cb4⟩:=aO HBC.out))
   go_ret
   exact ⟨by rw [HF.out];rfl,HBX3.out⟩
theorem tL (b:Bdy) (hok:DeclOk b):∀(m:Nat) (s t:Int),s.toNat+t.toNat<m→∀(A D:Option Addr) (c d:Nat) (w:World),Slc 5 RTy w A c b.types→Slc 2 RPr w D d b.outl→
 Calls Tryz.prog 193 #[.slice D b.outl.length d,.int .i64 b.regions.length,.slice A b.types.length c,.int .i64 s,.int .i64 t] w fun e' w'=>e' = .returned (.bool (subB b s t))∧Below w.heap.size w w'
 | 0,_,_,h=>absurd h (by omega)
 | m+1,s,t,hm=>by
   intro A D c d w hs hd
   have HR:=tL b hok m
   have hle:=hs.le
   have hbig:=hs.big
   by_cases hr:0≤s∧s<(b.types.length:Int)∧0≤t∧t<(b.types.length:Int)
   case neg=>
    rw [tG (by omega)]
    clear hs hd HR
    go_enter Tryz.func193,Tryz.ntmps193
    go_wp2_with fail
    all_goals first
     | (exfalso;omega)
     | (go_ret;exact ⟨rfl,aG⟩)
   case pos=>
   obtain ⟨i,rfl⟩:=bF hr.1
   obtain ⟨j0,rfl⟩:=bF hr.2.2.1
   have hi:i<b.types.length:=by omega
   have hj0:j0<b.types.length:=by omega
   obtain ⟨p,hp⟩:∃p,((b.types[i].kind != b.types[j0].kind) || (b.types[i].mu != b.types[j0].mu) || ((b.types[i].flds.length:Int) != (b.types[j0].flds.length:Int)))=p:=⟨_,rfl⟩
   cases p
   ·by_cases hk:b.types[i].kind=3
    ·exact xCA b hok m HR i j0 hm hi hj0 A D c d w hs hd hp hk
    ·exact xCB b hok m HR i j0 hm hi hj0 A D c d w hs hd hp hk
   ·exact xW b hok m HR i j0 hm hi hj0 A D c d w hs hd hp
structure Rk (w:World) (b:Bdy) (bh:BH):Prop where
 at_:BdAt w b bh
 ok:DeclOk b
theorem Rk.keep {w w':World} {b:Bdy} {bh:BH} (h:Rk w b bh) (hb:Below w.heap.size w w'):Rk w' b bh:=⟨h.at_.keep hb,h.ok⟩
theorem dJ {b:Bdy} {bh:BH} {w:World} (H:Rk w b bh) (o:Opd) (A:Option Addr) (c:Nat) (hp:Slc 2 RPj w A c o.place.proj):
 Calls Tryz.prog 109 #[.agg (bdC b bh).toArray,.agg (opC o A c).toArray] w fun e' w'=>e' = .returned (.int .i64 (opE b o))∧Below w.heap.size w w':=by
 have HT:=aF (fun W (hb:Below w.heap.size w W)=>eK b bh o.place A c W (H.keep hb).at_ (hp.keep RPj.keeps hb) H.ok.okay)
 have HZ:=aF (fun W=>dS o.place A c W)
 have HD:=aF (fun W (hb:Below w.heap.size w W)=>qE o.place 0 A c W (hp.keep RPj.keeps hb))
 have HC:=aF (fun W (hb:Below w.heap.size w W) (i:Int)=>tO b.types H.ok.tyok (i.toNat+1) i (by omega) bh.A3 bh.c3 W (H.keep hb).at_.typ)
 have HQ:Hid (opE b o=if o.kind<0∨4<o.kind then 14 else if (o.kind≠2∧o.kind≠3∧o.n≠0)∨(1<o.kind∧zeroP o.place=false) then 2 else if o.kind=3∧o.n≠0∧o.n≠1 then 3 else if 1<o.kind then 0 else if (tyB b o.place).2≠0 then (tyB b o.place).2 else if o.kind=0 then fail22 (!copB b.types (tyB b o.place).1) else fail22 (hasD o.place.proj 0)):=aF rfl
 generalize opE b o=q at HQ ⊢
 generalize zeroP o.place=z at HZ HQ
 generalize hasD o.place.proj 0=hd at HD HQ
 generalize tyB b o.place=t at HT HQ
 obtain ⟨t,e⟩:=t
 simp only at HQ
 obtain ⟨cp,hcp⟩:∃cp,copB b.types t=cp:=⟨_,rfl⟩
 rw [hcp] at HQ
 have HCP:=aF hcp
 obtain ⟨k,pl,n⟩:=o
 simp only at HQ HT HZ HD
 clear H hp hcp
 unfold bdC at *
 unfold opC
 simp only
 by_cases h0:k<0∨4<k
 ·have HF:Hid (q=14):=aF (by rw [HQ.out,aY h0])
  clear HQ HT HZ HD HC
  go_enter Tryz.func109,Tryz.ntmps109
  go_wp2_with fail
  all_goals first
   | (exfalso;omega)
   | (go_ret;exact ⟨by rw [HF.out];rfl,aG⟩)
 rcases (show k=0∨k=1∨k=2∨k=3∨k=4 by omega) with rfl | rfl | rfl | rfl | rfl
 ·by_cases hn:n=0
  ·subst hn
   by_cases he:e=0
   ·subst he
    have HF:Hid (q=fail22 (!cp)):=aF (by rw [HQ.out];simp)
    clear HQ HZ HD h0
    cases cp
    all_goals
     go_enter Tryz.func109,Tryz.ntmps109
     go_wp2_with (first | (go_at_call 104;refine (HT.out _ (bel2 _ _ _)).mono ?_;rintro e' w1 ⟨rfl,hb1⟩;have HB:=aF ((bel2 _ _ _).trans (hb1.mono (bel2 _ _ _).size));obtain ⟨z,y⟩:=cR hb1;have z3:=z 3 _ rfl;obtain ⟨y0,y1,y2,y3⟩:=aN y;clear z y hb1) | (go_at_call 152;refine (HC.out _ HB.out _).mono ?_;rintro e' w2 ⟨rfl,hw⟩;obtain rfl:=hw.symm;rw [HCP.out]))
     go_ret
     exact ⟨by rw [HF.out];rfl,HB.out⟩
   ·have HF:Hid (q=e):=aF (by rw [HQ.out];simp [he])
    have e5:(e != 0)=true:=by simp [he]
    clear HQ HZ HD h0 HC he
    go_enter Tryz.func109,Tryz.ntmps109
    go_wp2_with (go_at_call 104;refine (HT.out _ (bel2 _ _ _)).mono ?_;rintro e' w1 ⟨rfl,hb1⟩;have HB:=aF ((bel2 _ _ _).trans (hb1.mono (bel2 _ _ _).size));obtain ⟨z,y⟩:=cR hb1;have z3:=z 3 _ rfl;obtain ⟨y0,y1,y2,y3⟩:=aN y;clear z y hb1)
    go_ret
    exact ⟨by rw [HF.out];rfl,HB.out⟩
  ·have HF:Hid (q=2):=aF (by rw [HQ.out];simp [hn])
   have e5:(n != 0)=true:=by simp [hn]
   clear HQ HZ HD h0 HC HT hn
   go_enter Tryz.func109,Tryz.ntmps109
   go_wp2_with fail
   go_ret
   exact ⟨by rw [HF.out];rfl,aG⟩
 ·by_cases hn:n=0
  ·subst hn
   by_cases he:e=0
   ·subst he
    have HF:Hid (q=fail22 hd):=aF (by rw [HQ.out];simp)
    clear HQ HZ HC h0
    cases hd
    all_goals
     go_enter Tryz.func109,Tryz.ntmps109
     go_wp2_with (first | (go_at_call 104;refine (HT.out _ (bel2 _ _ _)).mono ?_;rintro e' w1 ⟨rfl,hb1⟩;have HB:=aF ((bel2 _ _ _).trans (hb1.mono (bel2 _ _ _).size));obtain ⟨z,y⟩:=cR hb1;have z3:=z 3 _ rfl;obtain ⟨y0,y1,y2,y3⟩:=aN y;clear z y hb1) | (go_at_call 111;refine (HD.out _ HB.out).mono ?_;rintro e' w2 ⟨rfl,hb2⟩;have HB2:=aF (HB.out.trans (hb2.mono HB.out.size));clear hb2))
     go_ret
     exact ⟨by rw [HF.out];rfl,HB2.out⟩
   ·have HF:Hid (q=e):=aF (by rw [HQ.out];simp [he])
    have e5:(e != 0)=true:=by simp [he]
    clear HQ HZ HD h0 HC he
    go_enter Tryz.func109,Tryz.ntmps109
    go_wp2_with (go_at_call 104;refine (HT.out _ (bel2 _ _ _)).mono ?_;rintro e' w1 ⟨rfl,hb1⟩;have HB:=aF ((bel2 _ _ _).trans (hb1.mono (bel2 _ _ _).size));obtain ⟨z,y⟩:=cR hb1;have z3:=z 3 _ rfl;obtain ⟨y0,y1,y2,y3⟩:=aN y;clear z y hb1)
    go_ret
    exact ⟨by rw [HF.out];rfl,HB.out⟩
  ·have HF:Hid (q=2):=aF (by rw [HQ.out];simp [hn])
   have e5:(n != 0)=true:=by simp [hn]
   clear HQ HZ HD h0 HC HT hn
   go_enter Tryz.func109,Tryz.ntmps109
   go_wp2_with fail
   go_ret
   exact ⟨by rw [HF.out];rfl,aG⟩
 ·have HF:Hid (q=if z=false then 2 else 0):=aF (by rw [HQ.out];simp)
  clear HQ HT HD HC h0
  cases z
  all_goals
   go_enter Tryz.func109,Tryz.ntmps109
   go_wp2_with (go_at_call 107;refine (HZ.out _).mono ?_;rintro e' w1 ⟨rfl,hb1⟩;have HB:=aF ((bel2 _ _ _).trans (hb1.mono (bel2 _ _ _).size));obtain ⟨z,y⟩:=cR hb1;obtain ⟨y0,y1,y2,y3⟩:=aN y;clear z y hb1)
   all_goals
    go_ret
    exact ⟨by rw [HF.out];rfl,HB.out⟩
 ·cases z
  ·have HF:Hid (q=2):=aF (by rw [HQ.out];simp)
   clear HQ HT HD HC h0
   go_enter Tryz.func109,Tryz.ntmps109
   go_wp2_with (go_at_call 107;refine (HZ.out _).mono ?_;rintro e' w1 ⟨rfl,hb1⟩;have HB:=aF ((bel2 _ _ _).trans (hb1.mono (bel2 _ _ _).size));obtain ⟨z,y⟩:=cR hb1;obtain ⟨y0,y1,y2,y3⟩:=aN y;clear z y hb1)
   all_goals
    go_ret
    exact ⟨by rw [HF.out];rfl,HB.out⟩
  ·by_cases hn0:n=0
   ·have HF:Hid (q=0):=aF (by rw [HQ.out];simp [hn0])
    subst hn0
    clear HQ HT HD HC h0
    go_enter Tryz.func109,Tryz.ntmps109
    go_wp2_with (go_at_call 107;refine (HZ.out _).mono ?_;rintro e' w1 ⟨rfl,hb1⟩;have HB:=aF ((bel2 _ _ _).trans (hb1.mono (bel2 _ _ _).size));obtain ⟨z,y⟩:=cR hb1;obtain ⟨y0,y1,y2,y3⟩:=aN y;clear z y hb1)
    all_goals
     go_ret
     exact ⟨by rw [HF.out];rfl,HB.out⟩
   ·have e5:(n != 0)=true:=by simp [hn0]
    by_cases hn1:n=1
    ·have HF:Hid (q=0):=aF (by rw [HQ.out];simp [hn1])
     subst hn1
     clear HQ HT HD HC h0 e5
     go_enter Tryz.func109,Tryz.ntmps109
     go_wp2_with (go_at_call 107;refine (HZ.out _).mono ?_;rintro e' w1 ⟨rfl,hb1⟩;have HB:=aF ((bel2 _ _ _).trans (hb1.mono (bel2 _ _ _).size));obtain ⟨z,y⟩:=cR hb1;obtain ⟨y0,y1,y2,y3⟩:=aN y;clear z y hb1)
     all_goals
      go_ret
      exact ⟨by rw [HF.out];rfl,HB.out⟩
    ·have HF:Hid (q=3):=aF (by rw [HQ.out];simp [hn0,hn1])
     have e6:(n != 1)=true:=by simp [hn1]
     clear HQ HT HD HC h0 hn0 hn1
     go_enter Tryz.func109,Tryz.ntmps109
     go_wp2_with (go_at_call 107;refine (HZ.out _).mono ?_;rintro e' w1 ⟨rfl,hb1⟩;have HB:=aF ((bel2 _ _ _).trans (hb1.mono (bel2 _ _ _).size));obtain ⟨z,y⟩:=cR hb1;obtain ⟨y0,y1,y2,y3⟩:=aN y;clear z y hb1)
     all_goals
      go_ret
      exact ⟨by rw [HF.out];rfl,HB.out⟩
 ·by_cases hn:n=0
  ·subst hn
   have HF:Hid (q=if z=false then 2 else 0):=aF (by rw [HQ.out];simp)
   clear HQ HT HD HC h0
   cases z
   all_goals
    go_enter Tryz.func109,Tryz.ntmps109
    go_wp2_with (go_at_call 107;refine (HZ.out _).mono ?_;rintro e' w1 ⟨rfl,hb1⟩;have HB:=aF ((bel2 _ _ _).trans (hb1.mono (bel2 _ _ _).size));obtain ⟨z,y⟩:=cR hb1;obtain ⟨y0,y1,y2,y3⟩:=aN y;clear z y hb1)
    all_goals
     go_ret
     exact ⟨by rw [HF.out];rfl,HB.out⟩
  ·have HF:Hid (q=2):=aF (by rw [HQ.out];simp [hn])
   have e5:(n != 0)=true:=by simp [hn]
   clear HQ HZ HD h0 HC HT hn
   go_enter Tryz.func109,Tryz.ntmps109
   go_wp2_with fail
   go_ret
   exact ⟨by rw [HF.out];rfl,aG⟩
theorem jA {b:Bdy}:∀{l:List Opd},opsE b l []=0→∀o∈l,opE b o=0
 | [],_=>by simp
 | o :: r,h=>by
   by_cases he:opE b o=0
   ·rw [fR he] at h
    intro x hx
    rcases List.mem_cons.1 hx with rfl | hx
    ·exact he
    ·exact jA h x hx
   ·rw [fK he] at h
    exact absurd h he
theorem xE (w:World) (x y:Value) (t:TypeId) (k:Nat) (hk:k=w.heap.size):(w.alloc (.cells #[x,y] t)).cell? ⟨k,0,none⟩=some x∧(w.alloc (.cells #[x,y] t)).cell? ⟨k,1,none⟩=some y:=by
 subst hk
 exact ⟨cW w [x,y] t 0 _ rfl,cW w [x,y] t 1 _ rfl⟩
theorem jB {b:Bdy} {bh:BH} {r:Nat} {w:World} (H:Ck w b bh r) (rv:Rvl) (t:Nat) (ht:t<b.types.length) (tab:List (Int × Int)) (A B T:Option Addr) (c d tc:Nat) (hl:Slc 4 ROp w B d rv.args) (hT:Slc 2 RPr w T tc tab):
 Calls Tryz.prog 178 #[.agg (ckC b bh r).toArray,.agg (rvC rv A c B d).toArray,.int .i64 t,.slice T tab.length tc] w fun e' w'=>e' = .returned (.int .i64 (operE b rv t tab))∧Below w.heap.size w w':=by
 have hle:=hl.le
 have hbig:=hl.big
 have hle2:=hT.le
 have hbig2:=hT.big
 have HP:=aF (fun (W:World) (hb:Below w.heap.size w W)=>fV (H.keep hb) rv.args [] B none d 0 (hl.keep ROp.keeps hb) ⟨Sl.nil,by simp,by omega⟩ (by simp))
 have HK:=aF (fun (W:World) (hb:Below w.heap.size w W) (o:Opd) (A:Option Addr) (c:Nat) (hp:Slc 2 RPj w A c o.place.proj) (ho:opE b o=0)=>uC (H.keep hb) o A c (hp.keep RPj.keeps hb) ho)
 have HL:=aF hl
 have HTB:=aF hT
 have HTY:=aF H.at_.typ
 obtain ⟨R,hR⟩:∃R,operE b rv t tab=R:=⟨_,rfl⟩
 rw [hR]
 have HR:=aF hR
 clear hR hl hT H
 unfold operE at HR
 unfold ckC at HP HK ⊢
 unfold rvC
 by_cases h0:rv.op<0∨(tab.length:Int)≤rv.op
 ·have HF:Hid (R=14):=aF (by rw [← HR.out,aY h0])
  clear HR HP HK
  go_enter Tryz.func178,Tryz.ntmps178
  go_wp2_with fail
  all_goals first
   | (exfalso;omega)
   | (go_ret;exact ⟨by rw [HF.out];rfl,aG⟩)
 have h1:¬rv.op<0:=by omega
 have h2:¬(tab.length:Int)≤rv.op:=by omega
 obtain ⟨n,hn⟩:=bF (show 0≤rv.op by omega)
 have hnl:n<tab.length:=by omega
 by_cases he:opsE b rv.args []=0
 case neg=>
  have HF:Hid (R=opsE b rv.args []):=aF (by rw [← HR.out,aX h0,aY he])
  generalize opsE b rv.args []=eo at HP HF he
  have e1:(eo != 0)=true:=by simp [he]
  clear HR HK he h0
  go_enter Tryz.func178,Tryz.ntmps178
  go_wp2_with (go_at_call 131;refine (HP.out _ (bel2 _ _ _)).mono ?_;rintro e' w1 ⟨rfl,hb1⟩;have HB:=aF ((bel2 _ _ _).trans (hb1.mono (bel2 _ _ _).size));clear hb1)
  go_ret
  exact ⟨by rw [HF.out];rfl,HB.out⟩
 case pos=>
 obtain ⟨bt,ot,rfl,hbt,hxt⟩:=HTB.out.sl.at_ hnl
 obtain ⟨bb,oo,hA3,hbb,hxx⟩:=HTY.out.sl.at_ ht
 obtain ⟨ty,hty⟩:∃ty,b.types[t]=ty:=⟨_,rfl⟩
 obtain ⟨x,hx⟩:∃x,tab[n]=x:=⟨_,rfl⟩
 rw [hty] at hxx
 rw [hx] at hxt
 obtain ⟨q0,-⟩:=hxx
 obtain ⟨u0,u1⟩:=hxt
 have HE:=aF (jA he)
 have hkt:kindT b (t:Int)=ty.kind:=by unfold kindT;simp [ht,hty]
 have HF:Hid (R=if rv.args.all (fun o=>decide (kindO b o=x.1))=true then fail22 (decide (ty.kind≠x.2)) else 22):=aF (by
  rw [← HR.out,aX h0,aX (by simpa using he),hn]
  simp only [bV]
  rw [bB hnl,hx]
  simp only [hkt])
 rw [he] at HP
 have Q0:=aF q0
 clear HR h0 he hx hty hkt
 obtain ⟨x1,x2⟩:=x
 simp only at u0 u1 HF
 rw [hA3] at HP HK ⊢
 rw [hn]
 rw [hn] at h1 h2
 go_enter Tryz.func178,Tryz.ntmps178
 go_wp2_with (go_at_call 131;refine (HP.out _ (bel2 _ _ _)).mono ?_;rintro e' w1 ⟨rfl,hb1⟩;have HB:=aF ((bel2 _ _ _).trans (hb1.mono (bel2 _ _ _).size));obtain ⟨y,z⟩:=cR hb1;have HY:=aF y;have HZ:=aF z;have y3:=y 3 _ rfl;obtain ⟨-,z1,-,-,-,-,z5⟩:=aQ z;have v0:=cell_keep HB.out u0;have v1:=cell_keep HB.out u1;have hlw:=hb1.size;simp only [bH] at hlw;have hlw1:w.heap.size+1<w1.heap.size:=hlw;have hlw0:w.heap.size<w1.heap.size:=cC hlw;clear y z hb1)
 have HXC:=aF (xE w1 (.int .i64 x1) (.int .i64 x2) 248 _ rfl)
 have HY1:Hid (∀i v,[Value.string b.name,.slice bh.A1 b.regions.length bh.c1,.slice bh.A2 b.outl.length bh.c2,.slice (some ⟨bb,oo,none⟩) b.types.length bh.c3,.slice bh.A4 b.locals.length bh.c4,.int .i64 b.args,.slice bh.A5 b.blocks.length bh.c5,.pointer (some ⟨r,0,none⟩)][i]?=some v→(w1.alloc (.cells #[.int .i64 x1,.int .i64 x2] 248)).cell? ⟨w.heap.size,i,none⟩=some v):=aF (fun i v hi=>cell_keep ((aV _ _).alloc (aW _) _) (HY.out i v hi))
 have HBL:=aF (HB.out.alloc HB.out.size (.cells #[.int .i64 x1,.int .i64 x2] 248))
 clear HY HZ
 go_loopw [38] (fun v wr=>∃k:Nat,k≤rv.args.length∧v = .int .i64 k∧Hid (aA (bdM b bh.A1 bh.c1 bh.A2 bh.c2 (some ⟨bb,oo,none⟩) bh.c3 bh.A4 bh.c4 bh.A5 bh.c5 [.pointer (some ⟨r,0,none⟩)]) wr w.heap.size)∧Hid (wr.cell? ⟨w1.heap.size,0,none⟩=some (.int .i64 x1)∧wr.cell? ⟨w1.heap.size,1,none⟩=some (.int .i64 x2))∧Hid (Below w.heap.size w wr)∧w1.heap.size+1≤wr.heap.size∧Hid (R=if (rv.args.drop k).all (fun o=>decide (kindO b o=x1))=true then fail22 (decide (ty.kind≠x2)) else 22)) (fun v _=>rv.args.length - (intOf v).toNat)
 case atStart=>exact ⟨0,by omega,rfl,HY1,HXC,HBL,by simp,HF⟩
 case round=>
  clear HY1 HXC HBL HF
  obtain ⟨k,hk,rfl,HX,HXC,HBR,hsz,hr⟩:=hrel
  by_cases hlt:k<rv.args.length
  ·have hd:=cU hlt
   obtain ⟨b5,o5,rfl,hb5,hx⟩:=HL.out.sl.at_ hlt
   have he:=HE.out _ (bM hlt)
   obtain ⟨o,hxx⟩:∃o,rv.args[k]=o:=⟨_,rfl⟩
   rw [hxx] at hd hx he
   obtain ⟨p0,⟨p1,A2,c2,p2,hc1,hc2,hsl⟩,p3⟩:=hx
   have HPJ:Hid (Slc 2 RPj w A2 c2 o.place.proj):=aF ⟨hsl,hc1,hc2⟩
   replace p0:=cell_keep HBR.out p0
   replace p1:=cell_keep HBR.out p1
   replace p2:=cell_keep HBR.out p2
   replace p3:=cell_keep HBR.out p3
   rw [Nat.add_assoc (o5+k * 4) 1 1] at p2
   have HKK:=aF (fun W hb=>HK.out W hb o A2 c2 HPJ.out he)
   have HQ:Hid (R=if kindO b o=x1 then (if (rv.args.drop (k+1)).all (fun o=>decide (kindO b o=x1))=true then fail22 (decide (ty.kind≠x2)) else 22) else 22):=aF (by rw [hr.out,hd,cB];by_cases h:kindO b o=x1 <;> simp [h])
   clear hd hxx hsl hc1 hc2 hr he
   unfold opC at HKK
   generalize kindO b o=ko at HKK HQ
   have HBA:=aF ((HBR.out.alloc HBR.out.size (.cells (opC o A2 c2).toArray 175)).drew)
   have HQ2:Hid ((ko=x1→R=(if (rv.args.drop (k+1)).all (fun o=>decide (kindO b o=x1))=true then fail22 (decide (ty.kind≠x2)) else 22))∧(ko≠x1→R=22)):=aF ⟨fun h=>by rw [HQ.out,aY h],fun h=>by rw [HQ.out,aX h]⟩
   clear HQ
   go_wp2_with fail
   have hS:(∀i v,[Value.string b.name,.slice bh.A1 b.regions.length bh.c1,.slice bh.A2 b.outl.length bh.c2,.slice (some ⟨bb,oo,none⟩) b.types.length bh.c3,.slice bh.A4 b.locals.length bh.c4,.int .i64 b.args,.slice bh.A5 b.blocks.length bh.c5,.pointer (some ⟨r,0,none⟩)][i]?=some v→(wr.alloc (.cells (opC o A2 c2).toArray 175)).drew.cell? ⟨w.heap.size,i,none⟩=some v)∧(∀i v,(opC o A2 c2)[i]?=some v→(wr.alloc (.cells (opC o A2 c2).toArray 175)).drew.cell? ⟨wr.heap.size,i,none⟩=some v)∧(wr.alloc (.cells (opC o A2 c2).toArray 175)).drew.cell? ⟨w1.heap.size,0,none⟩=some (.int .i64 x1)∧(wr.alloc (.cells (opC o A2 c2).toArray 175)).drew.cell? ⟨w1.heap.size,1,none⟩=some (.int .i64 x2):=
    ⟨fun i v hi=>cell_keep (((aV _ _).alloc (aW _) _).drew) (HX.out i v hi),cW wr (opC o A2 c2) 175,cell_keep (((aV _ _).alloc (aW _) _).drew) HXC.out.1,cell_keep (((aV _ _).alloc (aW _) _).drew) HXC.out.2⟩
   clear p0 p1 p2 p3
   refine cP (S:=fun X=>(aA (bdM b bh.A1 bh.c1 bh.A2 bh.c2 (some ⟨bb,oo,none⟩) bh.c3 bh.A4 bh.c4 bh.A5 bh.c5 [.pointer (some ⟨r,0,none⟩)]) X w.heap.size)∧(aA (opC o A2 c2) X wr.heap.size)∧X.cell? ⟨w1.heap.size,0,none⟩=some (.int .i64 x1)∧X.cell? ⟨w1.heap.size,1,none⟩=some (.int .i64 x2)) [0,1,3,4,2,5] (by kernel_rfl) ?_
   (iterate 4 (refine cQ (v:=?_) ?_ hS ?_;rotate_left;(next=>(rintro X ⟨hX,hY,s8,s9⟩;obtain ⟨s0,s1,s2,s3,s4,s5,s6,s7⟩:=aR hX;obtain ⟨u0,u1,u2,u3⟩:=aN hY;(try simp only [aH]);go_simp;rfl));simp only [aH,Act.put,aJ]))
   (refine cS (by kernel_rfl) (fun K1 hK1=>?_);simp only [aH,Act.put,aJ];rw [aY (by rfl)];go_simp)
   refine (HKK.out _ HBA.out).mono ?_
   rintro e' w2 ⟨rfl,hb⟩
   replace hS:=bI (fun i v hi=>cell_keep hb (hS.1 i v hi)) (bI (fun i v hi=>cell_keep hb (hS.2.1 i v hi)) (bI (cell_keep hb hS.2.2.1) (cell_keep hb hS.2.2.2)))
   have HW2:=aF (HBA.out.trans (hb.mono HBA.out.size))
   have hsz3:=hb.size
   have hsz4:wr.heap.size+1≤w2.heap.size:=by simpa using hsz3
   clear hb hsz3
   refine hK1.out _ _ (fun _=>hS) ?_
   clear hK1
   have HX2:=aF hS.1
   have HXC2:=aF hS.2.2
   (iterate 1 (refine cQ (v:=?_) ?_ hS ?_;rotate_left;(next=>(rintro X -;(try simp only [aH]);go_simp;rfl));simp only [aH,Act.put,aJ]))
   refine cV (by kernel_rfl) ?_
   clear hS
   by_cases hkx:ko=x1
   ·have e1:(ko != x1)=false:=by simp [hkx]
    have HF:=aF (HQ2.out.1 hkx)
    clear HQ2 hkx
    go_wp2_with fail
    go_roundw
    case rel=>exact ⟨k+1,by omega,by go_num,HX2,HXC2,HW2,by omega,HF⟩
    case measure=>simp [intOf];omega
   ·have e1:(ko != x1)=true:=by simp [hkx]
    have HF:=aF (HQ2.out.2 hkx)
    clear HQ2 hkx
    go_wp2_with fail
    go_ret
    exact ⟨by rw [HF.out];rfl,HW2.out⟩
  ·have HF:Hid (R=fail22 (decide (ty.kind≠x2))):=aF (by rw [hr.out,bD (by omega:rv.args.length≤k)];rfl)
   clear hr
   go_wp2_with fail
   have hS:=bI HX.out (bI HXC.out (cell_keep HBR.out Q0.out))
   refine cP (S:=fun X=>(aA (bdM b bh.A1 bh.c1 bh.A2 bh.c2 (some ⟨bb,oo,none⟩) bh.c3 bh.A4 bh.c4 bh.A5 bh.c5 [.pointer (some ⟨r,0,none⟩)]) X w.heap.size)∧(X.cell? ⟨w1.heap.size,0,none⟩=some (.int .i64 x1)∧X.cell? ⟨w1.heap.size,1,none⟩=some (.int .i64 x2))∧X.cell? ⟨bb,oo+t * 5,none⟩=some (.int .i64 ty.kind)) [0,1,2,3,4,5,6,7,8,9,10,11] (by kernel_rfl) ?_
   (iterate 10 (refine cQ (v:=?_) ?_ hS ?_;rotate_left;(next=>(rintro X ⟨hX,⟨s8,s9⟩,sT⟩;have s3:=hX 3 _ rfl;(try simp only [aH]);go_simp;rfl));simp only [aH,Act.put,aJ]))
   (refine cS (by kernel_rfl) (fun K1 hK1=>?_);simp only [aH,Act.put,aJ];rw [aY (by rfl)];go_simp)
   refine (eC _ _).mono ?_
   rintro e' w3 ⟨rfl,hw⟩
   obtain rfl:=hw.symm
   refine hK1.out _ _ (fun _=>hS) ?_
   (iterate 1 (refine cQ (v:=?_) ?_ hS ?_;rotate_left;(next=>(rintro X -;(try simp only [aH]);go_simp;rfl));simp only [aH,Act.put,aJ]))
   refine cV (by kernel_rfl) ?_
   go_wp2_with fail
   go_ret
   exact ⟨by rw [HF.out];show Ending.returned (.int .i64 (fail22 (ty.kind != x2)))=_;have e:(ty.kind != x2)=decide (ty.kind≠x2):=(by rw [bQ];simp);rw [e],HBR.out.drew⟩
theorem wU {b:Bdy} {bh:BH} {r:Nat} {w:World} (H:Ck w b bh r) (rv:Rvl) (t:Nat) (ht:t<b.types.length) (A B:Option Addr) (c d:Nat) (hp:Slc 2 RPj w A c rv.place.proj):
 Calls Tryz.prog 177 #[.agg (ckC b bh r).toArray,.agg (rvC rv A c B d).toArray,.int .i64 t] w fun e' w'=>e' = .returned (.int .i64 (borE b rv t))∧Below w.heap.size w w':=by
 have HT:=aF (fun W (hb:Below w.heap.size w W)=>eY b bh r rv.place A c W (H.keep hb).at_ (hp.keep RPj.keeps hb) H.ok.okay)
 have HM:=aF (fun W (hb:Below w.heap.size w W)=>lI b.types b.locals rv.place.loc rv.place.proj bh.A3 bh.A4 A bh.c3 bh.c4 c W (H.keep hb).at_.typ (H.keep hb).at_.loc (hp.keep RPj.keeps hb) H.ok.okay)
 have HG:=aF (fun W (hb:Below w.heap.size w W)=>rU b.types b.locals rv.place.loc rv.place.proj bh.A3 bh.A4 A bh.c3 bh.c4 c W (H.keep hb).at_.typ (H.keep hb).at_.loc (hp.keep RPj.keeps hb) H.ok.okay)
 have HO:=aF (fun W (hb:Below w.heap.size w W) (x:Int)=>kE b.outl b.regions.length x rv.reg r W (H.keep hb).rel H.ok.pairs (by have:=H.ok.nreg;omega) H.ok.nout)
 change Hid (∀W,Below w.heap.size w W→Calls Tryz.prog 175 _ W fun e' w'=>e' = .returned (.bool (mutB b rv.place))∧Below W.heap.size W w') at HM
 have hbl:=H.at_.reg.le
 have hbg:=H.at_.reg.big
 obtain ⟨bb,oo,hA3,hbb,hxx⟩:=H.at_.typ.sl.at_ ht
 have hle3:=H.at_.typ.le
 have hbig3:=H.at_.typ.big
 obtain ⟨ty,hty⟩:∃ty,b.types[t]=ty:=⟨_,rfl⟩
 rw [hty] at hxx
 obtain ⟨q0,q1,q2,q3,A5,c5,q4,-,-,-⟩:=hxx
 obtain ⟨R,hR⟩:∃R,borE b rv t=R:=⟨_,rfl⟩
 rw [hR]
 have HR:Hid (R=if (tyB b rv.place).2≠0 then (tyB b rv.place).2 else if rv.reg<0∨(b.regions.length:Int)≤rv.reg then 3 else if ty.kind≠3∨ty.reg≠rv.reg∨ty.mu≠rv.mu∨ty.elem≠(tyB b rv.place).1 then 22 else if rv.mu=true∧mutB b rv.place=false then 22 else if ((refsOf b.types b.locals rv.place.loc rv.place.proj).1.map (·.reg)).all (fun x=>outB b.outl b.regions.length x rv.reg)=true then 0 else 22):=aF (by
  rw [← hR,borE]
  simp only [bV]
  rw [bB ht,hty,List.all_map]
  rfl)
 have HLN:Hid (((refsOf b.types b.locals rv.place.loc rv.place.proj).1.map (·.reg)).length=(refsOf b.types b.locals rv.place.loc rv.place.proj).1.length):=aF (cF _)
 generalize (refsOf b.types b.locals rv.place.loc rv.place.proj).1.length=nl at HLN HG
 generalize (refsOf b.types b.locals rv.place.loc rv.place.proj).1.map (·.reg)=rs at HG HR HLN
 generalize tyB b rv.place=q at HT HR
 generalize mutB b rv.place=mb at HM HR
 obtain ⟨ti,te⟩:=q
 simp only at HR HT
 clear hR hty H hp
 unfold ckC at HT ⊢
 unfold rvC
 rw [hA3] at HT HM HG ⊢
 by_cases he:te=0
 case neg=>
  have HF:Hid (R=te):=aF (by rw [HR.out,aY he])
  have e1:(te != 0)=true:=by simp [he]
  clear HR he HM HG HO
  go_enter Tryz.func177,Tryz.ntmps177
  go_wp2_with (go_at_call 132;refine (HT.out _ (bel2 _ _ _)).mono ?_;rintro e' w1 ⟨rfl,hb1⟩;have HB:=aF ((bel2 _ _ _).trans (hb1.mono (bel2 _ _ _).size));obtain ⟨y,z⟩:=cR hb1;have HY:=aF y;have HZ:=aF z;obtain ⟨y0,y1,y2,y3,y4,y5,y6,y7⟩:=aR HY.out;obtain ⟨z0,z1,z2,z3,z4,z5,z6⟩:=aQ HZ.out;have v0:=cell_keep HB.out q0;have v1:=cell_keep HB.out q1;have v2:=cell_keep HB.out q2;have v3:=cell_keep HB.out q3;have v4:=cell_keep HB.out q4;have hlw:=hb1.size;simp only [bH] at hlw;have hlw1:w.heap.size+1<w1.heap.size:=hlw;have hlw0:w.heap.size<w1.heap.size:=cC hlw;clear y z hb1)
  go_ret
  exact ⟨by rw [HF.out];rfl,HB.out.alloc HB.out.size _⟩
 case pos=>
 subst he
 by_cases h0:rv.reg<0∨(b.regions.length:Int)≤rv.reg
 case pos=>
  have HF:Hid (R=3):=aF (by rw [HR.out,aX (by simp),aY h0])
  clear HR HM HG HO
  go_enter Tryz.func177,Tryz.ntmps177
  go_wp2_with (go_at_call 132;refine (HT.out _ (bel2 _ _ _)).mono ?_;rintro e' w1 ⟨rfl,hb1⟩;have HB:=aF ((bel2 _ _ _).trans (hb1.mono (bel2 _ _ _).size));obtain ⟨y,z⟩:=cR hb1;have HY:=aF y;have HZ:=aF z;obtain ⟨y0,y1,y2,y3,y4,y5,y6,y7⟩:=aR HY.out;obtain ⟨z0,z1,z2,z3,z4,z5,z6⟩:=aQ HZ.out;have v0:=cell_keep HB.out q0;have v1:=cell_keep HB.out q1;have v2:=cell_keep HB.out q2;have v3:=cell_keep HB.out q3;have v4:=cell_keep HB.out q4;have hlw:=hb1.size;simp only [bH] at hlw;have hlw1:w.heap.size+1<w1.heap.size:=hlw;have hlw0:w.heap.size<w1.heap.size:=cC hlw;clear y z hb1)
  all_goals first
   | (exfalso;omega)
   | (go_ret;exact ⟨by rw [HF.out];rfl,HB.out.alloc HB.out.size _⟩)
 case neg=>
 have h1:¬rv.reg<0:=by omega
 have h2:¬(b.regions.length:Int)≤rv.reg:=by omega
 have HR2:Hid (R=if ty.kind≠3∨ty.reg≠rv.reg∨ty.mu≠rv.mu∨ty.elem≠ti then 22 else if rv.mu=true∧mb=false then 22 else if rs.all (fun x=>outB b.outl b.regions.length x rv.reg)=true then 0 else 22):=aF (by rw [HR.out,aX (by simp),aX h0])
 clear HR h0
 obtain ⟨p1,hp1⟩:∃p,(ty.kind != 3)=p:=⟨_,rfl⟩
 obtain ⟨p2,hp2⟩:∃p,(ty.reg != rv.reg)=p:=⟨_,rfl⟩
 obtain ⟨p3,hp3⟩:∃p,(ty.mu != rv.mu)=p:=⟨_,rfl⟩
 obtain ⟨p4,hp4⟩:∃p,(ty.elem != ti)=p:=⟨_,rfl⟩
 have HR3:Hid (R=if p1=true∨p2=true∨p3=true∨p4=true then 22 else if rv.mu=true∧mb=false then 22 else if rs.all (fun x=>outB b.outl b.regions.length x rv.reg)=true then 0 else 22):=aF (by
  rw [HR2.out,← hp1,← hp2,← hp3,← hp4]
  simp only [bne_iff_ne])
 clear HR2
 by_cases hor:p1=true∨p2=true∨p3=true∨p4=true
 ·have HF:Hid (R=22):=aF (by rw [HR3.out,aY hor])
  rcases (show p1=true∨(p1=false∧p2=true)∨(p1=false∧p2=false∧p3=true)∨(p1=false∧p2=false∧p3=false∧p4=true) by revert hor;cases p1 <;> cases p2 <;> cases p3 <;> cases p4 <;> simp) with rfl | ⟨rfl,rfl⟩ | ⟨rfl,rfl,rfl⟩ | ⟨rfl,rfl,rfl,rfl⟩
  all_goals
   clear hor HR3 HM HG HO
   go_enter Tryz.func177,Tryz.ntmps177
   go_wp2_with (go_at_call 132;refine (HT.out _ (bel2 _ _ _)).mono ?_;rintro e' w1 ⟨rfl,hb1⟩;have HB:=aF ((bel2 _ _ _).trans (hb1.mono (bel2 _ _ _).size));obtain ⟨y,z⟩:=cR hb1;have HY:=aF y;have HZ:=aF z;obtain ⟨y0,y1,y2,y3,y4,y5,y6,y7⟩:=aR HY.out;obtain ⟨z0,z1,z2,z3,z4,z5,z6⟩:=aQ HZ.out;have v0:=cell_keep HB.out q0;have v1:=cell_keep HB.out q1;have v2:=cell_keep HB.out q2;have v3:=cell_keep HB.out q3;have v4:=cell_keep HB.out q4;have hlw:=hb1.size;simp only [bH] at hlw;have hlw1:w.heap.size+1<w1.heap.size:=hlw;have hlw0:w.heap.size<w1.heap.size:=cC hlw;clear y z hb1)
   all_goals first
    | (exfalso;omega)
    | (go_ret;exact ⟨by rw [HF.out];rfl,HB.out.alloc HB.out.size _⟩)
    | (exfalso;simp_all;done)
 have HR4:Hid (R=if rv.mu=true∧mb=false then 22 else if rs.all (fun x=>outB b.outl b.regions.length x rv.reg)=true then 0 else 22):=aF (by rw [HR3.out,aX hor])
 obtain ⟨rfl,rfl,rfl,rfl⟩:p1=false∧p2=false∧p3=false∧p4=false:=by revert hor;cases p1 <;> cases p2 <;> cases p3 <;> cases p4 <;> simp
 clear HR3 hor
 obtain ⟨mu,hmu⟩:∃mu,rv.mu=mu:=⟨_,rfl⟩
 rw [hmu] at HR4 hp3 ⊢
 have hm3:ty.mu=mu:=by revert hp3;cases ty.mu <;> cases mu <;> simp
 clear hp3 hmu
 by_cases hbad:mu=true∧mb=false
 ·obtain ⟨rfl,rfl⟩:=hbad
  have HF:Hid (R=22):=aF (by rw [HR4.out];simp)
  clear HR4 HG HO
  go_enter Tryz.func177,Tryz.ntmps177
  go_wp2_with (first | (go_at_call 132;refine (HT.out _ (bel2 _ _ _)).mono ?_;rintro e' w1 ⟨rfl,hb1⟩;have HB:=aF ((bel2 _ _ _).trans (hb1.mono (bel2 _ _ _).size));obtain ⟨y,z⟩:=cR hb1;have HY:=aF y;have HZ:=aF z;obtain ⟨y0,y1,y2,y3,y4,y5,y6,y7⟩:=aR HY.out;obtain ⟨z0,z1,z2,z3,z4,z5,z6⟩:=aQ HZ.out;have v0:=cell_keep HB.out q0;have v1:=cell_keep HB.out q1;have v2:=cell_keep HB.out q2;have v3:=cell_keep HB.out q3;have v4:=cell_keep HB.out q4;have hlw:=hb1.size;simp only [bH] at hlw;have hlw1:w.heap.size+1<w1.heap.size:=hlw;have hlw0:w.heap.size<w1.heap.size:=cC hlw;clear y z hb1) | (go_at_call 175;refine (HM.out _ (HB.out.alloc HB.out.size _)).mono ?_;rintro e' w2 ⟨rfl,hb2⟩;have HB2:=aF ((HB.out.alloc HB.out.size _).trans (hb2.mono (HB.out.alloc HB.out.size _).size));clear hb2))
  all_goals try (exfalso;omega)
  go_ret
  exact ⟨by rw [HF.out];rfl,HB2.out⟩
 have HQ:Hid (R=if rs.all (fun x=>outB b.outl b.regions.length x rv.reg)=true then 0 else 22):=aF (by rw [HR4.out,aX hbad])
 clear HR4
 rcases (show mu=false∨(mu=true∧mb=true) by revert hbad;cases mu <;> cases mb <;> simp) with rfl | ⟨rfl,rfl⟩
 ·clear hbad HM
  go_enter Tryz.func177,Tryz.ntmps177
  go_wp2_with (first | (go_at_call 132;refine (HT.out _ (bel2 _ _ _)).mono ?_;rintro e' w1 ⟨rfl,hb1⟩;have HB:=aF ((bel2 _ _ _).trans (hb1.mono (bel2 _ _ _).size));obtain ⟨y,z⟩:=cR hb1;have HY:=aF y;have HZ:=aF z;obtain ⟨y0,y1,y2,y3,y4,y5,y6,y7⟩:=aR HY.out;obtain ⟨z0,z1,z2,z3,z4,z5,z6⟩:=aQ HZ.out;have v0:=cell_keep HB.out q0;have v1:=cell_keep HB.out q1;have v2:=cell_keep HB.out q2;have v3:=cell_keep HB.out q3;have v4:=cell_keep HB.out q4;have hlw:=hb1.size;simp only [bH] at hlw;have hlw1:w.heap.size+1<w1.heap.size:=hlw;have hlw0:w.heap.size<w1.heap.size:=cC hlw;clear y z hb1) | (go_at_call 213;refine (HG.out _ (HB.out.alloc HB.out.size _)).mono ?_;rintro e' w3 ⟨A8,c8,rfl,hs8,hb2⟩;have HB3:=aF ((HB.out.alloc HB.out.size _).trans (hb2.mono (HB.out.alloc HB.out.size _).size));have HY3:=aF (dM HY.out hb2);have HZ3:=aF (dM HZ.out hb2);have HS8:=aF hs8;have hs8l:=hs8.le;have hs8b:=hs8.big;have hsz3:=hb2.size;simp only [bH] at hsz3;clear hb2 hs8))
  all_goals try (exfalso;omega)
  rw [HLN.out] at hs8l
  go_loopw [91] (fun v wr=>∃k:Nat,k≤nl∧v = .int .i64 k∧Hid (aA (bdM b bh.A1 bh.c1 bh.A2 bh.c2 (some ⟨bb,oo,none⟩) bh.c3 bh.A4 bh.c4 bh.A5 bh.c5 [.pointer (some ⟨r,0,none⟩)]) wr w.heap.size)∧Hid (aA [Value.int .i64 rv.kind,.int .i64 rv.op,.int .i64 rv.reg,.bool false,.int .i64 rv.place.loc,.slice A rv.place.proj.length c,.slice B rv.args.length d] wr (w.heap.size+1))∧Hid (Below w.heap.size w wr)∧Hid (Below w3.heap.size w3 wr)∧Hid (R=if (rs.drop k).all (fun x=>outB b.outl b.regions.length x rv.reg)=true then 0 else 22)) (fun v _=>nl - (intOf v).toNat)
  case atStart=>exact ⟨0,by omega,rfl,HY3,HZ3,HB3,aF (aV _ _),HQ⟩
  case round=>
   clear HQ HY3 HZ3 HB3
   obtain ⟨k,hk,rfl,HYR,HZR,HBR,HB9,hr⟩:=hrel
   have y7:=HYR.out 7 _ rfl
   have z2:=HZR.out 2 _ rfl
   by_cases hlt:k<nl
   ·have hlt2:k<rs.length:=by rw [HLN.out];exact hlt
    have hd:=cU hlt2
    obtain ⟨b8,o8,rfl,hb8,hx⟩:=(HS8.out.keep RInt.keeps HB9.out).sl.at_ hlt2
    obtain ⟨x,hxx⟩:∃x,rs[k]=x:=⟨_,rfl⟩
    rw [hxx] at hx hd
    have x0:wr.cell? ⟨b8,o8+k,none⟩=some (.int .i64 x):=by simpa [RInt] using hx
    have HOX:=aF (HO.out wr HBR.out x)
    have HQX:Hid (R=if outB b.outl b.regions.length x rv.reg=true then (if (rs.drop (k+1)).all (fun x=>outB b.outl b.regions.length x rv.reg)=true then 0 else 22) else 22):=aF (by rw [hr.out,hd,cB];cases outB b.outl b.regions.length x rv.reg <;> rfl)
    clear hx hd hxx hr hlt2
    generalize outB b.outl b.regions.length x rv.reg=ob at HOX HQX
    cases ob
    ·have HF:Hid (R=22):=HQX
     go_wp2_with (go_at_call 214;refine HOX.out.mono ?_;rintro e' w4 ⟨rfl,hb4⟩;have HB4:=aF (HBR.out.trans (hb4.mono HBR.out.size));clear hb4)
     go_ret
     exact ⟨by rw [HF.out];rfl,HB4.out⟩
    ·have HF:Hid (R=if (rs.drop (k+1)).all (fun x=>outB b.outl b.regions.length x rv.reg)=true then 0 else 22):=HQX
     go_wp2_with (go_at_call 214;refine HOX.out.mono ?_;rintro e' w4 ⟨rfl,hb4⟩;have HB4:=aF (HBR.out.trans (hb4.mono HBR.out.size));have HB5:=aF (HB9.out.trans (hb4.mono HB9.out.size));have HY5:=aF (cells_kept HYR.out hb4);have HZ5:=aF (cells_kept HZR.out hb4);clear hb4)
     go_roundw
     case rel=>exact ⟨k+1,by omega,by go_num,HY5,HZ5,HB4,HB5,HF⟩
     case measure=>simp [intOf];omega
   ·have HF:Hid (R=0):=aF (by rw [hr.out,bD (by rw [HLN.out];omega:rs.length≤k)];rfl)
    clear hr
    go_wp2_with fail
    go_ret
    exact ⟨by rw [HF.out];rfl,HBR.out⟩
 ·clear hbad
  go_enter Tryz.func177,Tryz.ntmps177
  go_wp2_with (first | (go_at_call 132;refine (HT.out _ (bel2 _ _ _)).mono ?_;rintro e' w1 ⟨rfl,hb1⟩;have HB:=aF ((bel2 _ _ _).trans (hb1.mono (bel2 _ _ _).size));obtain ⟨y,z⟩:=cR hb1;have HY:=aF y;have HZ:=aF z;obtain ⟨y0,y1,y2,y3,y4,y5,y6,y7⟩:=aR HY.out;obtain ⟨z0,z1,z2,z3,z4,z5,z6⟩:=aQ HZ.out;have v0:=cell_keep HB.out q0;have v1:=cell_keep HB.out q1;have v2:=cell_keep HB.out q2;have v3:=cell_keep HB.out q3;have v4:=cell_keep HB.out q4;have hlw:=hb1.size;simp only [bH] at hlw;have hlw1:w.heap.size+1<w1.heap.size:=hlw;have hlw0:w.heap.size<w1.heap.size:=cC hlw;clear y z hb1) | (go_at_call 175;refine (HM.out _ (HB.out.alloc HB.out.size _)).mono ?_;rintro e' w2 ⟨rfl,hb2⟩;have HB2:=aF ((HB.out.alloc HB.out.size _).trans (hb2.mono (HB.out.alloc HB.out.size _).size));have HY2:=aF (dM HY.out hb2);have HZ2:=aF (dM HZ.out hb2);clear HY HZ;have HY:=HY2;have HZ:=HZ2;obtain ⟨y0,y1,y2,y3,y4,y5,y6,y7⟩:=aR HY.out;obtain ⟨z0,z1,z2,z3,z4,z5,z6⟩:=aQ HZ.out;have hsz2:=hb2.size;simp only [bH] at hsz2;clear hb2) | (go_at_call 213;refine (HG.out _ HB2.out).mono ?_;rintro e' w3 ⟨A8,c8,rfl,hs8,hb2⟩;have HB3:=aF (HB2.out.trans (hb2.mono HB2.out.size));have HY3:=aF (cells_kept HY2.out hb2);have HZ3:=aF (cells_kept HZ2.out hb2);have HS8:=aF hs8;have hs8l:=hs8.le;have hs8b:=hs8.big;have hsz3:=hb2.size;clear hb2 hs8))
  all_goals try (exfalso;omega)
  rw [HLN.out] at hs8l
  go_loopw [91] (fun v wr=>∃k:Nat,k≤nl∧v = .int .i64 k∧Hid (aA (bdM b bh.A1 bh.c1 bh.A2 bh.c2 (some ⟨bb,oo,none⟩) bh.c3 bh.A4 bh.c4 bh.A5 bh.c5 [.pointer (some ⟨r,0,none⟩)]) wr w.heap.size)∧Hid (aA [Value.int .i64 rv.kind,.int .i64 rv.op,.int .i64 rv.reg,.bool true,.int .i64 rv.place.loc,.slice A rv.place.proj.length c,.slice B rv.args.length d] wr (w.heap.size+1))∧Hid (Below w.heap.size w wr)∧Hid (Below w3.heap.size w3 wr)∧Hid (R=if (rs.drop k).all (fun x=>outB b.outl b.regions.length x rv.reg)=true then 0 else 22)) (fun v _=>nl - (intOf v).toNat)
  case atStart=>exact ⟨0,by omega,rfl,HY3,HZ3,HB3,aF (aV _ _),HQ⟩
  case round=>
   clear HQ HY3 HZ3 HB3
   obtain ⟨k,hk,rfl,HYR,HZR,HBR,HB9,hr⟩:=hrel
   have y7:=HYR.out 7 _ rfl
   have z2:=HZR.out 2 _ rfl
   by_cases hlt:k<nl
   ·have hlt2:k<rs.length:=by rw [HLN.out];exact hlt
    have hd:=cU hlt2
    obtain ⟨b8,o8,rfl,hb8,hx⟩:=(HS8.out.keep RInt.keeps HB9.out).sl.at_ hlt2
    obtain ⟨x,hxx⟩:∃x,rs[k]=x:=⟨_,rfl⟩
    rw [hxx] at hx hd
    have x0:wr.cell? ⟨b8,o8+k,none⟩=some (.int .i64 x):=by simpa [RInt] using hx
    have HOX:=aF (HO.out wr HBR.out x)
    have HQX:Hid (R=if outB b.outl b.regions.length x rv.reg=true then (if (rs.drop (k+1)).all (fun x=>outB b.outl b.regions.length x rv.reg)=true then 0 else 22) else 22):=aF (by rw [hr.out,hd,cB];cases outB b.outl b.regions.length x rv.reg <;> rfl)
    clear hx hd hxx hr hlt2
    generalize outB b.outl b.regions.length x rv.reg=ob at HOX HQX
    cases ob
    ·have HF:Hid (R=22):=HQX
     go_wp2_with (go_at_call 214;refine HOX.out.mono ?_;rintro e' w4 ⟨rfl,hb4⟩;have HB4:=aF (HBR.out.trans (hb4.mono HBR.out.size));clear hb4)
     go_ret
     exact ⟨by rw [HF.out];rfl,HB4.out⟩
    ·have HF:Hid (R=if (rs.drop (k+1)).all (fun x=>outB b.outl b.regions.length x rv.reg)=true then 0 else 22):=HQX
     go_wp2_with (go_at_call 214;refine HOX.out.mono ?_;rintro e' w4 ⟨rfl,hb4⟩;have HB4:=aF (HBR.out.trans (hb4.mono HBR.out.size));have HB5:=aF (HB9.out.trans (hb4.mono HB9.out.size));have HY5:=aF (cells_kept HYR.out hb4);have HZ5:=aF (cells_kept HZR.out hb4);clear hb4)
     go_roundw
     case rel=>exact ⟨k+1,by omega,by go_num,HY5,HZ5,HB4,HB5,HF⟩
     case measure=>simp [intOf];omega
   ·have HF:Hid (R=0):=aF (by rw [hr.out,bD (by rw [HLN.out];omega:rs.length≤k)];rfl)
    clear hr
    go_wp2_with fail
    go_ret
    exact ⟨by rw [HF.out];rfl,HBR.out⟩
end
end Go.Proofs.YtbnljlpefpllcaaGreatDoor
