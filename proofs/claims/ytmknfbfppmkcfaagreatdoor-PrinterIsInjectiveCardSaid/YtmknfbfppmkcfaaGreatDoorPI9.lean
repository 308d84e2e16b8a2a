/-
  Parts of the proof: V42T V70.
-/
import Derived.Test.YtmknfbfppmkcfaaGreatDoorPI0
import Derived.Test.YtmknfbfppmkcfaaGreatDoorPI8
import Derived.Test.YtmknfbfppmkcfaaGreatDoorPI6
import Derived.Test.YtmknfbfppmkcfaaGreatDoorPI5
namespace Go.Proofs.YtmknfbfppmkcfaaGreatDoor
set_option maxRecDepth 100000
set_option maxHeartbeats 16000000
section
open Go Go.RowKit Go.Maps
theorem xBR (b:Bdy) (hok:DeclOk b) (m:Nat) (HREC0:∀(s t:Int),s.toNat+t.toNat<m->∀(A D:Option Addr) (c d:Nat) (w:World),Slc 5 RTy w A c b.types->Slc 2 RPr w D d b.outl->Calls Tryz.prog 172 #[.slice D b.outl.length d,.int .i64 b.regions.length,.slice A b.types.length c,.int .i64 s,.int .i64 t] w fun e' w'=>e' = .returned (.bool (subB b s t))/\Below w.heap.size w w') (i j0:Nat) (hm:(i:Int).toNat+(j0:Int).toNat<m+1) (hi:i<b.types.length) (hj0:j0<b.types.length) (A D:Option Addr) (c d:Nat) (w:World) (hs:Slc 5 RTy w A c b.types) (hd:Slc 2 RPr w D d b.outl) (hcase:((b.types[i].kind != b.types[j0].kind) || (b.types[i].mu != b.types[j0].mu) || ((b.types[i].flds.length:Int) != (b.types[j0].flds.length:Int)))=false) (hk:b.types[i].kind=3):
 Calls Tryz.prog 172 #[.slice D b.outl.length d,.int .i64 b.regions.length,.slice A b.types.length c,.int .i64 i,.int .i64 j0] w fun e' w'=>e' = .returned (.bool (subB b i j0))/\Below w.heap.size w w':=by
 have hle:=hs.le;have hbig:=hs.big;have HREC:=aF (fun (x y:Int) (h:x.toNat+y.toNat<m) W (hb:Below w.heap.size w W)=>HREC0 x y h A D c d W (hs.keep RTy.keeps hb) (hd.keep RPr.keeps hb));have HO:=aF (fun (x y:Int) W (hb:Below w.heap.size w W)=>iF b.outl b.regions.length x y D d W (hd.keep RPr.keeps hb) hok.pairs (by have:=hok.nreg;omega));have h1:¬(i:Int)<0:=by omega
 have h2:¬(b.types.length:Int)<=(i:Int):=by omega
 have h3:¬(j0:Int)<0:=by omega
 have h4:¬(b.types.length:Int)<=(j0:Int):=by omega
 have HSB:=aF (iU hok.tyok hi hj0);have HOKS:=aF (hok.tyok i hi);have HOKT:=aF (hok.tyok j0 hj0);obtain ⟨bb,oo,hA,hbb,hxs⟩:=hs.sl.at_ hi;obtain ⟨b2,o2,hA2,hbb2,hxt⟩:=hs.sl.at_ hj0;have hAA:some (⟨bb,oo,none⟩:Addr)=some ⟨b2,o2,none⟩:=hA.symm.trans hA2;simp only [cI,Addr.mk.injEq,and_true] at hAA;obtain ⟨rfl,rfl⟩:=hAA;clear hA2 hbb2;obtain ⟨ta,hta⟩:∃x,b.types[i]=x:=⟨_,rfl⟩;obtain ⟨tb,htb⟩:∃x,b.types[j0]=x:=⟨_,rfl⟩;rw [hta] at hxs HSB HOKS hcase hk;rw [htb] at hxt HSB HOKT hcase;obtain ⟨r0,r1,r2,r3,A2,c2,r4,r6,r7,r8⟩:=hxs;obtain ⟨q0,q1,q2,q3,B2,d2,q4,q6,q7,q8⟩:=hxt;have HFA:Hid (Slc 1 RInt w A2 c2 ta.flds):=aF ⟨r8,r6,r7⟩;have HFB:Hid (Slc 1 RInt w B2 d2 tb.flds):=aF ⟨q8,q6,q7⟩;subst hA;simp only [bW] at hm;have HCALL:Hid (∀(x y:Int),((0<=x/\x<i/\0<=y/\y<j0)\/(0<=x/\x<j0/\0<=y/\y<i))->∀W,Below w.heap.size w W->_):=aF (fun x y h W hb=>HREC.out x y (by omega) W hb);clear hs hd r8 q8 hta htb HREC;obtain ⟨ma,hma⟩:∃q,ta.mu=q:=⟨_,rfl⟩;obtain ⟨mb,hmb⟩:∃q,tb.mu=q:=⟨_,rfl⟩;obtain ⟨ka,hka⟩:∃q,ta.kind=q:=⟨_,rfl⟩;obtain ⟨kb,hkb⟩:∃q,tb.kind=q:=⟨_,rfl⟩;obtain ⟨na,hna⟩:∃q,ta.flds.length=q:=⟨_,rfl⟩;obtain ⟨nb,hnb⟩:∃q,tb.flds.length=q:=⟨_,rfl⟩;rw [hma] at r1;rw [hmb] at q1;rw [hka] at r0;rw [hkb] at q0;rw [hna] at r4 r6;rw [hnb] at q4 q6;obtain ⟨p1,hp1⟩:∃q,(ka != kb)=q:=⟨_,rfl⟩;obtain ⟨p2,hp2⟩:∃q,(ma != mb)=q:=⟨_,rfl⟩;obtain ⟨p3,hp3⟩:∃q,((na:Int) != (nb:Int))=q:=⟨_,rfl⟩;rw [hma,hmb,hka,hkb,hna,hnb,hp1,hp2,hp3] at hcase
 have HLAW:Hid (subB b i j0=(!p1 && !p2 && !p3 && (ta.flds.zip tb.flds).all (fun p=>subB b p.1 p.2) && (decide (ta.kind≠3) || (outB b.outl b.regions.length ta.reg tb.reg && subB b ta.elem tb.elem && (!ta.mu || subB b tb.elem ta.elem))))):=aF (by
  rw [HSB.out];unfold subS;have g1:decide (ta.kind=tb.kind) = !p1:=by rw [<- hp1,hka,hkb,bR];simp
  have g2:decide (ta.mu=tb.mu) = !p2:=by rw [<- hp2,hma,hmb];cases ma <;> cases mb <;> rfl
  have g3:decide (ta.flds.length=tb.flds.length) = !p3:=by rw [<- hp3,hna,hnb,bR];simp;omega
  rw [g1,g2,g3])
 clear HSB;have HB0:=aF (fun x y=>bel2 w x y);have HB0:=aF (fun x y=>bel2 w x y);obtain ⟨rfl,rfl,rfl⟩:p1=false/\p2=false/\p3=false:=by revert hcase;cases p1 <;> cases p2 <;> cases p3 <;> simp
 obtain rfl:ma=mb:=by revert hp2;cases ma <;> cases mb <;> simp
 obtain rfl:ka=kb:=by simpa using hp1
 obtain rfl:na=nb:=by have h5:(na:Int)=nb:=by simpa using hp3
                      omega
 clear hp1 hp2 hp3 hmb;have HMA:=aF hma;have HKA:=aF hka;have HKB:=aF hkb;have HNA:=aF hna;have HNB:=aF hnb;clear hma hka hkb hna hnb;obtain ⟨EE,hEE⟩:∃EE,(decide (ta.kind≠3) || (outB b.outl b.regions.length ta.reg tb.reg && subB b ta.elem tb.elem && (!ta.mu || subB b tb.elem ta.elem)))=EE:=⟨_,rfl⟩;have HE:=aF hEE;have HL2:Hid (subB b i j0=(((ta.flds.drop 0).zip (tb.flds.drop 0)).all (fun p=>subB b p.1 p.2) && EE)):=aF (by rw [HLAW.out,hEE,bX,bX];simp only [Bool.not_false,Bool.true_and]);generalize subB b (i:Int) (j0:Int)=R at HL2 ⊢;clear hcase HLAW hEE;have HAC:=aF (fun k v (hk:([Value.int .i64 ka,.bool ma,.int .i64 ta.reg,.int .i64 ta.elem,.slice A2 na c2]:List Value)[k]?=some v)=>(cM ((aX _ _).alloc (aY _) (.cells ([Value.int .i64 ka,.bool ma,.int .i64 tb.reg,.int .i64 tb.elem,.slice B2 na d2]:List Value).toArray 81)) (cU w [Value.int .i64 ka,.bool ma,.int .i64 ta.reg,.int .i64 ta.elem,.slice A2 na c2] 81 k v hk)));have HBC0:=aF (cU (w.alloc (.cells ([Value.int .i64 ka,.bool ma,.int .i64 ta.reg,.int .i64 ta.elem,.slice A2 na c2]:List Value).toArray 81)) [Value.int .i64 ka,.bool ma,.int .i64 tb.reg,.int .i64 tb.elem,.slice B2 na d2] 81);rw [bI] at HBC0;go_enter Tryz.func172,Tryz.ntmps172
 go_wp2_with fail
 all_goals try (exfalso;omega)
 all_goals try (exfalso;simp_all;done)
 go_loopg [13] na (fun gk v wr=>∃j:Nat,gk=na - j/\j<=na/\v = .int .i64 j/\Hid (Below w.heap.size w wr)/\Hid (aA [Value.int .i64 ka,.bool ma,.int .i64 ta.reg,.int .i64 ta.elem,.slice A2 na c2] wr w.heap.size)/\Hid (aA [Value.int .i64 ka,.bool ma,.int .i64 tb.reg,.int .i64 tb.elem,.slice B2 na d2] wr (w.heap.size+1))/\Hid (R=(((ta.flds.drop j).zip (tb.flds.drop j)).all (fun p=>subB b p.1 p.2) && EE)))
 case atStart=>exact ⟨0,by omega,by omega,rfl,aF (HB0.out _ _),HAC,HBC0,HL2⟩
 case round=>
  clear HB0 HAC HBC0 HL2 r0 r1 r2 r3 r4 q0 q1 q2 q3 q4;obtain ⟨j,hgk,hj,rfl,HBL,HA,HBC,HV⟩:=hrel;obtain ⟨ca0,ca1,ca2,ca3,ca4⟩:=aQ HA.out;obtain ⟨cb0,cb1,cb2,cb3,cb4⟩:=aQ HBC.out;have hlt:¬j<na:=by rw [<- HNA.out,(HOKS.out.1 hk).2.2];simp
  have HR:Hid (R=EE):=aF (by rw [HV.out,bE (by rw [HNA.out];omega:ta.flds.length<=j)];rfl);have e0:¬((j:Int)<(na:Int)):=by omega
  clear HV;have e3:(ka != 3)=false:=by rw [<- HKA.out];simp [hk]
  have hk4:tb.kind=3:=by
   rw [HKB.out,<- HKA.out];exact hk
  obtain ⟨a1,a2,-⟩:=HOKS.out.1 hk;obtain ⟨b1,b2',-⟩:=HOKT.out.1 hk4;have HE3:Hid (R=(outB b.outl b.regions.length ta.reg tb.reg && subB b ta.elem tb.elem && (!ta.mu || subB b tb.elem ta.elem))):=aF (by rw [HR.out,<- HE.out];simp [hk]);obtain ⟨o1,ho1⟩:∃q,outB b.outl b.regions.length ta.reg tb.reg=q:=⟨_,rfl⟩;obtain ⟨s1,hs1⟩:∃q,subB b ta.elem tb.elem=q:=⟨_,rfl⟩;obtain ⟨s2,hs2⟩:∃q,subB b tb.elem ta.elem=q:=⟨_,rfl⟩;rw [ho1,hs1,hs2,HMA.out] at HE3;have HE0:=aF ho1;have HE1:=aF hs1;have HE2:=aF hs2;clear ho1 hs1 hs2 hk hk4 HOKS HOKT HE HR;rcases (show o1=false\/(o1=true/\s1=false)\/(o1=true/\s1=true/\ma=false)\/(o1=true/\s1=true/\ma=true) by cases o1 <;> cases s1 <;> cases ma <;> simp) with rfl | ⟨rfl,rfl⟩ | ⟨rfl,rfl,rfl⟩ | ⟨rfl,rfl,rfl⟩
  ·have HF:Hid (R=false):=aF (by rw [HE3.out];rfl);go_wp2_with (go_at_call 171;refine (HO.out _ _ _ HBL.out).mono ?_;rintro e' w4 ⟨rfl,hb⟩;rw [HE0.out];have HBX1:=aF (HBL.out.trans (hb.mono HBL.out.size));have HA1:=aF (cN HA.out hb);have HC1:=aF (cN HBC.out hb);clear hb HA HBC;clear ca0 ca1 ca2 ca3 ca4 cb0 cb1 cb2 cb3 cb4;have HA:=HA1;have HBC:=HC1;obtain ⟨ca0,ca1,ca2,ca3,ca4⟩:=aQ HA.out;obtain ⟨cb0,cb1,cb2,cb3,cb4⟩:=aQ HBC.out)
   go_ret;exact ⟨by rw [HF.out];rfl,HBX1.out⟩
  ·have HF:Hid (R=false):=aF (by rw [HE3.out];rfl);go_wp2_with (first | (go_at_call 172;refine (HCALL.out _ _ (by first | exact Or.inl ⟨by omega,by omega,by omega,by omega⟩ | exact Or.inr ⟨by omega,by omega,by omega,by omega⟩) _ (by exact HBX1.out)).mono ?_;rintro e' w2 ⟨rfl,hb⟩;rw [HE1.out];have HBX2:=aF (HBX1.out.trans (hb.mono HBX1.out.size));have HA2:=aF (cN HA1.out hb);have HC2:=aF (cN HC1.out hb);clear hb;clear ca0 ca1 ca2 ca3 ca4 cb0 cb1 cb2 cb3 cb4;have HA:=HA2;have HBC:=HC2;obtain ⟨ca0,ca1,ca2,ca3,ca4⟩:=aQ HA.out;obtain ⟨cb0,cb1,cb2,cb3,cb4⟩:=aQ HBC.out) | (go_at_call 171;refine (HO.out _ _ _ HBL.out).mono ?_;rintro e' w4 ⟨rfl,hb⟩;rw [HE0.out];have HBX1:=aF (HBL.out.trans (hb.mono HBL.out.size));have HA1:=aF (cN HA.out hb);have HC1:=aF (cN HBC.out hb);clear hb HA HBC;clear ca0 ca1 ca2 ca3 ca4 cb0 cb1 cb2 cb3 cb4;have HA:=HA1;have HBC:=HC1;obtain ⟨ca0,ca1,ca2,ca3,ca4⟩:=aQ HA.out;obtain ⟨cb0,cb1,cb2,cb3,cb4⟩:=aQ HBC.out))
   go_ret;exact ⟨by rw [HF.out];rfl,HBX2.out⟩
  ·have HF:Hid (R=true):=aF (by rw [HE3.out];rfl);go_wp2_with (first | (go_at_call 172;refine (HCALL.out _ _ (by first | exact Or.inl ⟨by omega,by omega,by omega,by omega⟩ | exact Or.inr ⟨by omega,by omega,by omega,by omega⟩) _ (by exact HBX1.out)).mono ?_;rintro e' w2 ⟨rfl,hb⟩;rw [HE1.out];have HBX2:=aF (HBX1.out.trans (hb.mono HBX1.out.size));have HA2:=aF (cN HA1.out hb);have HC2:=aF (cN HC1.out hb);clear hb;clear ca0 ca1 ca2 ca3 ca4 cb0 cb1 cb2 cb3 cb4;have HA:=HA2;have HBC:=HC2;obtain ⟨ca0,ca1,ca2,ca3,ca4⟩:=aQ HA.out;obtain ⟨cb0,cb1,cb2,cb3,cb4⟩:=aQ HBC.out) | (go_at_call 171;refine (HO.out _ _ _ HBL.out).mono ?_;rintro e' w4 ⟨rfl,hb⟩;rw [HE0.out];have HBX1:=aF (HBL.out.trans (hb.mono HBL.out.size));have HA1:=aF (cN HA.out hb);have HC1:=aF (cN HBC.out hb);clear hb HA HBC;clear ca0 ca1 ca2 ca3 ca4 cb0 cb1 cb2 cb3 cb4;have HA:=HA1;have HBC:=HC1;obtain ⟨ca0,ca1,ca2,ca3,ca4⟩:=aQ HA.out;obtain ⟨cb0,cb1,cb2,cb3,cb4⟩:=aQ HBC.out))
   go_ret;exact ⟨by rw [HF.out];rfl,HBX2.out⟩
  ·have HF:Hid (R=s2):=aF (by rw [HE3.out];simp);go_wp2_with (first | (go_at_call 172;refine (HCALL.out _ _ (by first | exact Or.inl ⟨by omega,by omega,by omega,by omega⟩ | exact Or.inr ⟨by omega,by omega,by omega,by omega⟩) _ (by exact HBX2.out)).mono ?_;rintro e' w3 ⟨rfl,hb⟩;rw [HE2.out];have HBX3:=aF (HBX2.out.trans (hb.mono HBX2.out.size));have HA3:=aF (cN HA2.out hb);have HC3:=aF (cN HC2.out hb);clear hb;clear ca0 ca1 ca2 ca3 ca4 cb0 cb1 cb2 cb3 cb4;have HA:=HA3;have HBC:=HC3;obtain ⟨ca0,ca1,ca2,ca3,ca4⟩:=aQ HA.out;obtain ⟨cb0,cb1,cb2,cb3,cb4⟩:=aQ HBC.out) | (go_at_call 172;refine (HCALL.out _ _ (by first | exact Or.inl ⟨by omega,by omega,by omega,by omega⟩ | exact Or.inr ⟨by omega,by omega,by omega,by omega⟩) _ (by exact HBX1.out)).mono ?_;rintro e' w2 ⟨rfl,hb⟩;rw [HE1.out];have HBX2:=aF (HBX1.out.trans (hb.mono HBX1.out.size));have HA2:=aF (cN HA1.out hb);have HC2:=aF (cN HC1.out hb);clear hb;clear ca0 ca1 ca2 ca3 ca4 cb0 cb1 cb2 cb3 cb4;have HA:=HA2;have HBC:=HC2;obtain ⟨ca0,ca1,ca2,ca3,ca4⟩:=aQ HA.out;obtain ⟨cb0,cb1,cb2,cb3,cb4⟩:=aQ HBC.out) | (go_at_call 171;refine (HO.out _ _ _ HBL.out).mono ?_;rintro e' w4 ⟨rfl,hb⟩;rw [HE0.out];have HBX1:=aF (HBL.out.trans (hb.mono HBL.out.size));have HA1:=aF (cN HA.out hb);have HC1:=aF (cN HBC.out hb);clear hb HA HBC;clear ca0 ca1 ca2 ca3 ca4 cb0 cb1 cb2 cb3 cb4;have HA:=HA1;have HBC:=HC1;obtain ⟨ca0,ca1,ca2,ca3,ca4⟩:=aQ HA.out;obtain ⟨cb0,cb1,cb2,cb3,cb4⟩:=aQ HBC.out))
   go_ret;exact ⟨by rw [HF.out];rfl,HBX3.out⟩
end
section
open Go Go.RowKit
theorem xAQ (ts:List Ty) (A:Option Addr) (c:Nat) (w:World) (hs:Slc 5 RTy w A c ts) (hl:ts.length<=200):
 Calls Tryz.prog 66 #[.slice A ts.length c] w fun e' w'=>(∃q:Bool,e' = .returned (.bool q))/\Below w.heap.size w w':=by
 obtain ⟨i0,hi,hz0,hz1,hz2⟩:=info_parts dW;have hle:=hs.le;have hbg:=hs.big;have HS:=aF hs;clear hs;go_enter Tryz.func66,Tryz.ntmps66
 go_wp2_with fail
 go_loopw [3,11] (fun v i wr=>∃(k:Nat) (xs:List Int),k<=ts.length/\i = .int .i64 k/\xs.length=k/\Hid (wr.ownsRow w.heap.size 3 1 v k (xs.map (Value.int .i64)))/\Hid (Below w.heap.size w wr)) (fun _ i _=>ts.length - (intOf i).toNat)
 case atStart=>exact ⟨0,[],by omega,rfl,rfl,aF (World.ownsRow_nil _ _ _ _),aF (aX _ _)⟩
 case round=>
  obtain ⟨k,xs,hk,rfl,hxl,HO,HB⟩:=hrel;obtain ⟨A',c',hv⟩:=lM HO.out;subst hv;have hsz:=HB.out.size;by_cases hlt:k<ts.length
  next=>
   obtain ⟨b1,o1,rfl,hb1,r1⟩:=HS.out.sl.at_ hlt;obtain ⟨r1,r2,r3,r4,A2,c2,r5,r6,r7,r8⟩:=RTy.keeps _ _ _ w.heap.size _ _ _ (aY _) hb1 HB.out r1;generalize ts[k]=x at *;have HF:Hid (Sl 1 RInt wr w.heap.size A2 x.flds):=aF r8;obtain ⟨B',d',hB',hsl,-⟩:=lB (R:=RInt) (fun w B b o x h=>h) HO.out hxl;simp only [Value.slice.injEq,true_and] at hB';obtain ⟨rfl,rfl⟩:=hB';have HX:=aF hsl;have hls:=dA hb1;clear r8 hsl
   have HFK:Hid (∀X,Below w.heap.size w X->∀b7 o7 j (f:Int),b7<w.heap.size->RInt wr w.heap.size b7 (o7+j * 1) f->X.cell? ⟨b7,o7+j,none⟩=some (.int .i64 f)):=aF (fun X hX b7 o7 j f hb7 h=>by
    rw [Nat.mul_one] at h;have h1:w.cell? ⟨b7,o7+j,none⟩=some (.int .i64 f):=(HB.out.cell (p:=⟨b7,o7+j,none⟩) hb7).symm.trans h
    exact cM hX h1)
   obtain ⟨kd,mu,rg,el,fl⟩:=x;simp only at r1 r2 r3 r4 r5 r6 r7 HF;by_cases hg:kd=3/\0<=el/\el<k
   next=>
    obtain ⟨rfl,h0,h1⟩:=hg;obtain ⟨e,rfl⟩:=bG h0;obtain ⟨b8,o8,rfl,hb8,hxe⟩:=HX.out.sl.at_ (show e<xs.length by omega);have x1:wr.cell? ⟨b8,o8+e,none⟩=some (.int .i64 xs[e]):=(by simpa [RInt] using hxe);generalize xs[e]=y at x1;clear hxe;have hls8:=dA hb8;go_wp2_with fail
    clear r1 r2 r3 r4 r5;clear HX;all_goals try (exfalso;omega)
    all_goals
     have HO2:=aF (fun o=>HO.out.alloc o);have HB2:=aF (fun o=>HB.out.alloc hsz o);go_loopw [6,40] (fun n u wr2=>∃(j:Nat) (m:Int),j<=fl.length/\u = .int .i64 j/\n = .int .i64 m/\Hid (wr2.ownsRow w.heap.size 3 1 (.slice (some ⟨b8,o8,none⟩) k c') k (xs.map (Value.int .i64)))/\Hid (Below w.heap.size w wr2)) (fun _ u _=>fl.length - (intOf u).toNat)
     case atStart=>exact ⟨0,_,by omega,rfl,rfl,aF (HO2.out _),aF (HB2.out _)⟩
     case round=>
      clear HO2 HB2 HO HB;obtain ⟨j,m,hj,rfl,rfl,HO,HB⟩:=hrel;have hsz:=HB.out.size;by_cases hjl:j<fl.length
      ·obtain ⟨b7,o7,rfl,hb7,hxj⟩:=HF.out.at_ hjl;obtain ⟨f,hf⟩:∃f,fl[j]=f:=⟨_,rfl⟩;rw [hf] at hxj;have x0:wr.cell? ⟨b7,o7+j,none⟩=some (.int .i64 f):=HFK.out wr HB.out b7 o7 j f hb7 hxj;clear hxj hf;by_cases hg:0<=f/\f<k
       ·obtain ⟨e,rfl⟩:=bG hg.1;obtain ⟨B',d',hB',hsl,-⟩:=lB (R:=RInt) (fun w B b o x h=>h) HO.out hxl;simp only [Value.slice.injEq,true_and] at hB';obtain ⟨hB1,hd1⟩:=hB';subst hd1;subst hB1;obtain ⟨b8,o8,hB9,hb8,hxe⟩:=hsl.sl.at_ (show e<xs.length by omega);cases hB9
        have x1:wr.cell? ⟨b8,o8+e,none⟩=some (.int .i64 xs[e]):=(by simpa [RInt] using hxe);generalize xs[e]=y at x1;clear hxe hsl;go_wp2_with fail
        all_goals first
         | (exfalso;omega)
         | (go_ret;exact ⟨by first | exact ⟨_,rfl⟩ | exact .inl rfl | exact .inr rfl,HB.out⟩)
         | (go_roundw
            case rel=>exact ⟨j+1,_,by omega,by go_num,rfl,HO,HB⟩
            case measure=>simp [intOf];omega)
       ·go_wp2_with fail
        all_goals first
         | (exfalso;omega)
         | (go_ret;exact ⟨by first | exact ⟨_,rfl⟩ | exact .inl rfl | exact .inr rfl,HB.out⟩)
         | (go_roundw
            case rel=>exact ⟨j+1,_,by omega,by go_num,rfl,HO,HB⟩
            case measure=>simp [intOf];omega)
      ·have hown2:=HO.out.alloc (.cells #[.int .i64 m] 3);go_wp2_with (at_builtin;refine wpList_append_own _ rfl _ _ 58 rfl w.heap.size 3 i0 (.int .i64 0) 1 8 Tryz.underlying58 hi hz0 hz1 hz2 rfl (by decide) _ _ _ rfl hown2 ⟨wr.heap.size,0,none⟩ 1 1 [.int .i64 m] rfl rfl (fun j u hj=>by rw [add0];exact lG _ [.int .i64 m] _ j u hj) (fun u hu=>by simp at hu;subst hu;rfl) (by unfold maxLen;omega) (by omega) (by simp;omega) ?_)
       intro v' w2 hown' hgrow _;have HO2:Hid (w2.ownsRow w.heap.size 3 1 v' (k+1) ((xs ++ [m]).map (Value.int .i64))):=aF (by rw [bU];exact hown');have HB2:Hid (Below w.heap.size w w2):=aF ((HB.out.alloc hsz _).grown hgrow (by simp;omega) (fun g hg=>(hown2.lt g hg).1));clear hown' hgrow hown2;go_wp2_with fail
       go_roundw
       case rel=>exact ⟨k+1,xs ++ [m],by omega,by go_num,by simp [hxl],HO2,HB2⟩
       case measure=>simp [intOf];omega
   next=>
   go_wp2_with fail
   clear r1 r2 r3 r4 r5;clear HX;all_goals try (exfalso;omega)
   all_goals
    have HO2:=aF (fun o=>HO.out.alloc o);have HB2:=aF (fun o=>HB.out.alloc hsz o);go_loopw [6,40] (fun n u wr2=>∃(j:Nat) (m:Int),j<=fl.length/\u = .int .i64 j/\n = .int .i64 m/\Hid (wr2.ownsRow w.heap.size 3 1 (.slice A' k c') k (xs.map (Value.int .i64)))/\Hid (Below w.heap.size w wr2)) (fun _ u _=>fl.length - (intOf u).toNat)
    case atStart=>exact ⟨0,_,by omega,rfl,rfl,aF (HO2.out _),aF (HB2.out _)⟩
    case round=>
     clear HO2 HB2 HO HB;obtain ⟨j,m,hj,rfl,rfl,HO,HB⟩:=hrel;have hsz:=HB.out.size;by_cases hjl:j<fl.length
     ·obtain ⟨b7,o7,rfl,hb7,hxj⟩:=HF.out.at_ hjl;obtain ⟨f,hf⟩:∃f,fl[j]=f:=⟨_,rfl⟩;rw [hf] at hxj;have x0:wr.cell? ⟨b7,o7+j,none⟩=some (.int .i64 f):=HFK.out wr HB.out b7 o7 j f hb7 hxj;clear hxj hf;by_cases hg:0<=f/\f<k
      ·obtain ⟨e,rfl⟩:=bG hg.1;obtain ⟨B',d',hB',hsl,-⟩:=lB (R:=RInt) (fun w B b o x h=>h) HO.out hxl;simp only [Value.slice.injEq,true_and] at hB';obtain ⟨hB1,hd1⟩:=hB';subst hd1;subst hB1;obtain ⟨b8,o8,hB9,hb8,hxe⟩:=hsl.sl.at_ (show e<xs.length by omega);cases hB9
       have x1:wr.cell? ⟨b8,o8+e,none⟩=some (.int .i64 xs[e]):=(by simpa [RInt] using hxe);generalize xs[e]=y at x1;clear hxe hsl;go_wp2_with fail
       all_goals first
        | (exfalso;omega)
        | (go_ret;exact ⟨by first | exact ⟨_,rfl⟩ | exact .inl rfl | exact .inr rfl,HB.out⟩)
        | (go_roundw
           case rel=>exact ⟨j+1,_,by omega,by go_num,rfl,HO,HB⟩
           case measure=>simp [intOf];omega)
      ·go_wp2_with fail
       all_goals first
        | (exfalso;omega)
        | (go_ret;exact ⟨by first | exact ⟨_,rfl⟩ | exact .inl rfl | exact .inr rfl,HB.out⟩)
        | (go_roundw
           case rel=>exact ⟨j+1,_,by omega,by go_num,rfl,HO,HB⟩
           case measure=>simp [intOf];omega)
     ·have hown2:=HO.out.alloc (.cells #[.int .i64 m] 3);go_wp2_with (at_builtin;refine wpList_append_own _ rfl _ _ 58 rfl w.heap.size 3 i0 (.int .i64 0) 1 8 Tryz.underlying58 hi hz0 hz1 hz2 rfl (by decide) _ _ _ rfl hown2 ⟨wr.heap.size,0,none⟩ 1 1 [.int .i64 m] rfl rfl (fun j u hj=>by rw [add0];exact lG _ [.int .i64 m] _ j u hj) (fun u hu=>by simp at hu;subst hu;rfl) (by unfold maxLen;omega) (by omega) (by simp;omega) ?_)
      intro v' w2 hown' hgrow _;have HO2:Hid (w2.ownsRow w.heap.size 3 1 v' (k+1) ((xs ++ [m]).map (Value.int .i64))):=aF (by rw [bU];exact hown');have HB2:Hid (Below w.heap.size w w2):=aF ((HB.out.alloc hsz _).grown hgrow (by simp;omega) (fun g hg=>(hown2.lt g hg).1));clear hown' hgrow hown2;go_wp2_with fail
      go_roundw
      case rel=>exact ⟨k+1,xs ++ [m],by omega,by go_num,by simp [hxl],HO2,HB2⟩
      case measure=>simp [intOf];omega
  next=>
   clear HO;go_wp2_with fail
   go_ret;exact ⟨by first | exact ⟨_,rfl⟩ | exact .inl rfl | exact .inr rfl,HB.out⟩
end
end Go.Proofs.YtmknfbfppmkcfaaGreatDoor
