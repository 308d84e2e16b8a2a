/-
  Parts of the proof: Y12 Y13 Y14 Y15.
-/
import Derived.Test.YtmknfbfppmkcfaaGreatDoorPP0
import Derived.Test.YtmknfbfppmkcfaaGreatDoorPP12
namespace Go.Proofs.YtmknfbfppmkcfaaGreatDoor
set_option maxRecDepth 100000
set_option maxHeartbeats 16000000
section
open Go Go.RowKit
def SpTab (w : World) : Prop := Lib.TabIs Tryz.prog w "strings.asciiSpace" .u8 Lib.asciiSpaceTab
theorem gSp : Tryz.prog.globalNamed "strings.asciiSpace" = some 2 := by kernel_rfl
theorem SpTab.keep {w w':World} (h:SpTab w) (hb:Below w.heap.size w w'):SpTab w':=by
 unfold SpTab Lib.TabIs World.var? at *;rw [gSp,Option.bind_some] at h ⊢;by_cases h1:2<w.heap.size
 ·rw [hb.block 2 h1];exact h
 ·rw [Array.getElem?_eq_none (by omega)] at h;cases h
structure FitR (r:Rvl):Prop where
 pj:∀x∈r.place.proj,fitJ x
 args:∀o∈r.args,FitO o
theorem pW (w:World) (ht:SpTab w):Calls Tryz.prog 132 #[.string ⟨#[110,101,103,32,110,111,116]⟩] w fun e' w'=>e' = .returned (.slice (some ⟨w.heap.size,0,none⟩) 2 2)/\w'=w.alloc (.cells #[tx [110,101,103],tx [110,111,116]] 9):=
 Tryz.strings_Fields_laid ⟨#[110,101,103,32,110,111,116]⟩ w (by decide) (fun j b hj=>by
  have:b∈([110,101,103,32,110,111,116]:List UInt8):=List.mem_of_getElem? hj
  clear hj;revert this;revert b;decide) ht
theorem pX (w:World) (ht:SpTab w):Calls Tryz.prog 132 #[.string ⟨#[97,100,100,32,115,117,98,32,109,117,108,32,101,113,32,108,116,32,97,110,100]⟩] w fun e' w'=>e' = .returned (.slice (some ⟨w.heap.size,0,none⟩) 6 6)/\w'=w.alloc (.cells #[tx [97,100,100],tx [115,117,98],tx [109,117,108],tx [101,113],tx [108,116],tx [97,110,100]] 9):=
 Tryz.strings_Fields_laid ⟨#[97,100,100,32,115,117,98,32,109,117,108,32,101,113,32,108,116,32,97,110,100]⟩ w (by decide) (fun j b hj=>by
  have:b∈([97,100,100,32,115,117,98,32,109,117,108,32,101,113,32,108,116,32,97,110,100]:List UInt8):=List.mem_of_getElem? hj
  clear hj;revert this;revert b;decide) ht
theorem xR {w:World} {g:Nat} {b:Bdy} {bh:BH} (C:Ctx w g b bh) (hsp:SpTab w) (r:Rvl) (A B:Option Addr) (c d:Nat) (hp:Slc 2 RPj w A c r.place.proj) (ha:Slc 4 ROp w B d r.args) (ho:OkRv b.locals b.regions r) (hf:FitR r) (hz:Sm (rvP b.locals b.regions r)) (hl:r.args.length<=1000000):
 Calls Tryz.prog 80 #[.pointer (some ⟨g,0,none⟩),.agg #[.int .i64 r.kind,.int .i64 r.op,.int .i64 r.reg,.bool r.mu,.int .i64 r.place.loc,.slice A r.place.proj.length c,.slice B r.args.length d]] w fun e' w'=>e' = .returned (tx (rvP b.locals b.regions r))/\Below w.heap.size w w':=by
 have hk0:=ho.kind;have HO:=aF (fun (W:World) (hb:Below w.heap.size w W) (hz:Sm (opsP b.locals r.args))=>nT (C.keep hb) r.args B d (ha.keep ROp.keeps hb) ho.args hf.args hz hl);have HB0:=aF (fun (o:Obj)=>(aX w.heap.size w).alloc (aY _) o);have HSP:=aF (fun (W:World) (hb:Below w.heap.size w W)=>hsp.keep hb);obtain ⟨t,ht⟩:∃t,opsP b.locals r.args=t:=⟨_,rfl⟩;rw [ht] at HO;by_cases h1:r.kind=1
 ·obtain ⟨-,hargs,hreg,hpl⟩:=ho.isb h1;have htn:t=[]:=by rw [<- ht,hargs];rfl
  have HP:=aF (fun (W:World) (hb:Below w.heap.size w W) (hz:Sm (placeP b.locals r.place))=>eN b.locals g bh.A4 bh.c4 r.place A c W (cJ hb C.locs) (C.at_.loc.keep RLc.keeps hb) (hp.keep RPj.keeps hb) hpl.loc hf.pj hz (C.pow.keep hb));have HR:=aF (fun (W:World) (hb:Below w.heap.size w W) (s:List UInt8) (hz:Sm (refP b.regions r.reg r.mu s))=>jO (C.keep hb) r.reg r.mu s hreg hz);subst htn;have HE:Hid (rvP b.locals b.regions r=refP b.regions r.reg r.mu (placeP b.locals r.place)):=aF (by unfold rvP;rw [bA h1])
  have hz1:Sm (placeP b.locals r.place):=by
   rw [HE.out] at hz;unfold refP at hz;simp only [Sm,bB,bK,bP] at hz ⊢;omega
  have HQ:=aF (fun W hb=>HP.out W hb hz1);have HQ2:=aF (fun W hb=>HR.out W hb (placeP b.locals r.place) (by rw [<- HE.out];exact hz));have HQ3:=aF (fun W hb=>HO.out W hb (by simp [Sm]));clear HP HR HO hz hz1 C hp ha ho hf hsp ht hpl hreg;obtain ⟨k,op,rg,mu,⟨l0,ps⟩,ar⟩:=r;simp only at h1 hargs HE HQ HQ2 HQ3 hk0 hl ⊢;subst h1 hargs;obtain ⟨q,hq⟩:∃q,placeP b.locals ⟨l0,ps⟩=q:=⟨_,rfl⟩;rw [hq] at HE HQ HQ2;clear hq;go_enter Tryz.func80,Tryz.ntmps80
  go_wp2_with (go_at_call 81;refine (HQ3.out _ (HB0.out _)).mono ?_;rintro e' w1 ⟨rfl,hb1⟩;have HB1:=aF ((HB0.out _).trans (hb1.mono (HB0.out _).size));have y:=cK (cP w [.int .i64 1,.int .i64 op,.int .i64 rg,.bool mu,.int .i64 l0,.slice A ps.length c,.slice B 0 d] 85) hb1;have HY:=aF y;have y0:=y 0 _ rfl;clear y hb1)
  refine cQ (S:=fun X=>∀i v,[.int .i64 1,.int .i64 op,.int .i64 rg,.bool mu,.int .i64 l0,.slice A ps.length c,.slice B 0 d][i]?=some v->X.cell? ⟨w.heap.size,i,none⟩=some v) [0,1,2,3,4,5,6,7,8,9,10] (by kernel_rfl) ?_;have hS:=cK HY.out ((aX _ _).drew);(iterate 8 (refine cR (v:=?_) ?_ hS ?_;rotate_left;(next=>(rintro X hX;obtain ⟨-,-,s2,s3,s4,s5⟩:=aR hX;(try simp only [aI]);go_simp;rfl));simp only [aM]));(refine cM (fun K1 hK1=>?_);simp only [aM];rw [bA (by rfl)];go_simp);refine (HQ.out _ HB1.out.drew).mono ?_;rintro e' w2 ⟨rfl,hb2⟩;replace hS:=cK hS hb2;have HB2:=aF (HB1.out.drew.trans (hb2.mono HB1.out.drew.size));clear hb2;refine hK1.out _ _ (fun _=>hS) ?_;(refine cM (fun K1 hK1=>?_);simp only [aM];rw [bA (by rfl)];go_simp);refine (HQ2.out _ HB2.out).mono ?_;rintro e' w3 ⟨rfl,hw⟩;obtain rfl:=hw.symm;refine hK1.out _ _ (fun _=>hS) ?_;((refine cR (v:=?_) ?_ hS ?_;rotate_left;(next=>(rintro X -;(try simp only [aI]);go_simp;rfl));simp only [aM]))
  refine cV ?_;go_wp2_with fail
  go_ret;exact ⟨by rw [HE.out];rfl,HB2.out⟩
 ·have hargs:=ho.args;have huna:=ho.una;have hbin:=ho.bin;obtain ⟨k,op,rg,mu,⟨l0,ps⟩,ar⟩:=r;simp only at h1 hk0 hl ht huna hbin HO hz ⊢
  have HE:Hid (rvP b.locals b.regions ⟨k,op,rg,mu,⟨l0,ps⟩,ar⟩=if k=2 then unaP op ++ [32] ++ t else if k=3 then binP op ++ [32] ++ t else if k=4 then 40 :: (t ++ [41]) else t):=aF (by
   unfold rvP;rw [aZ h1,ht])
  have hzt:t.length+(if k=2\/k=3 then 3 else if k=4 then 2 else 0)<=140737488355328:=by
   rw [HE.out] at hz;obtain rfl | rfl | rfl | rfl:k=0\/k=2\/k=3\/k=4:=by omega
   ·simpa [Sm] using hz
   ·have:2<=(unaP op).length:=by unfold unaP;split <;> decide
    simp [Sm] at hz ⊢;omega
   ·have:2<=(binP op).length:=by unfold binP;repeat (first | decide | split)
    simp [Sm] at hz ⊢;omega
   ·simp [Sm] at hz ⊢;omega
  have HQ:=aF (fun W hb=>HO.out W hb (by show t.length<=_;omega));clear HO hz C hp ha ho hf hsp ht hargs;have HCN:=aF (fun (w1:World) (hb1:Below (w.alloc (.cells #[.int .i64 k,.int .i64 op,.int .i64 rg,.bool mu,.int .i64 l0,.slice A ps.length c,.slice B ar.length d] 85)).heap.size (w.alloc (.cells #[.int .i64 k,.int .i64 op,.int .i64 rg,.bool mu,.int .i64 l0,.slice A ps.length c,.slice B ar.length d] 85)) w1)=>cK (cP w [.int .i64 k,.int .i64 op,.int .i64 rg,.bool mu,.int .i64 l0,.slice A ps.length c,.slice B ar.length d] 85) hb1);obtain rfl | rfl | rfl | rfl:k=0\/k=2\/k=3\/k=4:=by omega
  ·simp at hzt;go_enter Tryz.func80,Tryz.ntmps80
   go_wp2_with (go_at_call 81;refine (HQ.out _ (HB0.out _)).mono ?_;rintro e' w1 ⟨rfl,hb1⟩;have HB1:=aF ((HB0.out _).trans (hb1.mono (HB0.out _).size));have y0:=HCN.out w1 hb1 0 _ rfl;clear hb1)
   go_ret;exact ⟨by rw [HE.out];rfl,HB1.out⟩
  ·have hu:=huna rfl;simp at hzt;obtain ⟨u,hu'⟩:∃u,unaP op=u:=⟨_,rfl⟩;have HE2:Hid (rvP b.locals b.regions ⟨2,op,rg,mu,⟨l0,ps⟩,ar⟩=u ++ [32] ++ t):=aF (by rw [HE.out,bA rfl,hu'])
   have hul:u.length<=3:=by
    rw [<- hu'];unfold unaP;repeat (first | decide | split)
   have HU:Hid (∀X:World,∀q:Nat,(∀i v,[tx [110,101,103],tx [110,111,116]][i]?=some v->X.cell? ⟨q,i,none⟩=some v)->X.cell? ⟨q,op.toNat,none⟩=some (tx u)):=aF (fun X q h=>by
    obtain rfl | rfl:op=0\/op=1:=by omega
    all_goals rw [<- hu']
    ·exact h 0 _ rfl
    ·exact h 1 _ rfl)
   obtain ⟨m,rfl⟩:=bG hu.1;have hm:m<2:=by have:=hu.2;omega
   rw [bW] at HU;have hmi:(m:Int)<2:=by omega
   have hz1:¬(9223372036854775807<u.length+1):=by omega
   have hz2:¬(9223372036854775807<u.length+1+t.length):=by omega
   clear hu hu' HE hzt hul;go_enter Tryz.func80,Tryz.ntmps80
   go_wp2_with (go_at_call 81;refine (HQ.out _ (HB0.out _)).mono ?_;rintro e' w1 ⟨rfl,hb1⟩;have HB1:=aF ((HB0.out _).trans (hb1.mono (HB0.out _).size));have HY:=aF (HCN.out w1 hb1);have y0:=HY.out 0 _ rfl;clear hb1)
   refine cQ (S:=fun X=>(aA [.int .i64 2,.int .i64 m,.int .i64 rg,.bool mu,.int .i64 l0,.slice A ps.length c,.slice B ar.length d] X w.heap.size)) [1,2,6,0,3,4,5,7,8] (by kernel_rfl) ?_;have hS:=cK HY.out ((aX _ _).drew);(iterate 3 (refine cR (v:=?_) ?_ hS ?_;rotate_left;(next=>(rintro X hX;have s1:=hX 1 _ rfl;(try simp only [aI]);go_simp;rfl));simp only [aM]));(refine cM (fun K1 hK1=>?_);simp only [aM];rw [bA (by rfl)];go_simp);refine (pW _ (HSP.out _ HB1.out.drew)).mono ?_;rintro e' w2 ⟨rfl,rfl⟩;replace hS:=cK hS ((aX w1.drew.heap.size w1.drew).alloc (aY _) (.cells #[tx [110,101,103],tx [110,111,116]] 9));have q0:=HU.out _ _ (cP w1.drew [tx [110,101,103],tx [110,111,116]] 9);have HBA:=aF (HB1.out.drew.alloc HB1.out.drew.size (.cells #[tx [110,101,103],tx [110,111,116]] 9));have hq:w1.drew.heap.size=w1.heap.size:=rfl;rw [hq] at q0 ⊢;generalize (w1.drew.alloc (.cells #[tx [110,101,103],tx [110,111,116]] 9))=w2 at *;refine hK1.out _ _ (fun _=>hS) ?_;((refine cR (v:=?_) ?_ hS ?_;rotate_left;(next=>(rintro X -;(try simp only [aI]);go_simp;rfl));simp only [aM]))
   (refine cM (fun K1 hK1=>?_);simp only [aM];rw [bA (by rfl)];go_simp);refine hK1.out _ _ (fun _=>hS) ?_;refine cU (v:=tx (u ++ [32])) (by kernel_rfl) (fun _ _ _ h=>h) (Or.inl ⟨by rfl,?_⟩) hS ?_
   ·rintro X hX;(try simp only [aI]);go_simp;exact ba_l u #[32]
   (simp only [aM]);refine cU (v:=tx (u ++ [32] ++ t)) (by kernel_rfl) (fun _ _ _ h=>h) (Or.inl ⟨by rfl,?_⟩) hS ?_
   ·rintro X hX;(try simp only [aI]);go_simp;exact (fH (u ++ [32]) t).trans (by simp)
   (simp only [aM]);((refine cR (v:=?_) ?_ hS ?_;rotate_left;(next=>(rintro X -;(try simp only [aI]);go_simp;rfl));simp only [aM]))
   refine cV ?_;go_wp2_with fail
   go_ret;exact ⟨by rw [HE2.out];refine congrArg (fun l=>Ending.returned (Value.string l)) (ByteArray.ext ?_);simp,HBA.out⟩
  ·have hu:=hbin rfl;simp at hzt;obtain ⟨u,hu'⟩:∃u,binP op=u:=⟨_,rfl⟩;have HE2:Hid (rvP b.locals b.regions ⟨3,op,rg,mu,⟨l0,ps⟩,ar⟩=u ++ [32] ++ t):=aF (by rw [HE.out,aZ (by decide),bA rfl,hu'])
   have hul:u.length<=3:=by
    rw [<- hu'];unfold binP;repeat (first | decide | split)
   have HU:Hid (∀X:World,∀q:Nat,(∀i v,[tx [97,100,100],tx [115,117,98],tx [109,117,108],tx [101,113],tx [108,116],tx [97,110,100]][i]?=some v->X.cell? ⟨q,i,none⟩=some v)->X.cell? ⟨q,op.toNat,none⟩=some (tx u)):=aF (fun X q h=>by
    obtain rfl | rfl | rfl | rfl | rfl | rfl:=zL hu;all_goals rw [<- hu']
    ·exact h 0 _ rfl
    ·exact h 1 _ rfl
    ·exact h 2 _ rfl
    ·exact h 3 _ rfl
    ·exact h 4 _ rfl
    ·exact h 5 _ rfl)
   obtain ⟨m,rfl⟩:=bG hu.1;have hm:m<6:=by have:=hu.2;omega
   rw [bW] at HU;have hmi:(m:Int)<6:=by omega
   have hz1:¬(9223372036854775807<u.length+1):=by omega
   have hz2:¬(9223372036854775807<u.length+1+t.length):=by omega
   clear hu hu' HE hzt hul;go_enter Tryz.func80,Tryz.ntmps80
   go_wp2_with (go_at_call 81;refine (HQ.out _ (HB0.out _)).mono ?_;rintro e' w1 ⟨rfl,hb1⟩;have HB1:=aF ((HB0.out _).trans (hb1.mono (HB0.out _).size));have HY:=aF (HCN.out w1 hb1);have y0:=HY.out 0 _ rfl;clear hb1)
   refine cQ (S:=fun X=>(aA [.int .i64 3,.int .i64 m,.int .i64 rg,.bool mu,.int .i64 l0,.slice A ps.length c,.slice B ar.length d] X w.heap.size)) [1,2,6,0,3,4,5,7,8] (by kernel_rfl) ?_;have hS:=cK HY.out ((aX _ _).drew);(iterate 3 (refine cR (v:=?_) ?_ hS ?_;rotate_left;(next=>(rintro X hX;have s1:=hX 1 _ rfl;(try simp only [aI]);go_simp;rfl));simp only [aM]));(refine cM (fun K1 hK1=>?_);simp only [aM];rw [bA (by rfl)];go_simp);refine (pX _ (HSP.out _ HB1.out.drew)).mono ?_;rintro e' w2 ⟨rfl,rfl⟩;replace hS:=cK hS ((aX w1.drew.heap.size w1.drew).alloc (aY _) (.cells #[tx [97,100,100],tx [115,117,98],tx [109,117,108],tx [101,113],tx [108,116],tx [97,110,100]] 9));have q0:=HU.out _ _ (cP w1.drew [tx [97,100,100],tx [115,117,98],tx [109,117,108],tx [101,113],tx [108,116],tx [97,110,100]] 9);have HBA:=aF (HB1.out.drew.alloc HB1.out.drew.size (.cells #[tx [97,100,100],tx [115,117,98],tx [109,117,108],tx [101,113],tx [108,116],tx [97,110,100]] 9));have hq:w1.drew.heap.size=w1.heap.size:=rfl;rw [hq] at q0 ⊢;generalize (w1.drew.alloc (.cells #[tx [97,100,100],tx [115,117,98],tx [109,117,108],tx [101,113],tx [108,116],tx [97,110,100]] 9))=w2 at *;refine hK1.out _ _ (fun _=>hS) ?_;((refine cR (v:=?_) ?_ hS ?_;rotate_left;(next=>(rintro X -;(try simp only [aI]);go_simp;rfl));simp only [aM]))
   (refine cM (fun K1 hK1=>?_);simp only [aM];rw [bA (by rfl)];go_simp);refine hK1.out _ _ (fun _=>hS) ?_;refine cU (v:=tx (u ++ [32])) (by kernel_rfl) (fun _ _ _ h=>h) (Or.inl ⟨by rfl,?_⟩) hS ?_
   ·rintro X hX;(try simp only [aI]);go_simp;exact ba_l u #[32]
   (simp only [aM]);refine cU (v:=tx (u ++ [32] ++ t)) (by kernel_rfl) (fun _ _ _ h=>h) (Or.inl ⟨by rfl,?_⟩) hS ?_
   ·rintro X hX;(try simp only [aI]);go_simp;exact (fH (u ++ [32]) t).trans (by simp)
   (simp only [aM]);((refine cR (v:=?_) ?_ hS ?_;rotate_left;(next=>(rintro X -;(try simp only [aI]);go_simp;rfl));simp only [aM]))
   refine cV ?_;go_wp2_with fail
   go_ret;exact ⟨by rw [HE2.out];refine congrArg (fun l=>Ending.returned (Value.string l)) (ByteArray.ext ?_);simp,HBA.out⟩
  ·simp at hzt;go_enter Tryz.func80,Tryz.ntmps80
   go_wp2_with (go_at_call 81;refine (HQ.out _ (HB0.out _)).mono ?_;rintro e' w1 ⟨rfl,hb1⟩;have HB1:=aF ((HB0.out _).trans (hb1.mono (HB0.out _).size));have y0:=HCN.out w1 hb1 0 _ rfl;clear hb1)
   go_ret;exact ⟨by rw [HE.out];refine congrArg (fun l=>Ending.returned (Value.string l)) (ByteArray.ext ?_);simp,HB1.out⟩
structure Lives (w0:World) (B g:Nat) (b:Bdy) (bh:BH) (bs:List UInt8) (d:Nat) (w:World):Prop where
 base:BdAt w0 b bh
 pow:PowTab w0
 sp:SpTab w0
 hg:w0.heap.size<=g
 low:Below w0.heap.size w0 w
 st:PrSt B g b bh bs d w
theorem Lives.ctx {w0:World} {B g:Nat} {b:Bdy} {bh:BH} {bs:List UInt8} {d:Nat} {w:World} (H:Lives w0 B g b bh bs d w):Ctx w g b bh:=by
 obtain ⟨p,v,_,hk,_⟩:=H.st.ex;exact ⟨H.base.keep H.low,by simp [World.cell?,hk,prC],by simp [World.cell?,hk,prC],H.pow.keep H.low⟩
theorem Lives.keep {w0:World} {B g:Nat} {b:Bdy} {bh:BH} {bs:List UInt8} {d:Nat} {w w':World} (H:Lives w0 B g b bh bs d w) (hb:Below w.heap.size w w'):Lives w0 B g b bh bs d w':=
 ⟨H.base,H.pow,H.sp,H.hg,H.low.trans (hb.mono H.low.size),H.st.keep hb⟩
theorem Lives.after {w0:World} {B g:Nat} {b:Bdy} {bh:BH} {bs bs':List UInt8} {d d':Nat} {w w':World} (H:Lives w0 B g b bh bs d w) (P:PrSt B g b bh bs' d' w') (hb:ButB B g w w'):Lives w0 B g b bh bs' d' w':=
 ⟨H.base,H.pow,H.sp,H.hg,H.low.trans (hb.below H.hg H.st.lt),P⟩
theorem gO (y:List UInt8) (c e:UInt8):Lib.hasSuffix (y ++ [c]) [e]=(e == c):=by
 simp [Lib.hasSuffix,List.isSuffixOf,List.isPrefixOf]
structure RowT (w:World) (bk:Nat) (xs:List (List UInt8)):Prop where
 at_:∀j x,xs[j]?=some x->w.cell? ⟨bk,j,none⟩=some (tx x)
 lt:bk<w.heap.size
theorem dJ (W:World) (xs:List (List UInt8)):RowT (W.alloc (.cells (xs.map tx).toArray 9)) W.heap.size xs:=
 ⟨fun j x hx=>cP W (xs.map tx) _ j (tx x) (by rw [cI,hx];rfl),by simp⟩
theorem dN {w0:World} {B g:Nat} {b:Bdy} {bh:BH} {bs:List UInt8} {d:Nat} {w:World} (H:Lives w0 B g b bh bs d w) (xs:List (List UInt8)) (y:List UInt8) (bk:Nat) (hx:RowT w bk xs) (hj:Lib.join xs [32]=y ++ [59]) (hd:d<=2) (hn:xs.length<=10)
 (hz:bs.length+y.length+100<=140737488355328):
 Calls Tryz.prog 28 #[.pointer (some ⟨g,0,none⟩),.slice (some ⟨bk,0,none⟩) xs.length xs.length] w fun e' w'=>e' = .returned (.tuple #[])/\Lives w0 B g b bh (bs ++ (ind d ++ (y ++ [59,10]))) d w'/\Fr g w w':=by
 have hi:(ind d).length<=4:=by
  obtain rfl | rfl | rfl:d=0\/d=1\/d=2:=by omega
  all_goals decide
 refine (jS B g b bh bs (y ++ [59]) d false false xs bk w H.st hx.at_ hx.lt hj (gO _ _ _) (gO _ _ _) (fun h=>by cases h) (by omega) (by omega) (by simp only [lnD,bB,bK,bP];simp;omega) (by simp [lnD];omega)).mono ?_;rintro e' w' ⟨rfl,hp,hb,hf⟩;simp only [lnD,lnE,Bool.false_eq_true,if_false] at hp;rw [show ind d ++ (y ++ [59]) ++ [10]=ind d ++ (y ++ [59,10]) by simp] at hp;exact ⟨rfl,H.after hp hb,hf⟩
theorem jR {w0:World} {B g:Nat} {b:Bdy} {bh:BH} {bs:List UInt8} {d:Nat} {w:World} (H:Lives w0 B g b bh bs d w) (xs:List (List UInt8)) (y:List UInt8) (bk:Nat) (hx:RowT w bk xs) (hj:Lib.join xs [32]=y ++ [123]) (hd:d<=2) (hn:xs.length<=10)
 (hz:bs.length+y.length+100<=140737488355328):
 Calls Tryz.prog 28 #[.pointer (some ⟨g,0,none⟩),.slice (some ⟨bk,0,none⟩) xs.length xs.length] w fun e' w'=>e' = .returned (.tuple #[])/\Lives w0 B g b bh (bs ++ (ind d ++ (y ++ [123,10]))) (d+1) w'/\Fr g w w':=by
 have hi:(ind d).length<=4:=by
  obtain rfl | rfl | rfl:d=0\/d=1\/d=2:=by omega
  all_goals decide
 refine (jS B g b bh bs (y ++ [123]) d false true xs bk w H.st hx.at_ hx.lt hj (gO _ _ _) (gO _ _ _) (fun h=>by cases h) (by omega) (by omega) (by simp only [lnD,bB,bK,bP];simp;omega) (by simp [lnD];omega)).mono ?_;rintro e' w' ⟨rfl,hp,hb,hf⟩;simp only [lnD,lnE,Bool.false_eq_true,if_false,if_true] at hp;rw [show ind d ++ (y ++ [123]) ++ [10]=ind d ++ (y ++ [123,10]) by simp] at hp;exact ⟨rfl,H.after hp hb,hf⟩
theorem iI {w0:World} {B g:Nat} {b:Bdy} {bh:BH} {bs:List UInt8} {d:Nat} {w:World} (H:Lives w0 B g b bh bs (d+1) w) (bk:Nat) (hx:RowT w bk [[125]]) (hd:d<=2)
 (hz:bs.length+100<=140737488355328):
 Calls Tryz.prog 28 #[.pointer (some ⟨g,0,none⟩),.slice (some ⟨bk,0,none⟩) 1 1] w fun e' w'=>e' = .returned (.tuple #[])/\Lives w0 B g b bh (bs ++ (ind d ++ [125,10])) d w'/\Fr g w w':=by
 have hi:(ind d).length<=4:=by
  obtain rfl | rfl | rfl:d=0\/d=1\/d=2:=by omega
  all_goals decide
 refine (jS B g b bh bs [125] (d+1) true false [[125]] bk w H.st hx.at_ hx.lt rfl rfl rfl (fun _=>by omega) (by omega) (by simp) (by simp only [lnD,if_true,Nat.add_sub_cancel,bK,bP];omega) (by simp [lnD];omega)).mono ?_;rintro e' w' ⟨rfl,hp,hb,hf⟩;simp only [lnD,lnE,Bool.false_eq_true,if_false,if_true,Nat.add_sub_cancel] at hp;rw [show ind d ++ [125] ++ [10]=ind d ++ [125,10] by simp] at hp;exact ⟨rfl,H.after hp hb,hf⟩
theorem cO {X:World} {n:Nat} {l:List Value} {T:TypeId} (h:X.heap[n]?=some (.cells l.toArray T (0,0))):∀i v,l[i]?=some v->X.cell? ⟨n,i,none⟩=some v:=fun i v hi=>by
 simp [World.cell?,h,hi]
theorem cL {W W':World} {n:Nat} {o:Obj} (h:W.heap[n]?=some o) (hb:Below W.heap.size W W'):W'.heap[n]?=some o:=(hb.block n (Array.getElem?_eq_some_iff.1 h).1).trans h
theorem heap_fr {W W':World} {n g:Nat} {cs:Array Value} {T:TypeId} {f:Nat × Nat} (h:W.heap[n]?=some (.cells cs T f)) (hf:Fr g W W') (hg:g≠n) (hT:T≠5):W'.heap[n]?=some (.cells cs T f):=
 (hf.block n (Array.getElem?_eq_some_iff.1 h).1 (Ne.symm hg) (fun cs' f' e=>by rw [h] at e;cases e;exact hT rfl)).trans h
structure FitS (s:Stm):Prop where
 pj:∀x∈s.place.proj,fitJ x
 rv:FitR s.rv
theorem join3 (a c:List UInt8) (b:List UInt8):Lib.join [a,b,c] [32]=a ++ (32 :: (b ++ 32 :: c)):=by simp [Lib.join,List.intercalate]
theorem join2 (a b:List UInt8):Lib.join [a,b] [32]=a ++ 32 :: b:=by simp [Lib.join,List.intercalate]
theorem join1 (a:List UInt8):Lib.join [a] [32]=a:=by simp [Lib.join,List.intercalate]
theorem rI {w0:World} {B g:Nat} {b:Bdy} {bh:BH} {bs:List UInt8} {w:World} (H:Lives w0 B g b bh bs 2 w) (s:Stm) (A0 A A1:Option Addr) (c0 c c1:Nat) (hp:Slc 2 RPj w A0 c0 s.place.proj) (hq:Slc 2 RPj w A c s.rv.place.proj) (ha:Slc 4 ROp w A1 c1 s.rv.args)
 (ho:OkSt b.locals b.regions s) (hf:FitS s) (hz:bs.length+(stmtP b.locals b.regions s).length+200<=140737488355328) (hl:s.rv.args.length<=1000000):
 Calls Tryz.prog 36 #[.pointer (some ⟨g,0,none⟩),.agg #[.int .i64 s.kind,.int .i64 s.place.loc,.slice A0 s.place.proj.length c0,.int .i64 s.rv.kind,.int .i64 s.rv.op,.int .i64 s.rv.reg,.bool s.rv.mu,.int .i64 s.rv.place.loc,.slice A s.rv.place.proj.length c,.slice A1 s.rv.args.length c1,.int .i64 s.loc]] w fun e' w'=>e' = .returned (.tuple #[])/\Lives w0 B g b bh (bs ++ eB b.locals b.regions s) 2 w'/\Fr g w w':=by
 have HB0:=aF (fun (o:Obj)=>(aX w.heap.size w).alloc (aY _) o);have hk:=ho.kind;have HH:=aF H;obtain hk0 | hk0 | hk0:s.kind=0\/s.kind=1\/s.kind=2:=by omega
 ·obtain ⟨-,hpl,hrv⟩:=ho.asg hk0;have HE:Hid (stmtP b.locals b.regions s=placeP b.locals s.place ++ [32,61,32] ++ rvP b.locals b.regions s.rv):=aF (by unfold stmtP;rw [bA hk0]);obtain ⟨P1,hP1⟩:∃x,placeP b.locals s.place=x:=⟨_,rfl⟩;obtain ⟨V1,hV1⟩:∃x,rvP b.locals b.regions s.rv=x:=⟨_,rfl⟩;rw [hP1,hV1] at HE
  have hzl:bs.length+(P1.length+V1.length)+203<=140737488355328:=by
   rw [HE.out] at hz;simp only [bB,bK,bP] at hz;omega
  have HP:Hid (∀W,Below w.heap.size w W->Calls Tryz.prog 48 #[.pointer (some ⟨g,0,none⟩),.agg #[.int .i64 s.place.loc,.slice A0 s.place.proj.length c0]] W fun e' w'=>e' = .returned (tx P1)/\Below W.heap.size W w'):=aF (fun W hb=>by
   have C:=(H.keep hb).ctx;rw [<- hP1]
   exact eN b.locals g bh.A4 bh.c4 s.place A0 c0 W C.locs C.at_.loc (hp.keep RPj.keeps hb) hpl.loc hf.pj (by rw [hP1];show P1.length<=_;omega) C.pow)
  have HV:Hid (∀W,Below w.heap.size w W->Calls Tryz.prog 80 #[.pointer (some ⟨g,0,none⟩),.agg #[.int .i64 s.rv.kind,.int .i64 s.rv.op,.int .i64 s.rv.reg,.bool s.rv.mu,.int .i64 s.rv.place.loc,.slice A s.rv.place.proj.length c,.slice A1 s.rv.args.length c1]] W fun e' w'=>e' = .returned (tx V1)/\Below W.heap.size W w'):=aF (fun W hb=>by
   have C:=(H.keep hb).ctx;rw [<- hV1]
   exact xR C (H.sp.keep (H.keep hb).low) s.rv A A1 c c1 (hq.keep RPj.keeps hb) (ha.keep ROp.keeps hb) hrv hf.rv (by rw [hV1];show V1.length<=_;omega) hl)
  have HL:Hid (∀W,Below w.heap.size w W->∀bk,RowT W bk [P1,[61],V1 ++ [59]]->Calls Tryz.prog 28 #[.pointer (some ⟨g,0,none⟩),.slice (some ⟨bk,0,none⟩) 3 3] W fun e' w'=>e' = .returned (.tuple #[])/\Lives w0 B g b bh (bs ++ eB b.locals b.regions s) 2 w'/\Fr g W w'):=aF (fun W hb bk hr=>by
   have h:=dN (H.keep hb) [P1,[61],V1 ++ [59]] (P1 ++ (32 :: 61 :: 32 :: V1)) bk hr (by rw [join3];simp) (by decide) (by simp) (by simp only [bB,bK];omega)
   rw [show bs ++ eB b.locals b.regions s=bs ++ (ind 2 ++ ((P1 ++ (32 :: 61 :: 32 :: V1)) ++ [59,10])) by
    unfold eB semP;rw [HE.out,show ind 2=[32,32,32,32] from rfl];simp]
   exact h)
  have hz1:¬(9223372036854775807<V1.length+1):=by omega
  clear H hp hq ha hpl hrv ho hf hz hzl hP1 hV1 HE;obtain ⟨k,⟨l0,ps⟩,⟨vk,vo,vr,vm,⟨l1,qs⟩,ar⟩,lo⟩:=s;simp only at hk0 HP HV HL hl hk ⊢;subst hk0;go_enter Tryz.func36,Tryz.ntmps36
  go_wp2_with fail
  have hne:g≠w.heap.size:=by have:=HH.out.st.lt;have:=HH.out.st.le;omega
  have hS:(w.alloc (.cells #[Value.int .i64 0,.int .i64 l0,.slice A0 ps.length c0,.int .i64 vk,.int .i64 vo,.int .i64 vr,.bool vm,.int .i64 l1,.slice A qs.length c,.slice A1 ar.length c1,.int .i64 lo] 87)).drew.heap[w.heap.size]?=some (.cells ([Value.int .i64 0,.int .i64 l0,.slice A0 ps.length c0,.int .i64 vk,.int .i64 vo,.int .i64 vr,.bool vm,.int .i64 l1,.slice A qs.length c,.slice A1 ar.length c1,.int .i64 lo]).toArray 87 (0,0)):=heap_alloc_new w _;refine cQ (S:=fun X=>X.heap[w.heap.size]?=some (.cells ([Value.int .i64 0,.int .i64 l0,.slice A0 ps.length c0,.int .i64 vk,.int .i64 vo,.int .i64 vr,.bool vm,.int .i64 l1,.slice A qs.length c,.slice A1 ar.length c1,.int .i64 lo]).toArray 87 (0,0))) [0,1,2,3,5,6,7,4,8,9,10,11] (by kernel_rfl) ?_;(iterate 7 (refine cR (v:=?_) ?_ hS ?_;rotate_left;(next=>(rintro X hX;have hY:=cO hX;obtain ⟨-,s1,s2,s3,s4,s5,s6,s7,s8,s9⟩:=aV hY;(try simp only [aI]);go_simp;rfl));simp only [aM]));(refine cM (fun K1 hK1=>?_);simp only [aM];rw [bA (by rfl)];go_simp);refine (HP.out _ (HB0.out _).drew).mono ?_;rintro e' w1 ⟨rfl,hb1⟩;replace hS:=cL hS hb1;have HB1:=aF ((HB0.out _).drew.trans (hb1.mono (HB0.out _).drew.size));clear hb1;refine hK1.out _ _ (fun _=>hS) ?_;(refine cM (fun K1 hK1=>?_);simp only [aM];rw [bA (by rfl)];go_simp);refine (HV.out _ HB1.out).mono ?_;rintro e' w2 ⟨rfl,hb2⟩;replace hS:=cL hS hb2;have HB2:=aF (HB1.out.trans (hb2.mono HB1.out.size));clear hb2;refine hK1.out _ _ (fun _=>hS) ?_;refine cU (v:=tx (V1 ++ [59])) (by kernel_rfl) (fun _ _ _ h=>h) (Or.inl ⟨by rfl,?_⟩) hS ?_
  ·rintro X hX;(try simp only [aI]);go_simp;exact ba_l V1 #[59]
  (simp only [aM]);(refine cM (fun K1 hK1=>?_);simp only [aM];rw [bA (by rfl)];go_simp);have HB3:=aF (HB2.out.alloc HB2.out.size (.cells #[tx P1,tx [61],tx (V1 ++ [59])] 9));replace hS:=cL hS ((aX w2.heap.size w2).alloc (aY _) (.cells #[tx P1,tx [61],tx (V1 ++ [59])] 9));refine hK1.out _ _ (fun _=>hS) ?_;(refine cM (fun K1 hK1=>?_);simp only [aM];rw [bA (by rfl)];go_simp);refine (HL.out _ HB3.out _ (dJ w2 [P1,[61],V1 ++ [59]])).mono ?_;rintro e' w4 ⟨rfl,hl4,hf4⟩;replace hS:=heap_fr hS hf4 hne (by decide);have HL4:=aF hl4;have HF4:=aF ((Fr.of_below HB3.out).trans hf4);clear hl4 hf4;refine hK1.out _ _ (fun _=>hS) ?_;refine cV ?_;go_wp2_with fail
  go_end0
  exact ⟨rfl,HL4.out,HF4.out⟩
 ·have hlo:=ho.dead hk0;obtain ⟨P1,hP1⟩:∃x,placeP b.locals ⟨s.loc,[]⟩=x:=⟨_,rfl⟩;have HE:Hid (stmtP b.locals b.regions s=[100,101,97,100,32] ++ P1):=aF (by unfold stmtP;rw [aZ (by omega),bA hk0,<- hP1];simp [placeP,pjsP])
  have hzl:bs.length+P1.length+205<=140737488355328:=by
   rw [HE.out] at hz;simp only [bB,bK,bP] at hz;omega
  have HP:Hid (∀W,Below w.heap.size w W->Calls Tryz.prog 48 #[.pointer (some ⟨g,0,none⟩),.agg #[.int .i64 s.loc,.slice none 0 0]] W fun e' w'=>e' = .returned (tx P1)/\Below W.heap.size W w'):=aF (fun W hb=>by
   have C:=(H.keep hb).ctx;rw [<- hP1]
   exact eN b.locals g bh.A4 bh.c4 ⟨s.loc,[]⟩ none 0 W C.locs C.at_.loc ⟨Sl.nil,by simp,by omega⟩ hlo (fun x hx=>by cases hx) (by rw [hP1];show P1.length<=_;omega) C.pow)
  have HL:Hid (∀W,Below w.heap.size w W->∀bk,RowT W bk [[100,101,97,100],P1 ++ [59]]->Calls Tryz.prog 28 #[.pointer (some ⟨g,0,none⟩),.slice (some ⟨bk,0,none⟩) 2 2] W fun e' w'=>e' = .returned (.tuple #[])/\Lives w0 B g b bh (bs ++ eB b.locals b.regions s) 2 w'/\Fr g W w'):=aF (fun W hb bk hr=>by
   have h:=dN (H.keep hb) [[100,101,97,100],P1 ++ [59]] ([100,101,97,100,32] ++ P1) bk hr (by rw [join2];simp) (by decide) (by simp) (by simp only [bB,bK,bP];omega)
   rw [show bs ++ eB b.locals b.regions s=bs ++ (ind 2 ++ (([100,101,97,100,32] ++ P1) ++ [59,10])) by
    unfold eB semP;rw [HE.out,show ind 2=[32,32,32,32] from rfl];simp]
   exact h)
  have hz1:¬(9223372036854775807<P1.length+1):=by omega
  have ea:=ba_l P1 #[59];clear H hp hq ha ho hf hz hzl hP1 HE hlo;obtain ⟨k,⟨l0,ps⟩,⟨vk,vo,vr,vm,⟨l1,qs⟩,ar⟩,lo⟩:=s;simp only at hk0 HP HL hl hk ⊢;subst hk0;go_enter Tryz.func36,Tryz.ntmps36
  go_wp2_with (first
   | (go_at_call 48;refine (HP.out _ (HB0.out _)).mono ?_;rintro e' w1 ⟨rfl,hb1⟩;have HB1:=aF ((HB0.out _).trans (hb1.mono (HB0.out _).size));have HB3:=aF (HB1.out.alloc HB1.out.size (.cells #[tx [100,101,97,100],tx (P1 ++ [59])] 9));clear hb1)
   | (go_at_call 28;refine (HL.out _ HB3.out _ (dJ w1 [[100,101,97,100],P1 ++ [59]])).mono ?_;rintro e' w4 ⟨rfl,hl4,hf4⟩;have HL4:=aF hl4;have HF4:=aF ((Fr.of_below HB3.out).trans hf4);clear hl4 hf4))
  go_end0
  exact ⟨rfl,HL4.out,HF4.out⟩
 ·have HE:Hid (stmtP b.locals b.regions s=[110,111,112]):=aF (by unfold stmtP;rw [aZ (by omega),aZ (by omega)]);have hzl:bs.length+205<=140737488355328+5:=by omega
  have HL:Hid (∀W,Below w.heap.size w W->∀bk,RowT W bk [[110,111,112,59]]->Calls Tryz.prog 28 #[.pointer (some ⟨g,0,none⟩),.slice (some ⟨bk,0,none⟩) 1 1] W fun e' w'=>e' = .returned (.tuple #[])/\Lives w0 B g b bh (bs ++ eB b.locals b.regions s) 2 w'/\Fr g W w'):=aF (fun W hb bk hr=>by
   have h:=dN (H.keep hb) [[110,111,112,59]] [110,111,112] bk hr (by rw [join1];rfl) (by decide) (by simp) (by simp only [bK,bP];omega)
   rw [show bs ++ eB b.locals b.regions s=bs ++ (ind 2 ++ ([110,111,112] ++ [59,10])) by
    unfold eB semP;rw [HE.out,show ind 2=[32,32,32,32] from rfl];simp]
   exact h)
  clear H hp hq ha ho hf hz hzl HE;obtain ⟨k,⟨l0,ps⟩,⟨vk,vo,vr,vm,⟨l1,qs⟩,ar⟩,lo⟩:=s;simp only at hk0 HL hl hk ⊢;subst hk0;go_enter Tryz.func36,Tryz.ntmps36
  have HB3:=aF (((HB0.out (.cells #[.int .i64 2,.int .i64 l0,.slice A0 ps.length c0,.int .i64 vk,.int .i64 vo,.int .i64 vr,.bool vm,.int .i64 l1,.slice A qs.length c,.slice A1 ar.length c1,.int .i64 lo] 87)).alloc (HB0.out _).size (.cells #[tx [110,111,112,59]] 9)))
  have HR0:Hid (RowT ((w.alloc (.cells #[.int .i64 2,.int .i64 l0,.slice A0 ps.length c0,.int .i64 vk,.int .i64 vo,.int .i64 vr,.bool vm,.int .i64 l1,.slice A qs.length c,.slice A1 ar.length c1,.int .i64 lo] 87)).alloc (.cells #[tx [110,111,112,59]] 9)) (w.heap.size+1) [[110,111,112,59]]):=aF (by
   have h:=dJ (w.alloc (.cells #[.int .i64 2,.int .i64 l0,.slice A0 ps.length c0,.int .i64 vk,.int .i64 vo,.int .i64 vr,.bool vm,.int .i64 l1,.slice A qs.length c,.slice A1 ar.length c1,.int .i64 lo] 87)) [[110,111,112,59]];rw [bI] at h
   exact h)
  go_wp2_with (go_at_call 28;refine (HL.out _ HB3.out (w.heap.size+1) HR0.out).mono ?_;rintro e' w4 ⟨rfl,hl4,hf4⟩;have HL4:=aF hl4;have HF4:=aF ((Fr.of_below HB3.out).trans hf4);clear hl4 hf4)
  go_end0
  exact ⟨rfl,HL4.out,HF4.out⟩
structure FitTm (t:Trm):Prop where
 pj:∀x∈t.place.proj,fitJ x
 args:∀o∈t.args,FitO o
 tg:∀x∈t.targets,fitN x
theorem join4 (a b c d:List UInt8):Lib.join [a,b,c,d] [32]=a ++ (32 :: (b ++ (32 :: (c ++ 32 :: d)))):=by simp [Lib.join,List.intercalate]
theorem join5 (a b c d e:List UInt8):Lib.join [a,b,c,d,e] [32]=a ++ (32 :: (b ++ (32 :: (c ++ (32 :: (d ++ 32 :: e)))))):=by simp [Lib.join,List.intercalate]
theorem fQ {X:World} {base n:Nat} {v:Value} {l:List (List UInt8)} (h:X.ownsRow base 9 1 v n (l.map tx)) (hn:n=l.length) (h0:l≠[]):
 ∃q cap cur,v = .slice (some ⟨q,0,none⟩) l.length cap/\base<=q/\l.length<=cap/\X.heap[q]?=some (.cells cur 9 (0,0))/\∀(j:Nat) x,l[j]?=some x->cur[j]?=some (tx x):=by
 subst hn;rcases h.2 with ⟨_,hz⟩ | ⟨q,cap,cur,rfl,hq,hh,hc,_,_,htk⟩
 ·exact absurd (bV hz) h0
 ·refine ⟨q,cap,cur,rfl,hq,hc,hh,fun j x hx=>?_⟩;rw [Nat.mul_one] at htk;have e:(cur.toList.take l.length)[j]?=some (tx x):=by rw [htk,cI,hx];rfl
  rw [List.getElem?_take] at e;split at e
  ·rw [<- Array.getElem?_toList];exact e
  ·cases e
theorem gK {X:World} {q:Nat} {cur:Array Value} {T:TypeId} (h:X.heap[q]?=some (.cells cur T (0,0))) {j:Nat} {v:Value} (hj:cur[j]?=some v):X.cell? ⟨q,j,none⟩=some v:=by
 simp [World.cell?,h,hj]
theorem rH {w0:World} {B g:Nat} {b:Bdy} {bh:BH} {bs:List UInt8} {w:World} (H:Lives w0 B g b bh bs 2 w) (t:Trm) (A1 A2 A3:Option Addr) (c1 c2 c3:Nat) (ht:Slc 1 RInt w A1 c1 t.targets) (ha:Slc 4 ROp w A2 c2 t.args) (hp:Slc 2 RPj w A3 c3 t.place.proj)
 (ho:OkTm b.locals t) (hf:FitTm t) (hz:bs.length+(termP b.locals t).length+200<=140737488355328) (hl:t.args.length<=1000000):
 Calls Tryz.prog 37 #[.pointer (some ⟨g,0,none⟩),.agg #[.int .i64 t.kind,.slice A1 t.targets.length c1,.slice A2 t.args.length c2,.int .i64 t.place.loc,.slice A3 t.place.proj.length c3,.string t.name]] w fun e' w'=>e' = .returned (.tuple #[])/\Lives w0 B g b bh (bs ++ ([32,32,32,32] ++ termP b.locals t ++ semP)) 2 w'/\Fr g w w':=by
 obtain ⟨iS,iS0,iS1,iS2,iS3⟩:=info_parts lT;have HB0:=aF (fun (o:Obj)=>(aX w.heap.size w).alloc (aY _) o);have HH:=aF H;have HO:=aF ho;have HF:=aF hf;have HZ:=aF hz;have HT:=aF ht;have HA:=aF ha;have HP:=aF hp;have hk:=ho.kind;have hle:=ht.le;have hbig:=ht.big
 have htl:t.targets.length<=2:=by
  rcases kind_six hk with h | h | h | h | h | h
  ·have:=ho.one (.inl h);omega
  ·have:=(ho.two h).1;omega
  ·rw [ho.none (.inl h)];simp
  ·have:=ho.one (.inr (.inl h));omega
  ·have:=ho.one (.inr (.inr h));omega
  ·rw [ho.none (.inr h)];simp
 have HI:=aF (fun (x:Int) (hx:x∈t.targets) (W:World) (hb:Below w.heap.size w W)=>index_any' [94] x (hf.tg x hx).1 (hf.tg x hx).2 (by simp) W ((H.keep hb).ctx.pow));obtain ⟨nm,hnm⟩:∃nm:List UInt8,bl t.name=nm:=⟨_,rfl⟩;have hnv:t.name=⟨nm.toArray⟩:=by rw [<- hnm]
 have HNM:=aF hnm;have hne:g≠w.heap.size:=by have:=H.st.lt;have:=H.st.le;omega
 have HL:Hid (∀W,Below w.heap.size w W->∀(xs:List (List UInt8)) (y:List UInt8) (bk:Nat),RowT W bk xs->Lib.join xs [32]=y ++ [59]->y=termP b.locals t->xs.length<=10->Calls Tryz.prog 28 #[.pointer (some ⟨g,0,none⟩),.slice (some ⟨bk,0,none⟩) xs.length xs.length] W fun e' w'=>e' = .returned (.tuple #[])/\Lives w0 B g b bh (bs ++ ([32,32,32,32] ++ termP b.locals t ++ semP)) 2 w'/\Fr g W w'):=aF (fun W hb xs y bk hr hj hy hn=>by
  have h:=dN (H.keep hb) xs y bk hr hj (by decide) hn (by rw [hy];omega)
  rw [show bs ++ ([32,32,32,32] ++ termP b.locals t ++ semP)=bs ++ (ind 2 ++ (y ++ [59,10])) by
   rw [hy,show ind 2=[32,32,32,32] from rfl,semP];simp]
  exact h)
 have HPL:Hid (∀W,Below w.heap.size w W->(t.kind=3\/t.kind=4)->Sm (placeP b.locals t.place)->Calls Tryz.prog 48 #[.pointer (some ⟨g,0,none⟩),.agg #[.int .i64 t.place.loc,.slice A3 t.place.proj.length c3]] W fun e' w'=>e' = .returned (tx (placeP b.locals t.place))/\Below W.heap.size W w'):=aF (fun W hb h34 hzz=>by
  have C:=(H.keep hb).ctx
  exact eN b.locals g bh.A4 bh.c4 t.place A3 c3 W C.locs C.at_.loc (hp.keep RPj.keeps hb) (ho.place h34).loc hf.pj hzz C.pow)
 have HOP:Hid (∀W,Below w.heap.size w W->Sm (opsP b.locals t.args)->Calls Tryz.prog 81 #[.pointer (some ⟨g,0,none⟩),.slice A2 t.args.length c2] W fun e' w'=>e' = .returned (tx (opsP b.locals t.args))/\Below W.heap.size W w'):=aF (fun W hb hzz=>
  nT (H.keep hb).ctx t.args A2 c2 (ha.keep ROp.keeps hb) ho.args hf.args hzz hl)
 clear H ho hf hz ht ha hp hnm;obtain ⟨k,tg,ar,⟨l0,ps⟩,name⟩:=t;simp only at hnv;subst hnv;simp only at hk hle htl HI HPL HOP HL hl HT HNM ⊢;go_enter Tryz.func37,Tryz.ntmps37
 go_wp2_with fail
 go_loopw [4,6,10] (fun v q i wr=>∃(j:Nat) (acc:List (List UInt8)),j<=tg.length/\i = .int .i64 j/\q=q/\acc.length=j/\Hid (acc=(tg.take j).map (idxP 94))/\Hid (wr.ownsRow (w.heap.size+1) 9 1 v j (acc.map tx))/\Hid (Below w.heap.size w wr)/\Hid (wr.heap[w.heap.size]?=some (.cells #[.int .i64 k,.slice A1 tg.length c1,.slice A2 ar.length c2,.int .i64 l0,.slice A3 ps.length c3,.string ⟨nm.toArray⟩] 61 (0,0)))) (fun _ _ i _=>tg.length - (intOf i).toNat)
 case atStart=>exact ⟨0,[],by omega,rfl,rfl,rfl,aF rfl,aF (World.ownsRow_nil _ _ _ _),aF aH,aF (heap_alloc_new w _)⟩
 case round=>
  obtain ⟨j,acc,hj,rfl,_,hal,HAC,HOW,HB,HTM⟩:=hrel;have hsz:=HB.out.size;have hlt0:w.heap.size<wr.heap.size:=(Array.getElem?_eq_some_iff.1 HTM.out).1;by_cases hlt:j<tg.length
  case pos=>
   obtain ⟨bb,oo,rfl,hbb,y⟩:=(HT.out.keep RInt.keeps HB.out).sl.at_ hlt;have HX0:=aF (HI.out tg[j] (bN hlt));have HA2:Hid (acc ++ [idxP 94 tg[j]]=(tg.take (j+1)).map (idxP 94)):=aF (by rw [HAC.out,bF hlt,bU];rfl);have x0:wr.cell? ⟨bb,oo+j,none⟩=some (.int .i64 tg[j]):=by simpa [RInt] using y
   generalize tg[j]=x at *;obtain ⟨fx,hfx⟩:∃fx,idxP 94 x=fx:=⟨_,rfl⟩;have hfx':[94] ++ Lib.itoa x=fx:=hfx;rw [hfx] at HA2;rw [hfx'] at HX0;clear y hfx hfx'
   go_wp2_with (first
    | (go_at_call 34;refine (HX0.out _ HB.out).mono ?_;rintro e' w1 ⟨rfl,hb1⟩;have HB1:=aF (HB.out.trans (hb1.mono HB.out.size));have hsz1:=HB1.out.size;have hlt1:w.heap.size<w1.heap.size:=bO hlt0 hb1.size;have HO1:=aF (dB HOW.out hb1);have HT1:=aF (cL HTM.out hb1);clear hb1)
    | (at_builtin;refine wpList_append_own _ rfl _ _ 22 rfl (w.heap.size+1) 9 iS (.string { data:= #[] }) 1 16 Tryz.underlying22 iS0 iS1 iS2 iS3 rfl (by decide) _ _ _ rfl (HO1.out.alloc (.cells #[tx fx] 9)) ⟨w1.heap.size,0,none⟩ 1 1 [tx fx] rfl rfl (mC _ _) (mB _) (by unfold maxLen;omega) (by omega) (by simp;omega) ?_))
   intro v' w2 hown' hgrow _;have HO2:Hid (w2.ownsRow (w.heap.size+1) 9 1 v' (j+1) ((acc ++ [fx]).map tx)):=aF (by rw [bU];exact hown');have HBX:=(aX (w.heap.size+1) (w1.alloc (.cells #[tx fx] 9))).grown hgrow (by simp;omega) (fun g hg=>((HO1.out.alloc (.cells #[tx fx] 9)).lt g hg).1);have HT2:=aF ((HBX.block w.heap.size (by omega)).trans (cL HT1.out ((aX w1.heap.size w1).alloc (aY _) (.cells #[tx fx] 9))));have HB2:Hid (Below w.heap.size w w2):=aF ((HB1.out.alloc hsz1 (.cells #[tx fx] 9)).trans (HBX.mono (by omega)));clear hown' hgrow HBX;go_wp2_with fail
   go_roundw
   case rel=>exact ⟨j+1,acc ++ [fx],by omega,by go_num,trivial,by simp [hal],HA2,HO2,HB2,HT2⟩
   case measure=>simp [intOf];omega
  case neg=>
   have hjl:j=tg.length:=by omega
   have HAF:Hid (acc=tg.map (idxP 94)):=aF (by rw [HAC.out,hjl,cA]);have hTC:=cO (l:=[.int .i64 k,.slice A1 tg.length c1,.slice A2 ar.length c2,.int .i64 l0,.slice A3 ps.length c3,.string ⟨nm.toArray⟩]) HTM.out;have s0:=hTC 0 _ rfl;clear HAC HI HT hle hbig hTC hlt hjl htl hj;rcases kind_six hk with hk0 | hk0 | hk0 | hk0 | hk0 | hk0
   ·subst hk0;obtain ⟨a,rfl⟩:=rW (HO.out.one (.inl rfl));obtain ⟨ta,hta⟩:∃ta,idxP 94 a=ta:=⟨_,rfl⟩;have hae:acc=[ta]:=by rw [HAF.out,<- hta];rfl
    subst hae;obtain rfl:j=1:=hal.symm;obtain ⟨q,cap,cur,rfl,hq,hcap,hQ,hcur⟩:=fQ HOW.out rfl (by simp);have hc0:=hcur 0 _ rfl;have q0:=gK hQ hc0;have HQ:=aF hQ;have HC0:=aF hc0;have hcap1:1<=cap:=hcap;clear hcur hQ hc0 hcap;have hqg:g≠q:=by have:=HH.out.st.lt;have:=HH.out.st.le;omega
    have HE:Hid (termP b.locals ⟨0,[a],ar,⟨l0,ps⟩,⟨nm.toArray⟩⟩=[103,111,116,111,32] ++ ta):=aF (by rw [<- hta];rfl);have hzl:=HZ.out;rw [HE.out] at hzl;simp only [bB,bK,bP] at hzl;have hz1:¬(9223372036854775807<ta.length+1):=(by omega);have ea:=ba_l ta #[59];have HB3:=aF (HB.out.alloc HB.out.size (.cells #[tx [103,111,116,111],tx (ta ++ [59])] 9));have HR0:=aF (dJ wr [[103,111,116,111],ta ++ [59]]);have HLL:=aF (HL.out _ HB3.out [[103,111,116,111],ta ++ [59]] ([103,111,116,111,32] ++ ta) _ HR0.out (by rw [join2];simp) HE.out.symm (by simp));clear hzl hta HE HR0 HL HOP HPL;go_wp2_with (go_at_call 28;refine HLL.out.mono ?_;rintro e' w4 ⟨rfl,hl4,hf4⟩;have HL4:=aF hl4;have HF4:=aF ((Fr.of_below HB3.out).trans hf4);clear hl4 hf4)
    go_end0
    exact ⟨rfl,HL4.out,HF4.out⟩
   ·subst hk0;obtain ⟨a,a',rfl⟩:=zA (HO.out.two rfl).1;obtain ⟨ta,hta⟩:∃ta,idxP 94 a=ta:=⟨_,rfl⟩;obtain ⟨tb,htb⟩:∃tb,idxP 94 a'=tb:=⟨_,rfl⟩;have hae:acc=[ta,tb]:=by rw [HAF.out,<- hta,<- htb];rfl
    subst hae;obtain rfl:j=2:=hal.symm;obtain ⟨q,cap,cur,rfl,hq,hcap,hQ,hcur⟩:=fQ HOW.out rfl (by simp);have HC0:=aF (hcur 0 _ rfl);have HC1:=aF (hcur 1 _ rfl);have HQ:=aF hQ;have hcap1:2<=cap:=hcap;have hqg:g≠q:=by have:=HH.out.st.lt;have:=HH.out.st.le;omega
    clear hcur hQ hcap;obtain ⟨O1,hO1⟩:∃x,opsP b.locals ar=x:=⟨_,rfl⟩;have HE:Hid (termP b.locals ⟨1,[a,a'],ar,⟨l0,ps⟩,⟨nm.toArray⟩⟩=[105,102,32] ++ O1 ++ [32] ++ ta ++ [32,101,108,115,101,32] ++ tb):=aF (by rw [<- hta,<- htb,<- hO1];rfl);have hzl:=HZ.out;rw [HE.out] at hzl;simp only [bB,bK,bP] at hzl;have hz1:¬(9223372036854775807<tb.length+1):=(by omega);have HOO:=aF (fun W hb=>HOP.out W hb (by rw [hO1];show O1.length<=_;omega));rw [hO1] at HOO;clear hzl hta htb hO1 HOP HPL;go_wp2_with fail
    have hS:wr.drew.heap[w.heap.size]?=some (.cells ([Value.int .i64 1,.slice A1 [a,a'].length c1,.slice A2 ar.length c2,.int .i64 l0,.slice A3 ps.length c3,.string ⟨nm.toArray⟩]).toArray 61 (0,0))/\wr.drew.heap[q]?=some (.cells cur 9 (0,0)):=⟨HTM.out,HQ.out⟩;have HBD:=aF HB.out.drew;refine cQ (S:=fun X=>X.heap[w.heap.size]?=some (.cells ([Value.int .i64 1,.slice A1 [a,a'].length c1,.slice A2 ar.length c2,.int .i64 l0,.slice A3 ps.length c3,.string ⟨nm.toArray⟩]).toArray 61 (0,0))/\X.heap[q]?=some (.cells cur 9 (0,0))) [0,1,2,3,5,6,7,8,9,10,11,4,12,13] (by kernel_rfl) ?_;(iterate 10 (refine cR (v:=?_) ?_ hS ?_;rotate_left;(next=>(rintro X ⟨hX,hQ⟩;have hY:=cO hX;obtain ⟨-,-,s2,s3,s4,s5⟩:=aR hY;have q0:=gK hQ HC0.out;have q1:=gK hQ HC1.out;(try simp only [aI]);go_simp;rfl));simp only [aM]));refine cU (v:=tx (tb ++ [59])) (by kernel_rfl) (fun _ _ _ h=>h) (Or.inl ⟨by rfl,?_⟩) hS ?_
    ·rintro X hX;(try simp only [aI]);go_simp;exact ba_l tb #[59]
    (simp only [aM]);(refine cM (fun K1 hK1=>?_);simp only [aM];rw [bA (by rfl)];go_simp);refine (HOO.out _ HBD.out).mono ?_;rintro e' w1 ⟨rfl,hb1⟩;replace hS:=bJ (cL hS.1 hb1) (cL hS.2 hb1);have HB1:=aF (HBD.out.trans (hb1.mono HBD.out.size));clear hb1;refine hK1.out _ _ (fun _=>hS) ?_;(refine cM (fun K1 hK1=>?_);simp only [aM];rw [bA (by rfl)];go_simp);have HB9:=aF (HB1.out.alloc HB1.out.size (.cells #[tx [105,102],tx O1,tx ta,tx [101,108,115,101],tx (tb ++ [59])] 9));replace hS:=bJ (cL hS.1 ((aX w1.heap.size w1).alloc (aY _) (.cells #[tx [105,102],tx O1,tx ta,tx [101,108,115,101],tx (tb ++ [59])] 9))) (cL hS.2 ((aX w1.heap.size w1).alloc (aY _) (.cells #[tx [105,102],tx O1,tx ta,tx [101,108,115,101],tx (tb ++ [59])] 9)));refine hK1.out _ _ (fun _=>hS) ?_;(refine cM (fun K1 hK1=>?_);simp only [aM];rw [bA (by rfl)];go_simp);refine (HL.out _ HB9.out [[105,102],O1,ta,[101,108,115,101],tb ++ [59]] ([105,102,32] ++ O1 ++ [32] ++ ta ++ [32,101,108,115,101,32] ++ tb) _ (dJ w1 [[105,102],O1,ta,[101,108,115,101],tb ++ [59]]) (by rw [join5];simp) HE.out.symm (by simp)).mono ?_;rintro e' w9 ⟨rfl,hl4,hf4⟩;replace hS:=bJ (heap_fr hS.1 hf4 hne (by decide)) (heap_fr hS.2 hf4 hqg (by decide));have HL4:=aF hl4;have HF4:=aF ((Fr.of_below HB9.out).trans hf4);clear hl4 hf4;refine hK1.out _ _ (fun _=>hS) ?_;refine cV ?_;go_wp2_with fail
    go_end0
    exact ⟨rfl,HL4.out,HF4.out⟩
   ·subst hk0;obtain rfl:=HO.out.none (.inl rfl);have hae:acc=[]:=by rw [HAF.out];rfl
    subst hae;obtain rfl:j=0:=hal.symm;have HE:Hid (termP b.locals ⟨2,[],ar,⟨l0,ps⟩,⟨nm.toArray⟩⟩=[114,101,116,117,114,110]):=aF rfl;have HB3:=aF (HB.out.alloc HB.out.size (.cells #[tx [114,101,116,117,114,110,59]] 9));have HR0:=aF (dJ wr [[114,101,116,117,114,110,59]]);have HLL:=aF (HL.out _ HB3.out [[114,101,116,117,114,110,59]] [114,101,116,117,114,110] _ HR0.out (by rw [join1];rfl) HE.out.symm (by simp));clear HE HR0 HL HOP HPL;go_wp2_with (go_at_call 28;refine HLL.out.mono ?_;rintro e' w4 ⟨rfl,hl4,hf4⟩;have HL4:=aF hl4;have HF4:=aF ((Fr.of_below HB3.out).trans hf4);clear hl4 hf4)
    go_end0
    exact ⟨rfl,HL4.out,HF4.out⟩
   ·subst hk0;obtain ⟨a,rfl⟩:=rW (HO.out.one (.inr (.inl rfl)));obtain ⟨ta,hta⟩:∃ta,idxP 94 a=ta:=⟨_,rfl⟩;have hae:acc=[ta]:=by rw [HAF.out,<- hta];rfl
    subst hae;obtain rfl:j=1:=hal.symm;obtain ⟨q,cap,cur,rfl,hq,hcap,hQ,hcur⟩:=fQ HOW.out rfl (by simp);have hc0:=hcur 0 _ rfl;have q0:=gK hQ hc0;have HQ:=aF hQ;have HC0:=aF hc0;have hcap1:1<=cap:=hcap;clear hcur hQ hc0 hcap;have hqg:g≠q:=by have:=HH.out.st.lt;have:=HH.out.st.le;omega
    obtain ⟨P1,hP1⟩:∃x,placeP b.locals ⟨l0,ps⟩=x:=⟨_,rfl⟩;obtain ⟨O1,hO1⟩:∃x,opsP b.locals ar=x:=⟨_,rfl⟩;have HE:Hid (termP b.locals ⟨3,[a],ar,⟨l0,ps⟩,⟨nm.toArray⟩⟩=P1 ++ [32,61,32,99,97,108,108,32,64] ++ nm ++ [40] ++ O1 ++ [41,32] ++ ta):=aF (by rw [<- hta,<- hP1,<- hO1];rfl);have hzl:=HZ.out;rw [HE.out] at hzl;simp only [bB,bK,bP] at hzl;have hz1:¬(9223372036854775807<ta.length+1):=(by omega);have hz2:¬(9223372036854775807<1+nm.length):=(by omega);have hz3:¬(9223372036854775807<nm.length+1+1):=(by omega);have hz4:¬(9223372036854775807<nm.length+1+1+O1.length):=(by omega);have hz5:¬(9223372036854775807<nm.length+(O1.length+1)+1+1):=(by omega);have HPP:=aF (fun W hb=>HPL.out W hb (.inl rfl) (by rw [hP1];show P1.length<=_;omega));have HOO:=aF (fun W hb=>HOP.out W hb (by rw [hO1];show O1.length<=_;omega));rw [hP1] at HPP;rw [hO1] at HOO;clear hzl hta hP1 hO1 HOP HPL;go_wp2_with fail
    have hS:wr.drew.heap[w.heap.size]?=some (.cells ([Value.int .i64 3,.slice A1 [a].length c1,.slice A2 ar.length c2,.int .i64 l0,.slice A3 ps.length c3,.string ⟨nm.toArray⟩]).toArray 61 (0,0))/\wr.drew.heap[q]?=some (.cells cur 9 (0,0)):=⟨HTM.out,HQ.out⟩;have HBD:=aF HB.out.drew;refine cQ (S:=fun X=>X.heap[w.heap.size]?=some (.cells ([Value.int .i64 3,.slice A1 [a].length c1,.slice A2 ar.length c2,.int .i64 l0,.slice A3 ps.length c3,.string ⟨nm.toArray⟩]).toArray 61 (0,0))/\X.heap[q]?=some (.cells cur 9 (0,0))) [0,1,2,3,5,6,7,8,9,10,11,15,16,17,18,4,12,13,14,19,20] (by kernel_rfl) ?_;(iterate 6 (refine cR (v:=?_) ?_ hS ?_;rotate_left;(next=>(rintro X ⟨hX,hQ⟩;have hY:=cO hX;obtain ⟨-,-,s2,s3,s4,s5⟩:=aR hY;have q0:=gK hQ HC0.out;(try simp only [aI]);go_simp;rfl));simp only [aM]));refine cU (v:=tx (64 :: nm)) (by kernel_rfl) (fun _ _ _ h=>h) (Or.inl ⟨by rfl,?_⟩) hS ?_
    ·rintro X hX;(try simp only [aI]);go_simp;exact (ba_app' _ _).trans (by simp [bl])
    (simp only [aM]);refine cU (v:=tx (64 :: (nm ++ [40]))) (by kernel_rfl) (fun _ _ _ h=>h) (Or.inl ⟨by rfl,?_⟩) hS ?_
    ·rintro X hX;(try simp only [aI]);go_simp;exact (ba_app' _ _).trans (by simp [bl])
    (simp only [aM]);(iterate 6 (refine cR (v:=?_) ?_ hS ?_;rotate_left;(next=>(rintro X ⟨hX,hQ⟩;have hY:=cO hX;obtain ⟨-,-,s2,s3,s4,s5⟩:=aR hY;have q0:=gK hQ HC0.out;(try simp only [aI]);go_simp;rfl));simp only [aM]));refine cU (v:=tx (ta ++ [59])) (by kernel_rfl) (fun _ _ _ h=>h) (Or.inl ⟨by rfl,?_⟩) hS ?_
    ·rintro X hX;(try simp only [aI]);go_simp;exact ba_l ta #[59]
    (simp only [aM]);(refine cM (fun K1 hK1=>?_);simp only [aM];rw [bA (by rfl)];go_simp);refine (HPP.out _ HBD.out).mono ?_;rintro e' w1 ⟨rfl,hb1⟩;replace hS:=bJ (cL hS.1 hb1) (cL hS.2 hb1);have HB1:=aF (HBD.out.trans (hb1.mono HBD.out.size));clear hb1;refine hK1.out _ _ (fun _=>hS) ?_;(refine cM (fun K1 hK1=>?_);simp only [aM];rw [bA (by rfl)];go_simp);refine (HOO.out _ HB1.out).mono ?_;rintro e' w2 ⟨rfl,hb2⟩;replace hS:=bJ (cL hS.1 hb2) (cL hS.2 hb2);have HB2:=aF (HB1.out.trans (hb2.mono HB1.out.size));clear hb2;refine hK1.out _ _ (fun _=>hS) ?_;refine cU (v:=tx (64 :: (nm ++ 40 :: O1))) (by kernel_rfl) (fun _ _ _ h=>h) (Or.inl ⟨by rfl,?_⟩) hS ?_
    ·rintro X hX;(try simp only [aI]);go_simp;exact (ba_app' _ _).trans (by simp [bl])
    (simp only [aM]);refine cU (v:=tx (64 :: (nm ++ 40 :: (O1 ++ [41])))) (by kernel_rfl) (fun _ _ _ h=>h) (Or.inl ⟨by rfl,?_⟩) hS ?_
    ·rintro X hX;(try simp only [aI]);go_simp;exact (ba_app' _ _).trans (by simp [bl])
    (simp only [aM]);(refine cM (fun K1 hK1=>?_);simp only [aM];rw [bA (by rfl)];go_simp);have HB9:=aF (HB2.out.alloc HB2.out.size (.cells #[tx P1,tx [61,32,99,97,108,108],tx (64 :: (nm ++ 40 :: (O1 ++ [41]))),tx (ta ++ [59])] 9));replace hS:=bJ (cL hS.1 ((aX w2.heap.size w2).alloc (aY _) (.cells #[tx P1,tx [61,32,99,97,108,108],tx (64 :: (nm ++ 40 :: (O1 ++ [41]))),tx (ta ++ [59])] 9))) (cL hS.2 ((aX w2.heap.size w2).alloc (aY _) (.cells #[tx P1,tx [61,32,99,97,108,108],tx (64 :: (nm ++ 40 :: (O1 ++ [41]))),tx (ta ++ [59])] 9)));refine hK1.out _ _ (fun _=>hS) ?_;(refine cM (fun K1 hK1=>?_);simp only [aM];rw [bA (by rfl)];go_simp);refine (HL.out _ HB9.out [P1,[61,32,99,97,108,108],64 :: (nm ++ 40 :: (O1 ++ [41])),ta ++ [59]] (P1 ++ [32,61,32,99,97,108,108,32,64] ++ nm ++ [40] ++ O1 ++ [41,32] ++ ta) _ (dJ w2 [P1,[61,32,99,97,108,108],64 :: (nm ++ 40 :: (O1 ++ [41])),ta ++ [59]]) (by rw [join4];simp) HE.out.symm (by simp)).mono ?_;rintro e' w9 ⟨rfl,hl4,hf4⟩;replace hS:=bJ (heap_fr hS.1 hf4 hne (by decide)) (heap_fr hS.2 hf4 hqg (by decide));have HL4:=aF hl4;have HF4:=aF ((Fr.of_below HB9.out).trans hf4);clear hl4 hf4;refine hK1.out _ _ (fun _=>hS) ?_;refine cV ?_;go_wp2_with fail
    go_end0
    exact ⟨rfl,HL4.out,HF4.out⟩
   ·subst hk0;obtain ⟨a,rfl⟩:=rW (HO.out.one (.inr (.inr rfl)));obtain ⟨ta,hta⟩:∃ta,idxP 94 a=ta:=⟨_,rfl⟩;have hae:acc=[ta]:=by rw [HAF.out,<- hta];rfl
    subst hae;obtain rfl:j=1:=hal.symm;obtain ⟨q,cap,cur,rfl,hq,hcap,hQ,hcur⟩:=fQ HOW.out rfl (by simp);have hc0:=hcur 0 _ rfl;have q0:=gK hQ hc0;have HQ:=aF hQ;have HC0:=aF hc0;have hcap1:1<=cap:=hcap;clear hcur hQ hc0 hcap;have hqg:g≠q:=by have:=HH.out.st.lt;have:=HH.out.st.le;omega
    obtain ⟨P1,hP1⟩:∃x,placeP b.locals ⟨l0,ps⟩=x:=⟨_,rfl⟩;have HE:Hid (termP b.locals ⟨4,[a],ar,⟨l0,ps⟩,⟨nm.toArray⟩⟩=[100,114,111,112,32] ++ P1 ++ [32] ++ ta):=aF (by rw [<- hta,<- hP1];rfl);have hzl:=HZ.out;rw [HE.out] at hzl;simp only [bB,bK,bP] at hzl;have hz1:¬(9223372036854775807<ta.length+1):=(by omega);have HPP:=aF (fun W hb=>HPL.out W hb (.inr rfl) (by rw [hP1];show P1.length<=_;omega));rw [hP1] at HPP;clear hzl hta hP1 HOP HPL;go_wp2_with fail
    have hS:wr.drew.heap[w.heap.size]?=some (.cells ([Value.int .i64 4,.slice A1 [a].length c1,.slice A2 ar.length c2,.int .i64 l0,.slice A3 ps.length c3,.string ⟨nm.toArray⟩]).toArray 61 (0,0))/\wr.drew.heap[q]?=some (.cells cur 9 (0,0)):=⟨HTM.out,HQ.out⟩;have HBD:=aF HB.out.drew;refine cQ (S:=fun X=>X.heap[w.heap.size]?=some (.cells ([Value.int .i64 4,.slice A1 [a].length c1,.slice A2 ar.length c2,.int .i64 l0,.slice A3 ps.length c3,.string ⟨nm.toArray⟩]).toArray 61 (0,0))/\X.heap[q]?=some (.cells cur 9 (0,0))) [0,1,2,3,5,6,7,8,4,9,10] (by kernel_rfl) ?_;(iterate 7 (refine cR (v:=?_) ?_ hS ?_;rotate_left;(next=>(rintro X ⟨hX,hQ⟩;have hY:=cO hX;obtain ⟨-,-,s2,s3,s4,s5⟩:=aR hY;have q0:=gK hQ HC0.out;(try simp only [aI]);go_simp;rfl));simp only [aM]));refine cU (v:=tx (ta ++ [59])) (by kernel_rfl) (fun _ _ _ h=>h) (Or.inl ⟨by rfl,?_⟩) hS ?_
    ·rintro X hX;(try simp only [aI]);go_simp;exact ba_l ta #[59]
    (simp only [aM]);(refine cM (fun K1 hK1=>?_);simp only [aM];rw [bA (by rfl)];go_simp);refine (HPP.out _ HBD.out).mono ?_;rintro e' w1 ⟨rfl,hb1⟩;replace hS:=bJ (cL hS.1 hb1) (cL hS.2 hb1);have HB1:=aF (HBD.out.trans (hb1.mono HBD.out.size));clear hb1;refine hK1.out _ _ (fun _=>hS) ?_;(refine cM (fun K1 hK1=>?_);simp only [aM];rw [bA (by rfl)];go_simp);have HB9:=aF (HB1.out.alloc HB1.out.size (.cells #[tx [100,114,111,112],tx P1,tx (ta ++ [59])] 9));replace hS:=bJ (cL hS.1 ((aX w1.heap.size w1).alloc (aY _) (.cells #[tx [100,114,111,112],tx P1,tx (ta ++ [59])] 9))) (cL hS.2 ((aX w1.heap.size w1).alloc (aY _) (.cells #[tx [100,114,111,112],tx P1,tx (ta ++ [59])] 9)));refine hK1.out _ _ (fun _=>hS) ?_;(refine cM (fun K1 hK1=>?_);simp only [aM];rw [bA (by rfl)];go_simp);refine (HL.out _ HB9.out [[100,114,111,112],P1,ta ++ [59]] ([100,114,111,112,32] ++ P1 ++ [32] ++ ta) _ (dJ w1 [[100,114,111,112],P1,ta ++ [59]]) (by rw [join3];simp) HE.out.symm (by simp)).mono ?_;rintro e' w9 ⟨rfl,hl4,hf4⟩;replace hS:=bJ (heap_fr hS.1 hf4 hne (by decide)) (heap_fr hS.2 hf4 hqg (by decide));have HL4:=aF hl4;have HF4:=aF ((Fr.of_below HB9.out).trans hf4);clear hl4 hf4;refine hK1.out _ _ (fun _=>hS) ?_;refine cV ?_;go_wp2_with fail
    go_end0
    exact ⟨rfl,HL4.out,HF4.out⟩
   ·subst hk0;obtain rfl:=HO.out.none (.inr rfl);have hae:acc=[]:=by rw [HAF.out];rfl
    subst hae;obtain rfl:j=0:=hal.symm;have HE:Hid (termP b.locals ⟨5,[],ar,⟨l0,ps⟩,⟨nm.toArray⟩⟩=[117,110,114,101,97,99,104,97,98,108,101]):=aF rfl;have HB3:=aF (HB.out.alloc HB.out.size (.cells #[tx [117,110,114,101,97,99,104,97,98,108,101,59]] 9));have HR0:=aF (dJ wr [[117,110,114,101,97,99,104,97,98,108,101,59]]);have HLL:=aF (HL.out _ HB3.out [[117,110,114,101,97,99,104,97,98,108,101,59]] [117,110,114,101,97,99,104,97,98,108,101] _ HR0.out (by rw [join1];rfl) HE.out.symm (by simp));clear HE HR0 HL HOP HPL;go_wp2_with (go_at_call 28;refine HLL.out.mono ?_;rintro e' w4 ⟨rfl,hl4,hf4⟩;have HL4:=aF hl4;have HF4:=aF ((Fr.of_below HB3.out).trans hf4);clear hl4 hf4)
    go_end0
    exact ⟨rfl,HL4.out,HF4.out⟩
end
end Go.Proofs.YtmknfbfppmkcfaaGreatDoor
