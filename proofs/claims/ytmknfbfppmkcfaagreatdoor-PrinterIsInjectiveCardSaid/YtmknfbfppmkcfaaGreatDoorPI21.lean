/-
  Parts of the proof: Y16 Y53.
-/
import Derived.Test.YtmknfbfppmkcfaaGreatDoorPI0
import Derived.Test.YtmknfbfppmkcfaaGreatDoorPI19
import Derived.Test.YtmknfbfppmkcfaaGreatDoorPI20
import Derived.Test.YtmknfbfppmkcfaaGreatDoorPI18
import Derived.Test.YtmknfbfppmkcfaaGreatDoorPI16
import Derived.Test.YtmknfbfppmkcfaaGreatDoorPI1
import Derived.Test.YtmknfbfppmkcfaaGreatDoorPI4
namespace Go.Proofs.YtmknfbfppmkcfaaGreatDoor
set_option maxRecDepth 100000
set_option maxHeartbeats 16000000
section
open Go Go.RowKit
def rR6:List UInt8:=[125,10]
def rR5 (b:Bdy) (i:Nat):List UInt8:=numP (fH b.locals b.regions) i (b.blocks.drop i) ++ rR6
def rR4 (b:Bdy) (i:Nat):List UInt8:=numP (lcLine b.args) i (b.locals.drop i) ++ rR5 b 0
def rR3 (b:Bdy) (i:Nat):List UInt8:=numP (gU b.regions) i (b.types.drop i) ++ rR4 b 0
def rR2 (b:Bdy):List UInt8:=outsP b.regions b.outl ++ rR3 b 0
def rR1 (b:Bdy):List UInt8:=regsP b.regions ++ rR2 b
theorem vJ (b:Bdy):printP b=headP [98,111,100,121] b ++ rR1 b:=by
 simp [printP,rR1,rR2,rR3,rR4,rR5,rR6]
theorem xCC {b:Bdy} {i:Nat} (h:i<b.types.length):rR3 b i=gU b.regions i b.types[i] ++ rR3 b (i+1):=by
 unfold rR3;rw [cV h,dR,bM]
theorem xFH {b:Bdy} {i:Nat} (h:b.types.length<=i):rR3 b i=rR4 b 0:=by unfold rR3;rw [bE h];rfl
theorem xCB {b:Bdy} {i:Nat} (h:i<b.locals.length):rR4 b i=lcLine b.args i b.locals[i] ++ rR4 b (i+1):=by
 unfold rR4;rw [cV h,dR,bM]
theorem xFG {b:Bdy} {i:Nat} (h:b.locals.length<=i):rR4 b i=rR5 b 0:=by unfold rR4;rw [bE h];rfl
theorem xCA {b:Bdy} {i:Nat} (h:i<b.blocks.length):rR5 b i=fH b.locals b.regions i b.blocks[i] ++ rR5 b (i+1):=by
 unfold rR5;rw [cV h,dR,bM]
theorem xFF {b:Bdy} {i:Nat} (h:b.blocks.length<=i):rR5 b i=rR6:=by unfold rR5;rw [bE h];rfl
structure FitB (b:Bdy):Prop where
 ty:∀t∈b.types,FitT t
 lc:∀l∈b.locals,fitN l.type
 st:∀x∈b.blocks,∀s∈x.stmts,FitS s
 tm:∀x∈b.blocks,FitTm x.term
structure PW (w0:World) (n g:Nat) (b:Bdy) (bh:BH) (bs:List UInt8) (d:Nat) (W:World):Prop where
 L:Lives w0 (g+2) g b bh bs d W
 bd:W.heap[n]?=some (.cells (bdC b bh).toArray 28 (0,0))
 pc:W.heap[g+1]?=some (.cells [Value.pointer (some ⟨g,0,none⟩)].toArray 66 (0,0))
 ng:n<g
theorem PW.keep {w0:World} {n g:Nat} {b:Bdy} {bh:BH} {bs:List UInt8} {d:Nat} {W W':World} (P:PW w0 n g b bh bs d W) (hb:Below W.heap.size W W'):PW w0 n g b bh bs d W':=
 ⟨P.L.keep hb,cR P.bd hb,cR P.pc hb,P.ng⟩
theorem PW.fr {w0:World} {n g:Nat} {b:Bdy} {bh:BH} {bs bs':List UInt8} {d d':Nat} {W W':World} (P:PW w0 n g b bh bs d W) (L:Lives w0 (g+2) g b bh bs' d' W') (hf:Fr g W W'):PW w0 n g b bh bs' d' W':=
 ⟨L,heap_fr P.bd hf (by have:=P.ng;omega) (by decide),heap_fr P.pc hf (by omega) (by decide),P.ng⟩
theorem PW.cells {w0:World} {n g:Nat} {b:Bdy} {bh:BH} {bs:List UInt8} {d:Nat} {W:World} (P:PW w0 n g b bh bs d W):(aA (bdC b bh) W n)/\W.cell? ⟨g+1,0,none⟩=some (.pointer (some ⟨g,0,none⟩)):=
 ⟨cW P.bd,cW P.pc 0 _ rfl⟩
theorem pM {b:Bdy} (M:Nat) (hM:2<=M) (hok:Okay b.types b.locals) (hg:∀t∈b.types,t.flds.length<=M) {s:Stm} (h:stE b s=0):s.rv.args.length<=M:=by
 have hs:=oG hok h;by_cases h0:s.kind=0
 ·obtain ⟨-,-,hr⟩:=hs.asg h0;have hk:=hr.kind;obtain hv | hv | hv | hv | hv:s.rv.kind=0\/s.rv.kind=1\/s.rv.kind=2\/s.rv.kind=3\/s.rv.kind=4:=by omega
  ·have:=hr.use hv;omega
  ·rw [(hr.isb hv).2.1];simp
  all_goals
   unfold stE at h;rw [bA h0] at h;split at h
   ·cases h
   split at h
   ·exact absurd h ‹_›
   rename_i hw;have ht:=nQ (Decidable.not_not.1 hw);obtain ⟨t0,t1⟩:=fL hok ht;obtain ⟨ty,hty⟩:∃ty,b.types[(tyB b s.place).1.toNat]?=some ty:=⟨_,bD (show (tyOf b.types b.locals s.place.loc s.place.proj).1.toNat<b.types.length by omega)⟩;have hm:=hg ty (List.mem_of_getElem? hty);generalize (tyB b s.place).1=t at h hty;unfold rvE at h;split at h
   ·cases h
   split at h
   ·cases h
   rename_i h2;rw [Bool.not_eq_false] at h2;unfold unusedR at h2;simp only at h2
  ·simp only [hv,if_true,if_false,bQ,decide_eq_true_eq,Int.reduceEq] at h2;omega
  ·simp only [hv,if_true,if_false,bQ,decide_eq_true_eq,Int.reduceEq] at h2;omega
  ·rw [aZ (by omega),aZ (by omega),aZ (by omega),aZ (by omega),hty] at h;simp only at h;split at h
   ·cases h
   omega
 ·rw [(hs.oth h0).2];simp
theorem pL {b:Bdy} (hok:Okay b.types b.locals) (hg:∀t∈b.types,t.flds.length<=65535) {s:Stm} (h:stE b s=0):s.rv.args.length<=1000000:=
 bZ (pM 65535 (by omega) hok hg h) (by omega)
theorem nP {b:Bdy} {t:Trm} (h:tmE b t=0):t.args.length<=1000000:=by
 have ho:=oF h;by_cases h3:t.kind=3
 ·unfold tmE at h;split at h
  ·cases h
  split at h
  ·cases h
  split at h
  ·cases h
  try rw [aZ (show ¬t.kind=1 by omega)] at h
  try rw [bA h3] at h
  split at h
  ·cases h
  split at h
  ·cases h
  omega
 ·by_cases h4:t.kind=1
  ·rw [(ho.two h4).2];decide
  ·rw [ho.noargs h4 h3];simp
theorem vM (r:ByteArray) (w:World) (hz:Sm (39 :: bl r)):Calls Tryz.prog 30 #[.string r] w fun e' w'=>e' = .returned (tx (39 :: bl r))/\Below w.heap.size w w':=by
 have hr:=mI r;obtain ⟨t,ht⟩:∃t,bl r=t:=⟨_,rfl⟩;rw [ht] at hr hz ⊢;subst hr;have hz0:¬(9223372036854775807<1+t.length):=by have:=hz;simp only [Sm,bK] at this;omega
 have ea:=ba_r #[39] t;clear ht hz;go_enter Tryz.func30,Tryz.ntmps30
 go_wp2_with fail
 go_ret;exact ⟨rfl,aX _ _⟩
theorem vL {w:World} {g q:Nat} {b:Bdy} {bh:BH} (C:Ctx w g b bh) (hq:w.cell? ⟨q,0,none⟩=some (.pointer (some ⟨g,0,none⟩))) (x:Int × Int) (hx:OkOut b.regions.length x) (hz:Sm (outP b.regions x)):
 Calls Tryz.prog 32 #[.agg #[.int .i64 x.1,.int .i64 x.2],.pointer (some ⟨q,0,none⟩)] w fun e' w'=>e' = .returned (tx (outP b.regions x))/\Below w.heap.size w w':=by
 obtain ⟨x1,x2⟩:=x
 have hzz:(rgP b.regions x1).length+(rgP b.regions x2).length+3<=140737488355328:=by
  unfold outP at hz;simp only [Sm,bB,bK,bP] at hz;omega
 have HB0:=aF (fun (o:Obj)=>(aX w.heap.size w).alloc (aY _) o);have HR1:=aF (fun (W:World) (hb:Below w.heap.size w W)=>gO b.regions g bh.A1 bh.c1 x1 W (C.keep hb).regs (C.keep hb).at_.reg hx.1 (by show (rgP b.regions x1).length<=_;omega));have HR2:=aF (fun (W:World) (hb:Below w.heap.size w W)=>gO b.regions g bh.A1 bh.c1 x2 W (C.keep hb).regs (C.keep hb).at_.reg hx.2 (by show (rgP b.regions x2).length<=_;omega));obtain ⟨r1,h1⟩:∃r,rgP b.regions x1=r:=⟨_,rfl⟩;obtain ⟨r2,h2⟩:∃r,rgP b.regions x2=r:=⟨_,rfl⟩;have HE:Hid (outP b.regions (x1,x2)=39 :: (r1 ++ [32,39] ++ r2)):=aF (by unfold outP;simp only;rw [h1,h2]);rw [h1,h2] at hzz;rw [h1] at HR1;rw [h2] at HR2;have hz1:¬(9223372036854775807<r1.length+1+1):=by omega
 have hz2:¬(9223372036854775807<r1.length+1+1+(r2.length+1)):=by omega
 have hqs:q<w.heap.size:=cD w _ hq;have hqq:∀o,((w.alloc o).drew).cell? ⟨q,0,none⟩=some (.pointer (some ⟨g,0,none⟩)):=fun o=>cM ((aX _ _).drew) (cM ((aX _ _).alloc (aY _) o) hq)
 clear hz hzz h1 h2 hx C;go_enter Tryz.func32,Tryz.ntmps32
 go_wp2_with fail
 refine cO (S:=fun X=>(aA [Value.int .i64 x1,.int .i64 x2] X w.heap.size)/\X.cell? ⟨q,0,none⟩=some (.pointer (some ⟨g,0,none⟩))) [0,1,2,5,6,7,3,4,8,9,10] (by kernel_rfl) ?_;have hS:(∀i v,[Value.int .i64 x1,.int .i64 x2][i]?=some v->(w.alloc (.cells #[.int .i64 x1,.int .i64 x2] 77)).drew.cell? ⟨w.heap.size,i,none⟩=some v)/\(w.alloc (.cells #[.int .i64 x1,.int .i64 x2] 77)).drew.cell? ⟨q,0,none⟩=some (.pointer (some ⟨g,0,none⟩)):=⟨cU w _ _,hqq _⟩;clear hqq;(iterate 6 (refine cP (v:=?_) ?_ hS ?_;rotate_left;(next=>(rintro X ⟨hX,hQ⟩;obtain ⟨s0,s1⟩:=aN hX;(try simp only [aI]);go_simp;rfl));simp only [aM]));(refine cS (fun K1 hK1=>?_);simp only [aM];rw [bA (by rfl)];go_simp);refine (HR1.out _ (HB0.out _).drew).mono ?_;rintro e' w3 ⟨rfl,hw⟩;obtain rfl:=hw.symm;refine hK1.out _ _ (fun _=>hS) ?_;refine cY (v:=tx (39 :: (r1 ++ [32]))) (by kernel_rfl) (fun _ _ _ h=>h) (Or.inl ⟨by rfl,?_⟩) hS ?_
 ·rintro X hX;(try simp only [aI]);go_simp;exact (ba_app' _ _).trans (by simp [bl])
 (simp only [aM]);(refine cS (fun K1 hK1=>?_);simp only [aM];rw [bA (by rfl)];go_simp);refine (HR2.out _ (HB0.out _).drew).mono ?_;rintro e' w3 ⟨rfl,hw⟩;obtain rfl:=hw.symm;refine hK1.out _ _ (fun _=>hS) ?_;refine cY (v:=tx (39 :: (r1 ++ 32 :: 39 :: r2))) (by kernel_rfl) (fun _ _ _ h=>h) (Or.inl ⟨by rfl,?_⟩) hS ?_
 ·rintro X hX;(try simp only [aI]);go_simp;exact (ba_app' _ _).trans (by simp [bl])
 (simp only [aM]);((refine cP (v:=?_) ?_ hS ?_;rotate_left;(next=>(rintro X -;(try simp only [aI]);go_simp;rfl));simp only [aM]))
 refine cZ ?_;go_wp2_with fail
 go_ret;exact ⟨by rw [HE.out];refine congrArg (fun l=>Ending.returned (Value.string l)) (ByteArray.ext ?_);simp,(HB0.out _).drew⟩
def canB (nl:Nat) (p:Plc):Bool:=p.proj.all (fun x=>decide (x.field<65535)) && decide (p.loc<nl)
theorem xDG (nl:Nat) (l:Ln):canB nl l.place=true↔canP nl l:=by
 unfold canB canP;simp only [bQ,List.all_eq_true,decide_eq_true_eq];exact And.comm
theorem nZ (b:Bdy) (bh:BH) (p:Plc) (A:Option Addr) (c:Nat) (w:World) (_hl:b.locals.length<=9223372036854775807) (hp:Slc 2 RPj w A c p.proj):
 Calls Tryz.prog 45 #[.agg (bdC b bh).toArray,.agg #[.int .i64 p.loc,.slice A p.proj.length c]] w fun e' w'=>e' = .returned (.bool (canB b.locals.length p))/\Below w.heap.size w w':=by
 obtain ⟨A1,c1,A2,c2,A3,c3,A4,c4,A5,c5⟩:=bh;obtain ⟨pl,ps⟩:=p;simp only at hp;have hle:=hp.le;have hbig:=hp.big;have HPS:=aF hp;obtain ⟨R,hR⟩:∃R,canB b.locals.length ⟨pl,ps⟩=R:=⟨_,rfl⟩;have HR:Hid (R=(ps.all (fun x=>decide (x.field<65535)) && decide (pl<b.locals.length))):=aF hR.symm;rw [hR];obtain ⟨W0,hW0⟩:∃W,(w.alloc (.cells #[Value.string b.name,.slice A1 b.regions.length c1,.slice A2 b.outl.length c2,.slice A3 b.types.length c3,.slice A4 b.locals.length c4,.int .i64 b.args,.slice A5 b.blocks.length c5] 28)).alloc (.cells #[.int .i64 pl,.slice A ps.length c] 46)=W:=⟨_,rfl⟩;have hb1:Below w.heap.size w (w.alloc (.cells #[Value.string b.name,.slice A1 b.regions.length c1,.slice A2 b.outl.length c2,.slice A3 b.types.length c3,.slice A4 b.locals.length c4,.int .i64 b.args,.slice A5 b.blocks.length c5] 28)):=(aX _ _).alloc (aY _) _;have hb2:Below (w.alloc (.cells #[Value.string b.name,.slice A1 b.regions.length c1,.slice A2 b.outl.length c2,.slice A3 b.types.length c3,.slice A4 b.locals.length c4,.int .i64 b.args,.slice A5 b.blocks.length c5] 28)).heap.size (w.alloc (.cells #[Value.string b.name,.slice A1 b.regions.length c1,.slice A2 b.outl.length c2,.slice A3 b.types.length c3,.slice A4 b.locals.length c4,.int .i64 b.args,.slice A5 b.blocks.length c5] 28)) W0:=by rw [<- hW0];exact (aX _ _).alloc (aY _) _
 have HB0:=aF (hb1.trans (hb2.mono hb1.size));have hc1:=fun i v h=>cM hb2 (cU w [Value.string b.name,.slice A1 b.regions.length c1,.slice A2 b.outl.length c2,.slice A3 b.types.length c3,.slice A4 b.locals.length c4,.int .i64 b.args,.slice A5 b.blocks.length c5] 28 i v h)
 have y4:=hc1 4 _ rfl;have hc2:=cU (w.alloc (.cells #[Value.string b.name,.slice A1 b.regions.length c1,.slice A2 b.outl.length c2,.slice A3 b.types.length c3,.slice A4 b.locals.length c4,.int .i64 b.args,.slice A5 b.blocks.length c5] 28)) [.int .i64 pl,.slice A ps.length c] 46;rw [bI] at hc2;have hc3:=hc2;simp only [show (w.alloc (.cells #[Value.string b.name,.slice A1 b.regions.length c1,.slice A2 b.outl.length c2,.slice A3 b.types.length c3,.slice A4 b.locals.length c4,.int .i64 b.args,.slice A5 b.blocks.length c5] 28)).alloc (.cells [Value.int .i64 pl,.slice A ps.length c].toArray 46)=W0 from hW0] at hc3;have z0:=hc3 0 _ rfl;have z1:=hc3 1 _ rfl;have hz0:w.heap.size+1<W0.heap.size:=cD W0 _ z0;have Y4:=aF y4;have Z0:=aF z0;clear hb1 hb2 hc1 hc2 hc3 hp hR y4;unfold bdC;simp only;go_enter Tryz.func45,Tryz.ntmps45
 go_wp2_with fail
 go_loopw [10] (fun i wr=>∃k:Nat,k<=ps.length/\i = .int .i64 k/\Hid (Below W0.heap.size W0 wr)/\Hid (R=((ps.drop k).all (fun x=>decide (x.field<65535)) && decide (pl<b.locals.length)))) (fun i _=>ps.length - (intOf i).toNat)
 case atStart=>exact ⟨0,by omega,rfl,aF (aX _ _),HR⟩
 case round=>
  obtain ⟨k,hk,rfl,HB,HR⟩:=hrel;by_cases hlt:k<ps.length
  ·obtain ⟨bb,oo,rfl,hbb,hx⟩:=((HPS.out.keep RPj.keeps HB0.out).keep RPj.keeps HB.out).sl.at_ hlt;have HN:Hid (R=(decide (ps[k].field<65535) && ((ps.drop (k+1)).all (fun x=>decide (x.field<65535)) && decide (pl<b.locals.length)))):=aF (by rw [HR.out,cV hlt,cB,Bool.and_assoc]);generalize ps[k]=x at *;obtain ⟨xk,xf⟩:=x;obtain ⟨x0,x1⟩:=hx;simp only at x0 x1 HN;have hsz:=HB.out.size;clear HR;by_cases h1:xf<65535
   ·have HN2:=aF (HN.out.trans (by rw [decide_eq_true h1,Bool.true_and]));clear HN;go_wp2_with fail
    all_goals first
     | (go_roundw
        case rel=>exact ⟨k+1,by omega,by go_num,aF (HB.out.alloc (by omega) _),HN2⟩
        case measure=>simp [intOf];omega)
     | (exfalso;omega)
   ·have HN2:Hid (R=false):=aF (HN.out.trans (by rw [decide_eq_false h1,Bool.false_and]));clear HN;go_wp2_with fail
    all_goals first
     | (go_ret;exact ⟨by rw [HN2.out];rfl,HB0.out.trans ((HB.out.mono HB0.out.size).alloc (by have:=HB0.out.size;omega) _)⟩)
     | (exfalso;omega)
  ·have HN:Hid (R=decide (pl<b.locals.length)):=aF (by rw [HR.out,bE (by omega)];rfl);have y4:=cM HB.out Y4.out;have z0':=cM HB.out Z0.out;clear HR;go_wp2_with fail
   all_goals first
    | (go_ret;exact ⟨by rw [HN.out];simp [*],HB0.out.trans (HB.out.mono HB0.out.size)⟩)
    | (exfalso;omega)
def plR (b:Bdy) (p:Plc):List UInt8 × Int:=
 if chk p.loc p.proj≠0 then ([],chk p.loc p.proj) else if (b.locals.length:Int)<=p.loc then ([],3) else (placeP b.locals p,0)
theorem xFM {b:Bdy} {p:Plc} (h:¬chk p.loc p.proj=0):plR b p=([],chk p.loc p.proj):=by unfold plR;rw [bA h]
theorem xFL {b:Bdy} {p:Plc} (h:chk p.loc p.proj=0) (h2:(b.locals.length:Int)<=p.loc):plR b p=([],3):=by unfold plR;rw [aZ (by simp [h]),bA h2]
theorem xHL {b:Bdy} {p:Plc} (h:chk p.loc p.proj=0) (h2:¬(b.locals.length:Int)<=p.loc):plR b p=(placeP b.locals p,0):=by unfold plR;rw [aZ (by simp [h]),aZ h2]
theorem xAF {l:Int} {ps:List Pj} (h:chk l ps=0):0<=l/\ps.length<=32:=by
 unfold chk at h;split at h
 ·cases h
 split at h
 ·cases h
 omega
theorem rL (b:Bdy) (bh:BH) (p:Plc) (A:Option Addr) (c:Nat) (w:World) (H:BdAt w b bh) (hpow:PowTab w) (hp:Slc 2 RPj w A c p.proj) (hf:∀x∈p.proj,fitJ x) (hz:chk p.loc p.proj=0->Sm (placeP b.locals p)):
 Calls Tryz.prog 15 #[.agg (bdC b bh).toArray,.agg #[.int .i64 p.loc,.slice A p.proj.length c]] w fun e' w'=>e' = .returned (.tuple #[tx (plR b p).1,.int .i64 (plR b p).2])/\Below w.heap.size w w':=by
 have HP0:=aF (fun (g:Nat) (W:World) (hb:Below w.heap.size w W) (hc:W.cell? ⟨g,6,none⟩=some (.slice bh.A4 b.locals.length bh.c4)) (h1:chk p.loc p.proj=0) (h2:¬(b.locals.length:Int)<=p.loc)=>fC b.locals g bh.A4 bh.c4 p A c W hc (H.loc.keep RLc.keeps hb) (hp.keep RPj.keeps hb) ⟨(xAF h1).1,by omega⟩ hf (hz h1) (hpow.keep hb));obtain ⟨A1,c1,A2,c2,A3,c3,A4,c4,A5,c5⟩:=bh;have HCH:=aF (fun (W:World) (hb:Below w.heap.size w W)=>gJ p.loc A c p.proj W (hp.keep RPj.keeps hb));have hlb:=H.loc.le;have hlg:=H.loc.big;simp only at hlb hlg;obtain ⟨W0,hW0⟩:∃W,(w.alloc (.cells #[Value.string b.name,.slice A1 b.regions.length c1,.slice A2 b.outl.length c2,.slice A3 b.types.length c3,.slice A4 b.locals.length c4,.int .i64 b.args,.slice A5 b.blocks.length c5] 28)).alloc (.cells #[.int .i64 p.loc,.slice A p.proj.length c] 46)=W:=⟨_,rfl⟩;have hb1:Below w.heap.size w (w.alloc (.cells #[Value.string b.name,.slice A1 b.regions.length c1,.slice A2 b.outl.length c2,.slice A3 b.types.length c3,.slice A4 b.locals.length c4,.int .i64 b.args,.slice A5 b.blocks.length c5] 28)):=(aX _ _).alloc (aY _) _;have hb2:Below (w.alloc (.cells #[Value.string b.name,.slice A1 b.regions.length c1,.slice A2 b.outl.length c2,.slice A3 b.types.length c3,.slice A4 b.locals.length c4,.int .i64 b.args,.slice A5 b.blocks.length c5] 28)).heap.size (w.alloc (.cells #[Value.string b.name,.slice A1 b.regions.length c1,.slice A2 b.outl.length c2,.slice A3 b.types.length c3,.slice A4 b.locals.length c4,.int .i64 b.args,.slice A5 b.blocks.length c5] 28)) W0:=by rw [<- hW0];exact (aX _ _).alloc (aY _) _
 have HB0:=aF (hb1.trans (hb2.mono hb1.size));have HC1:=aF (fun i v h=>cM hb2 (cU w [Value.string b.name,.slice A1 b.regions.length c1,.slice A2 b.outl.length c2,.slice A3 b.types.length c3,.slice A4 b.locals.length c4,.int .i64 b.args,.slice A5 b.blocks.length c5] 28 i v h));have hc2:=cU (w.alloc (.cells #[Value.string b.name,.slice A1 b.regions.length c1,.slice A2 b.outl.length c2,.slice A3 b.types.length c3,.slice A4 b.locals.length c4,.int .i64 b.args,.slice A5 b.blocks.length c5] 28)) [.int .i64 p.loc,.slice A p.proj.length c] 46;rw [bI] at hc2;simp only [show (w.alloc (.cells #[Value.string b.name,.slice A1 b.regions.length c1,.slice A2 b.outl.length c2,.slice A3 b.types.length c3,.slice A4 b.locals.length c4,.int .i64 b.args,.slice A5 b.blocks.length c5] 28)).alloc (.cells [Value.int .i64 p.loc,.slice A p.proj.length c].toArray 46)=W0 from hW0] at hc2;have z0:=hc2 0 _ rfl;have z1:=hc2 1 _ rfl;have Z0:=aF z0;have Z1:=aF z1;have HC:Hid (∀W,Below W0.heap.size W0 W->∀i v,[Value.string b.name,.slice A1 b.regions.length c1,.slice A2 b.outl.length c2,.slice A3 b.types.length c3,.slice A4 b.locals.length c4,.int .i64 b.args,.slice A5 b.blocks.length c5][i]?=some v->W.cell? ⟨w.heap.size,i,none⟩=some v):=aF (fun W hb i v h=>cM hb (HC1.out i v h));by_cases h1:chk p.loc p.proj=0
 case neg=>
  have HF:=aF (xFM (b:=b) h1);have e3:(chk p.loc p.proj != 0)=true:=by simp [h1]
  obtain ⟨e,he⟩:∃e,plR b p=e:=⟨_,rfl⟩;rw [he] at HF ⊢;generalize chk p.loc p.proj=ck at *;clear hb1 hb2 hc2 H hp h1 he;unfold bdC;simp only;go_enter Tryz.func15,Tryz.ntmps15
  go_wp2_with (go_at_call 52;refine (HCH.out _ HB0.out).mono ?_;rintro e' w1 ⟨rfl,hw⟩)
  go_ret2
  exact ⟨by rw [HF.out];rfl,HB0.out.trans (hw.mono HB0.out.size)⟩
 case pos=>
 have e3:(chk p.loc p.proj != 0)=false:=by simp [h1]
 rw [h1] at e3 HCH;by_cases h2:(b.locals.length:Int)<=p.loc
 case pos=>
  have HF:=aF (xFL (b:=b) h1 h2);obtain ⟨e,he⟩:∃e,plR b p=e:=⟨_,rfl⟩;rw [he] at HF ⊢;clear hb1 hb2 hc2 H hp h1 he;unfold bdC;simp only;go_enter Tryz.func15,Tryz.ntmps15
  go_wp2_with (go_at_call 52;refine (HCH.out _ HB0.out).mono ?_;rintro e' w1 ⟨rfl,hw⟩;have y4:=HC.out w1 hw 4 _ rfl;have z0':=cM hw Z0.out)
  go_ret2
  exact ⟨by rw [HF.out];rfl,HB0.out.trans (hw.mono HB0.out.size)⟩
 case neg=>
  have HF:=aF (xHL (b:=b) h1 h2);obtain ⟨e,he⟩:∃e,plR b p=e:=⟨_,rfl⟩;rw [he] at HF ⊢;have HPP:=aF (fun g W hb hc=>HP0.out g W hb hc h1 h2);simp only at HPP;clear hb1 hb2 hc2 H hp h1 he HP0;unfold bdC at *;simp only at *;go_enter Tryz.func15,Tryz.ntmps15
  go_wp2_with (first
   | (go_at_call 52;refine (HCH.out _ HB0.out).mono ?_;rintro e' w1 ⟨rfl,hw⟩;have y0:=HC.out w1 hw 0 _ rfl;have y1:=HC.out w1 hw 1 _ rfl;have y2:=HC.out w1 hw 2 _ rfl;have y3:=HC.out w1 hw 3 _ rfl;have y4:=HC.out w1 hw 4 _ rfl;have y5:=HC.out w1 hw 5 _ rfl;have y6:=HC.out w1 hw 6 _ rfl;have z0':=cM hw Z0.out;have z1':=cM hw Z1.out;have hlt0:w.heap.size<w1.heap.size:=cD w1 _ y0;have hlt1:w.heap.size+1<w1.heap.size:=cD w1 _ z0';have HW1:=aF (HB0.out.trans (hw.mono HB0.out.size)))
   | (go_at_call 48;refine (HPP.out w1.heap.size _ (HW1.out.alloc HW1.out.size _) (by go_simp)).mono ?_;rintro e' w2 ⟨rfl,hw2⟩))
  go_ret2
  exact ⟨by rw [HF.out];rfl,(HW1.out.alloc HW1.out.size _).trans (hw2.mono (HW1.out.alloc HW1.out.size _).size)⟩
end
end Go.Proofs.YtmknfbfppmkcfaaGreatDoor
