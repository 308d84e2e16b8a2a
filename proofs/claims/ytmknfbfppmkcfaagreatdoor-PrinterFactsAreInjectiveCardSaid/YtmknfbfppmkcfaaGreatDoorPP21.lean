/-
  Walks: the text of a place, for every body.
-/
import Derived.Test.YtmknfbfppmkcfaaGreatDoorPP0
import Derived.Test.YtmknfbfppmkcfaaGreatDoorPP10
import Derived.Test.YtmknfbfppmkcfaaGreatDoorPP14
import Derived.Test.YtmknfbfppmkcfaaGreatDoorPP1
import Derived.Test.YtmknfbfppmkcfaaGreatDoorPP11
import Derived.Test.YtmknfbfppmkcfaaGreatDoorPP12
import Derived.Test.YtmknfbfppmkcfaaGreatDoorPP2
import Derived.Test.YtmknfbfppmkcfaaGreatDoorPP13
import Derived.Test.YtmknfbfppmkcfaaGreatDoorPP7
import Derived.Test.YtmknfbfppmkcfaaGreatDoorPP5
import Derived.Test.YtmknfbfppmkcfaaGreatDoorPP8
import Derived.Test.YtmknfbfppmkcfaaGreatDoorPP9
import Derived.Test.YtmknfbfppmkcfaaGreatDoorPP4
import Derived.Deep.CutBlock
namespace Go.Proofs.YtmknfbfppmkcfaaGreatDoor
set_option maxRecDepth 100000
set_option maxHeartbeats 16000000
section
open Go Go.RowKit
def canB (nl:Nat) (p:Plc):Bool:=p.proj.all (fun x=>decide (x.field<65535)) && decide (p.loc<nl)
theorem wA (nl:Nat) (l:Ln):canB nl l.place=true↔canP nl l:=by
 unfold canB canP;simp only [bQ,List.all_eq_true,decide_eq_true_eq];exact And.comm
theorem jN (b:Bdy) (bh:BH) (p:Plc) (A:Option Addr) (c:Nat) (w:World) (_hl:b.locals.length<=9223372036854775807) (hp:Slc 2 RPj w A c p.proj):
 Calls Tryz.prog 45 #[.agg (bdC b bh).toArray,.agg #[.int .i64 p.loc,.slice A p.proj.length c]] w fun e' w'=>e' = .returned (.bool (canB b.locals.length p))/\Below w.heap.size w w':=by
 obtain ⟨A1,c1,A2,c2,A3,c3,A4,c4,A5,c5⟩:=bh;obtain ⟨pl,ps⟩:=p;simp only at hp;have hle:=hp.le;have hbig:=hp.big;have HPS:=aF hp;obtain ⟨R,hR⟩:∃R,canB b.locals.length ⟨pl,ps⟩=R:=⟨_,rfl⟩;have HR:Hid (R=(ps.all (fun x=>decide (x.field<65535)) && decide (pl<b.locals.length))):=aF hR.symm;rw [hR];obtain ⟨W0,hW0⟩:∃W,(w.alloc (.cells #[Value.string b.name,.slice A1 b.regions.length c1,.slice A2 b.outl.length c2,.slice A3 b.types.length c3,.slice A4 b.locals.length c4,.int .i64 b.args,.slice A5 b.blocks.length c5] 28)).alloc (.cells #[.int .i64 pl,.slice A ps.length c] 46)=W:=⟨_,rfl⟩;have hb1:Below w.heap.size w (w.alloc (.cells #[Value.string b.name,.slice A1 b.regions.length c1,.slice A2 b.outl.length c2,.slice A3 b.types.length c3,.slice A4 b.locals.length c4,.int .i64 b.args,.slice A5 b.blocks.length c5] 28)):=(aX _ _).alloc (aY _) _;have hb2:Below (w.alloc (.cells #[Value.string b.name,.slice A1 b.regions.length c1,.slice A2 b.outl.length c2,.slice A3 b.types.length c3,.slice A4 b.locals.length c4,.int .i64 b.args,.slice A5 b.blocks.length c5] 28)).heap.size (w.alloc (.cells #[Value.string b.name,.slice A1 b.regions.length c1,.slice A2 b.outl.length c2,.slice A3 b.types.length c3,.slice A4 b.locals.length c4,.int .i64 b.args,.slice A5 b.blocks.length c5] 28)) W0:=by rw [<- hW0];exact (aX _ _).alloc (aY _) _
 have HB0:=aF (hb1.trans (hb2.mono hb1.size));have hc1:=fun i v h=>cJ hb2 (cP w [Value.string b.name,.slice A1 b.regions.length c1,.slice A2 b.outl.length c2,.slice A3 b.types.length c3,.slice A4 b.locals.length c4,.int .i64 b.args,.slice A5 b.blocks.length c5] 28 i v h)
 have y4:=hc1 4 _ rfl;have hc2:=cP (w.alloc (.cells #[Value.string b.name,.slice A1 b.regions.length c1,.slice A2 b.outl.length c2,.slice A3 b.types.length c3,.slice A4 b.locals.length c4,.int .i64 b.args,.slice A5 b.blocks.length c5] 28)) [.int .i64 pl,.slice A ps.length c] 46;rw [bI] at hc2;have hc3:=hc2;simp only [show (w.alloc (.cells #[Value.string b.name,.slice A1 b.regions.length c1,.slice A2 b.outl.length c2,.slice A3 b.types.length c3,.slice A4 b.locals.length c4,.int .i64 b.args,.slice A5 b.blocks.length c5] 28)).alloc (.cells [Value.int .i64 pl,.slice A ps.length c].toArray 46)=W0 from hW0] at hc3;have z0:=hc3 0 _ rfl;have z1:=hc3 1 _ rfl;have hz0:w.heap.size+1<W0.heap.size:=cD W0 _ z0;have Y4:=aF y4;have Z0:=aF z0;clear hb1 hb2 hc1 hc2 hc3 hp hR y4;unfold bdC;simp only;go_enter Tryz.func45,Tryz.ntmps45
 go_wp2_with fail
 go_loopw [10] (fun i wr=>∃k:Nat,k<=ps.length/\i = .int .i64 k/\Hid (Below W0.heap.size W0 wr)/\Hid (R=((ps.drop k).all (fun x=>decide (x.field<65535)) && decide (pl<b.locals.length)))) (fun i _=>ps.length - (intOf i).toNat)
 case atStart=>exact ⟨0,by omega,rfl,aF (aX _ _),HR⟩
 case round=>
  obtain ⟨k,hk,rfl,HB,HR⟩:=hrel;by_cases hlt:k<ps.length
  ·obtain ⟨bb,oo,rfl,hbb,hx⟩:=((HPS.out.keep RPj.keeps HB0.out).keep RPj.keeps HB.out).sl.at_ hlt;have HN:Hid (R=(decide (ps[k].field<65535) && ((ps.drop (k+1)).all (fun x=>decide (x.field<65535)) && decide (pl<b.locals.length)))):=aF (by rw [HR.out,cS hlt,cB,Bool.and_assoc]);generalize ps[k]=x at *;obtain ⟨xk,xf⟩:=x;obtain ⟨x0,x1⟩:=hx;simp only at x0 x1 HN;have hsz:=HB.out.size;clear HR;by_cases h1:xf<65535
   ·have HN2:=aF (HN.out.trans (by rw [decide_eq_true h1,Bool.true_and]));clear HN;go_wp2_with fail
    all_goals first
     | (go_roundw
        case rel=>exact ⟨k+1,by omega,by go_num,aF (HB.out.alloc (by omega) _),HN2⟩
        case measure=>simp [intOf];omega)
     | (exfalso;omega)
   ·have HN2:Hid (R=false):=aF (HN.out.trans (by rw [decide_eq_false h1,Bool.false_and]));clear HN;go_wp2_with fail
    all_goals first
     | (go_ret;exact ⟨by rw [HN2.out];rfl,HB0.out.trans ((HB.out.mono HB0.out.size).alloc (by have:=HB0.out.size;omega) _)⟩)
     | (exfalso;omega)
  ·have HN:Hid (R=decide (pl<b.locals.length)):=aF (by rw [HR.out,bE (by omega)];rfl);have y4:=cJ HB.out Y4.out;have z0':=cJ HB.out Z0.out;clear HR;go_wp2_with fail
   all_goals first
    | (go_ret;exact ⟨by rw [HN.out];simp [*],HB0.out.trans (HB.out.mono HB0.out.size)⟩)
    | (exfalso;omega)
def plR (b:Bdy) (p:Plc):List UInt8 × Int:=
 if chk p.loc p.proj≠0 then ([],chk p.loc p.proj) else if (b.locals.length:Int)<=p.loc then ([],3) else (placeP b.locals p,0)
theorem rL {b:Bdy} {p:Plc} (h:¬chk p.loc p.proj=0):plR b p=([],chk p.loc p.proj):=by unfold plR;rw [bA h]
theorem rK {b:Bdy} {p:Plc} (h:chk p.loc p.proj=0) (h2:(b.locals.length:Int)<=p.loc):plR b p=([],3):=by unfold plR;rw [aZ (by simp [h]),bA h2]
theorem wN {b:Bdy} {p:Plc} (h:chk p.loc p.proj=0) (h2:¬(b.locals.length:Int)<=p.loc):plR b p=(placeP b.locals p,0):=by unfold plR;rw [aZ (by simp [h]),aZ h2]
theorem jW {l:Int} {ps:List Pj} (h:chk l ps=0):0<=l/\ps.length<=32:=by
 unfold chk at h;split at h
 ·cases h
 split at h
 ·cases h
 omega
theorem mH (b:Bdy) (bh:BH) (p:Plc) (A:Option Addr) (c:Nat) (w:World) (H:BdAt w b bh) (hp:Slc 2 RPj w A c p.proj) (hf:∀x∈p.proj,fitJ x) (hz:chk p.loc p.proj=0->Sm (placeP b.locals p)):
 Calls Tryz.prog 16 #[.agg (bdC b bh).toArray,.agg #[.int .i64 p.loc,.slice A p.proj.length c]] w fun e' w'=>e' = .returned (.tuple #[tx (plR b p).1,.int .i64 (plR b p).2])/\Below w.heap.size w w':=by
 have HP0:=aF (fun (W:World) (hb:Below w.heap.size w W) (h1:chk p.loc p.proj=0) (h2:¬(b.locals.length:Int)<=p.loc)=>pE b bh p A c W (H.keep hb) (hp.keep RPj.keeps hb) ⟨(jW h1).1,by omega⟩ hf (hz h1));obtain ⟨A1,c1,A2,c2,A3,c3,A4,c4,A5,c5⟩:=bh;have HCH:=aF (fun (W:World) (hb:Below w.heap.size w W)=>pG p.loc A c p.proj W (hp.keep RPj.keeps hb));have hlb:=H.loc.le;have hlg:=H.loc.big;simp only at hlb hlg;obtain ⟨W0,hW0⟩:∃W,(w.alloc (.cells #[Value.string b.name,.slice A1 b.regions.length c1,.slice A2 b.outl.length c2,.slice A3 b.types.length c3,.slice A4 b.locals.length c4,.int .i64 b.args,.slice A5 b.blocks.length c5] 28)).alloc (.cells #[.int .i64 p.loc,.slice A p.proj.length c] 46)=W:=⟨_,rfl⟩;have hb1:Below w.heap.size w (w.alloc (.cells #[Value.string b.name,.slice A1 b.regions.length c1,.slice A2 b.outl.length c2,.slice A3 b.types.length c3,.slice A4 b.locals.length c4,.int .i64 b.args,.slice A5 b.blocks.length c5] 28)):=(aX _ _).alloc (aY _) _;have hb2:Below (w.alloc (.cells #[Value.string b.name,.slice A1 b.regions.length c1,.slice A2 b.outl.length c2,.slice A3 b.types.length c3,.slice A4 b.locals.length c4,.int .i64 b.args,.slice A5 b.blocks.length c5] 28)).heap.size (w.alloc (.cells #[Value.string b.name,.slice A1 b.regions.length c1,.slice A2 b.outl.length c2,.slice A3 b.types.length c3,.slice A4 b.locals.length c4,.int .i64 b.args,.slice A5 b.blocks.length c5] 28)) W0:=by rw [<- hW0];exact (aX _ _).alloc (aY _) _
 have HB0:=aF (hb1.trans (hb2.mono hb1.size));have HC1:=aF (fun i v h=>cJ hb2 (cP w [Value.string b.name,.slice A1 b.regions.length c1,.slice A2 b.outl.length c2,.slice A3 b.types.length c3,.slice A4 b.locals.length c4,.int .i64 b.args,.slice A5 b.blocks.length c5] 28 i v h));have hc2:=cP (w.alloc (.cells #[Value.string b.name,.slice A1 b.regions.length c1,.slice A2 b.outl.length c2,.slice A3 b.types.length c3,.slice A4 b.locals.length c4,.int .i64 b.args,.slice A5 b.blocks.length c5] 28)) [.int .i64 p.loc,.slice A p.proj.length c] 46;rw [bI] at hc2;simp only [show (w.alloc (.cells #[Value.string b.name,.slice A1 b.regions.length c1,.slice A2 b.outl.length c2,.slice A3 b.types.length c3,.slice A4 b.locals.length c4,.int .i64 b.args,.slice A5 b.blocks.length c5] 28)).alloc (.cells [Value.int .i64 p.loc,.slice A p.proj.length c].toArray 46)=W0 from hW0] at hc2;have z0:=hc2 0 _ rfl;have z1:=hc2 1 _ rfl;have Z0:=aF z0;have Z1:=aF z1;by_cases h1:chk p.loc p.proj=0
 case neg=>
  have HF:=aF (rL (b:=b) h1);have e3:(chk p.loc p.proj != 0)=true:=by simp [h1]
  obtain ⟨e,he⟩:∃e,plR b p=e:=⟨_,rfl⟩;rw [he] at HF ⊢;generalize chk p.loc p.proj=ck at *;clear hb1 hb2 hc2 H hp h1 he;unfold bdC;simp only;go_enter Tryz.func16,Tryz.ntmps16
  go_wp2_with (go_at_call 53;refine (HCH.out _ HB0.out).mono ?_;rintro e' w1 ⟨rfl,hw⟩)
  go_ret2
  exact ⟨by rw [HF.out];rfl,HB0.out.trans (hw.mono HB0.out.size)⟩
 case pos=>
 have e3:(chk p.loc p.proj != 0)=false:=by simp [h1]
 rw [h1] at e3 HCH;by_cases h2:(b.locals.length:Int)<=p.loc
 case pos=>
  have HF:=aF (rK (b:=b) h1 h2);obtain ⟨e,he⟩:∃e,plR b p=e:=⟨_,rfl⟩;rw [he] at HF ⊢;have HC:Hid (∀W,Below W0.heap.size W0 W->∀i v,[Value.string b.name,.slice A1 b.regions.length c1,.slice A2 b.outl.length c2,.slice A3 b.types.length c3,.slice A4 b.locals.length c4,.int .i64 b.args,.slice A5 b.blocks.length c5][i]?=some v->W.cell? ⟨w.heap.size,i,none⟩=some v):=aF (fun W hb i v h=>cJ hb (HC1.out i v h));clear hb1 hb2 hc2 H hp h1 he;unfold bdC;simp only;go_enter Tryz.func16,Tryz.ntmps16
  go_wp2_with (go_at_call 53;refine (HCH.out _ HB0.out).mono ?_;rintro e' w1 ⟨rfl,hw⟩;have y4:=HC.out w1 hw 4 _ rfl;have z0':=cJ hw Z0.out)
  go_ret2
  exact ⟨by rw [HF.out];rfl,HB0.out.trans (hw.mono HB0.out.size)⟩
 case neg=>
  have HF:=aF (wN (b:=b) h1 h2);obtain ⟨e,he⟩:∃e,plR b p=e:=⟨_,rfl⟩;rw [he] at HF ⊢;have HPP:=aF (fun W hb=>HP0.out W hb h1 h2);have HC:Hid (∀W,Below W0.heap.size W0 W->∀i v,[Value.string b.name,.slice A1 b.regions.length c1,.slice A2 b.outl.length c2,.slice A3 b.types.length c3,.slice A4 b.locals.length c4,.int .i64 b.args,.slice A5 b.blocks.length c5][i]?=some v->W.cell? ⟨w.heap.size,i,none⟩=some v):=aF (fun W hb i v h=>cJ hb (HC1.out i v h));clear hb1 hb2 hc2 H hp h1 he HP0;unfold bdC at *;simp only at *;go_enter Tryz.func16,Tryz.ntmps16
  go_wp2_with (first
   | (go_at_call 53;refine (HCH.out _ HB0.out).mono ?_;rintro e' w1 ⟨rfl,hw⟩;have y0:=HC.out w1 hw 0 _ rfl;have y1:=HC.out w1 hw 1 _ rfl;have y2:=HC.out w1 hw 2 _ rfl;have y3:=HC.out w1 hw 3 _ rfl;have y4:=HC.out w1 hw 4 _ rfl;have y5:=HC.out w1 hw 5 _ rfl;have y6:=HC.out w1 hw 6 _ rfl;have z0':=cJ hw Z0.out;have z1':=cJ hw Z1.out)
   | (go_at_call 50;refine (HPP.out _ (HB0.out.trans (hw.mono HB0.out.size))).mono ?_;rintro e' w2 ⟨rfl,hw2⟩))
  go_ret2
  exact ⟨by rw [HF.out];rfl,(HB0.out.trans (hw.mono HB0.out.size)).trans (hw2.mono (HB0.out.trans (hw.mono HB0.out.size)).size)⟩
theorem gY (b:Bdy) (bh:BH) (p:Plc) (A:Option Addr) (c:Nat) (w:World) (H:BdAt w b bh) (hpow:PowTab w) (hp:Slc 2 RPj w A c p.proj) (hf:∀x∈p.proj,fitJ x) (hz:chk p.loc p.proj=0->Sm (placeP b.locals p)):
 Calls Tryz.prog 15 #[.agg (bdC b bh).toArray,.agg #[.int .i64 p.loc,.slice A p.proj.length c]] w fun e' w'=>e' = .returned (.tuple #[tx (plR b p).1,.int .i64 (plR b p).2])/\Below w.heap.size w w':=by
 have HP0:=aF (fun (g:Nat) (W:World) (hb:Below w.heap.size w W) (hc:W.cell? ⟨g,6,none⟩=some (.slice bh.A4 b.locals.length bh.c4)) (h1:chk p.loc p.proj=0) (h2:¬(b.locals.length:Int)<=p.loc)=>eN b.locals g bh.A4 bh.c4 p A c W hc (H.loc.keep RLc.keeps hb) (hp.keep RPj.keeps hb) ⟨(jW h1).1,by omega⟩ hf (hz h1) (hpow.keep hb));obtain ⟨A1,c1,A2,c2,A3,c3,A4,c4,A5,c5⟩:=bh;have HCH:=aF (fun (W:World) (hb:Below w.heap.size w W)=>fC p.loc A c p.proj W (hp.keep RPj.keeps hb));have hlb:=H.loc.le;have hlg:=H.loc.big;simp only at hlb hlg;obtain ⟨W0,hW0⟩:∃W,(w.alloc (.cells #[Value.string b.name,.slice A1 b.regions.length c1,.slice A2 b.outl.length c2,.slice A3 b.types.length c3,.slice A4 b.locals.length c4,.int .i64 b.args,.slice A5 b.blocks.length c5] 28)).alloc (.cells #[.int .i64 p.loc,.slice A p.proj.length c] 46)=W:=⟨_,rfl⟩;have hb1:Below w.heap.size w (w.alloc (.cells #[Value.string b.name,.slice A1 b.regions.length c1,.slice A2 b.outl.length c2,.slice A3 b.types.length c3,.slice A4 b.locals.length c4,.int .i64 b.args,.slice A5 b.blocks.length c5] 28)):=(aX _ _).alloc (aY _) _;have hb2:Below (w.alloc (.cells #[Value.string b.name,.slice A1 b.regions.length c1,.slice A2 b.outl.length c2,.slice A3 b.types.length c3,.slice A4 b.locals.length c4,.int .i64 b.args,.slice A5 b.blocks.length c5] 28)).heap.size (w.alloc (.cells #[Value.string b.name,.slice A1 b.regions.length c1,.slice A2 b.outl.length c2,.slice A3 b.types.length c3,.slice A4 b.locals.length c4,.int .i64 b.args,.slice A5 b.blocks.length c5] 28)) W0:=by rw [<- hW0];exact (aX _ _).alloc (aY _) _
 have HB0:=aF (hb1.trans (hb2.mono hb1.size));have HC1:=aF (fun i v h=>cJ hb2 (cP w [Value.string b.name,.slice A1 b.regions.length c1,.slice A2 b.outl.length c2,.slice A3 b.types.length c3,.slice A4 b.locals.length c4,.int .i64 b.args,.slice A5 b.blocks.length c5] 28 i v h));have hc2:=cP (w.alloc (.cells #[Value.string b.name,.slice A1 b.regions.length c1,.slice A2 b.outl.length c2,.slice A3 b.types.length c3,.slice A4 b.locals.length c4,.int .i64 b.args,.slice A5 b.blocks.length c5] 28)) [.int .i64 p.loc,.slice A p.proj.length c] 46;rw [bI] at hc2;simp only [show (w.alloc (.cells #[Value.string b.name,.slice A1 b.regions.length c1,.slice A2 b.outl.length c2,.slice A3 b.types.length c3,.slice A4 b.locals.length c4,.int .i64 b.args,.slice A5 b.blocks.length c5] 28)).alloc (.cells [Value.int .i64 p.loc,.slice A p.proj.length c].toArray 46)=W0 from hW0] at hc2;have z0:=hc2 0 _ rfl;have z1:=hc2 1 _ rfl;have Z0:=aF z0;have Z1:=aF z1;have HC:Hid (∀W,Below W0.heap.size W0 W->∀i v,[Value.string b.name,.slice A1 b.regions.length c1,.slice A2 b.outl.length c2,.slice A3 b.types.length c3,.slice A4 b.locals.length c4,.int .i64 b.args,.slice A5 b.blocks.length c5][i]?=some v->W.cell? ⟨w.heap.size,i,none⟩=some v):=aF (fun W hb i v h=>cJ hb (HC1.out i v h));by_cases h1:chk p.loc p.proj=0
 case neg=>
  have HF:=aF (rL (b:=b) h1);have e3:(chk p.loc p.proj != 0)=true:=by simp [h1]
  obtain ⟨e,he⟩:∃e,plR b p=e:=⟨_,rfl⟩;rw [he] at HF ⊢;generalize chk p.loc p.proj=ck at *;clear hb1 hb2 hc2 H hp h1 he;unfold bdC;simp only;go_enter Tryz.func15,Tryz.ntmps15
  go_wp2_with (go_at_call 52;refine (HCH.out _ HB0.out).mono ?_;rintro e' w1 ⟨rfl,hw⟩)
  go_ret2
  exact ⟨by rw [HF.out];rfl,HB0.out.trans (hw.mono HB0.out.size)⟩
 case pos=>
 have e3:(chk p.loc p.proj != 0)=false:=by simp [h1]
 rw [h1] at e3 HCH;by_cases h2:(b.locals.length:Int)<=p.loc
 case pos=>
  have HF:=aF (rK (b:=b) h1 h2);obtain ⟨e,he⟩:∃e,plR b p=e:=⟨_,rfl⟩;rw [he] at HF ⊢;clear hb1 hb2 hc2 H hp h1 he;unfold bdC;simp only;go_enter Tryz.func15,Tryz.ntmps15
  go_wp2_with (go_at_call 52;refine (HCH.out _ HB0.out).mono ?_;rintro e' w1 ⟨rfl,hw⟩;have y4:=HC.out w1 hw 4 _ rfl;have z0':=cJ hw Z0.out)
  go_ret2
  exact ⟨by rw [HF.out];rfl,HB0.out.trans (hw.mono HB0.out.size)⟩
 case neg=>
  have HF:=aF (wN (b:=b) h1 h2);obtain ⟨e,he⟩:∃e,plR b p=e:=⟨_,rfl⟩;rw [he] at HF ⊢;have HPP:=aF (fun g W hb hc=>HP0.out g W hb hc h1 h2);simp only at HPP;clear hb1 hb2 hc2 H hp h1 he HP0;unfold bdC at *;simp only at *;go_enter Tryz.func15,Tryz.ntmps15
  go_wp2_with (first
   | (go_at_call 52;refine (HCH.out _ HB0.out).mono ?_;rintro e' w1 ⟨rfl,hw⟩;have y0:=HC.out w1 hw 0 _ rfl;have y1:=HC.out w1 hw 1 _ rfl;have y2:=HC.out w1 hw 2 _ rfl;have y3:=HC.out w1 hw 3 _ rfl;have y4:=HC.out w1 hw 4 _ rfl;have y5:=HC.out w1 hw 5 _ rfl;have y6:=HC.out w1 hw 6 _ rfl;have z0':=cJ hw Z0.out;have z1':=cJ hw Z1.out;have hlt0:w.heap.size<w1.heap.size:=cD w1 _ y0;have hlt1:w.heap.size+1<w1.heap.size:=cD w1 _ z0';have HW1:=aF (HB0.out.trans (hw.mono HB0.out.size)))
   | (go_at_call 48;refine (HPP.out w1.heap.size _ (HW1.out.alloc HW1.out.size _) (by go_simp)).mono ?_;rintro e' w2 ⟨rfl,hw2⟩))
  go_ret2
  exact ⟨by rw [HF.out];rfl,(HW1.out.alloc HW1.out.size _).trans (hw2.mono (HW1.out.alloc HW1.out.size _).size)⟩
end
end Go.Proofs.YtmknfbfppmkcfaaGreatDoor
