/-
  Parts of the proof: Y55 Y56 Y61.
-/
import Derived.Test.YtmknfbfppmkcfaaGreatDoorPP0
import Derived.Test.YtmknfbfppmkcfaaGreatDoorPP15
import Derived.Test.YtmknfbfppmkcfaaGreatDoorPP10
import Derived.Test.YtmknfbfppmkcfaaGreatDoorPP17
import Derived.Test.YtmknfbfppmkcfaaGreatDoorPP21
import Derived.Deep.CutBlock
namespace Go.Proofs.YtmknfbfppmkcfaaGreatDoor
set_option maxRecDepth 100000
set_option maxHeartbeats 16000000
section
open Go Go.RowKit
def sR5 (b:Bdy) (f:Fct) (k:Nat):List UInt8:=(f.live.drop k).flatMap (oE b.regions) ++ [125,10]
def sR4 (b:Bdy) (f:Fct):List UInt8:=f.inval.flatMap (prLine wInv) ++ sR5 b f 0
def sR3 (b:Bdy) (f:Fct):List UInt8:=f.killed.flatMap (prLine wKill) ++ sR4 b f
def sR2 (b:Bdy) (f:Fct):List UInt8:=f.edges.flatMap (prLine wEdge) ++ sR3 b f
def sR1 (b:Bdy) (f:Fct) (k:Nat):List UInt8:=(f.loans.drop k).flatMap (oH b.locals b.regions) ++ sR2 b f
theorem xT (b:Bdy) (f:Fct):printF b f=headP wFacts b ++ sR1 b f 0:=by
 simp [printF,sR1,sR2,sR3,sR4,sR5]
theorem uR {b:Bdy} {f:Fct} {k:Nat} (h:k<f.loans.length):sR1 b f k=oH b.locals b.regions f.loans[k] ++ sR1 b f (k+1):=by
 unfold sR1;rw [cS h,List.flatMap_cons,bM]
theorem xL {b:Bdy} {f:Fct} {k:Nat} (h:f.loans.length<=k):sR1 b f k=sR2 b f:=by unfold sR1;rw [bE h];rfl
theorem uQ {b:Bdy} {f:Fct} {k:Nat} (h:k<f.live.length):sR5 b f k=oE b.regions f.live[k] ++ sR5 b f (k+1):=by
 unfold sR5;rw [cS h,List.flatMap_cons,bM]
theorem xK {b:Bdy} {f:Fct} {k:Nat} (h:f.live.length<=k):sR5 b f k=[125,10]:=by unfold sR5;rw [bE h];rfl
structure FitF (f:Fct):Prop where
 pt:∀l∈f.loans,fitN l.pt
 pj:∀l∈f.loans,∀x∈l.place.proj,fitJ x
 ed:∀x∈f.edges,fitN x.1/\fitN x.2
 ki:∀x∈f.killed,fitN x.1/\fitN x.2
 iv:∀x∈f.inval,fitN x.1/\fitN x.2
 li:∀x∈f.live,fitN x.1/\fitN x.2
structure PF (w0:World) (n g:Nat) (b:Bdy) (bh:BH) (f:Fct) (fh:FH) (bs:List UInt8) (d:Nat) (W:World):Prop where
 P:PW w0 n g b bh bs d W
 fc:W.heap[n+1]?=some (.cells (fcC f fh).toArray 39 (0,0))
 nf:n+1<g
theorem PF.keep {w0:World} {n g:Nat} {b:Bdy} {bh:BH} {f:Fct} {fh:FH} {bs:List UInt8} {d:Nat} {W W':World} (H:PF w0 n g b bh f fh bs d W) (hb:Below W.heap.size W W'):PF w0 n g b bh f fh bs d W':=
 ⟨H.P.keep hb,cL H.fc hb,H.nf⟩
theorem PF.fr {w0:World} {n g:Nat} {b:Bdy} {bh:BH} {f:Fct} {fh:FH} {bs bs':List UInt8} {d d':Nat} {W W':World} (H:PF w0 n g b bh f fh bs d W) (L:Lives w0 (g+2) g b bh bs' d' W') (hf:Fr g W W'):PF w0 n g b bh f fh bs' d' W':=
 ⟨H.P.fr L hf,heap_fr H.fc hf (by have:=H.nf;omega) (by decide),H.nf⟩
theorem PF.cells {w0:World} {n g:Nat} {b:Bdy} {bh:BH} {f:Fct} {fh:FH} {bs:List UInt8} {d:Nat} {W:World} (H:PF w0 n g b bh f fh bs d W):
 (aA (bdC b bh) W n)/\(aA (fcC f fh) W (n+1))/\W.cell? ⟨g+1,0,none⟩=some (.pointer (some ⟨g,0,none⟩)):=
 ⟨cO H.P.bd,cO H.fc,cO H.P.pc 0 _ rfl⟩
theorem mU {b:Bdy} {f:Fct} (h:¬okF b f):pfR b f=([],16):=by unfold pfR;rw [aZ h]
theorem wO {b:Bdy} {f:Fct} (h:okF b f):pfR b f=(printF b f,0):=by unfold pfR;rw [bA h]
theorem uA (t:List UInt8):Lib.trimPrefix (38 :: t) [38]=t:=by simp [Lib.trimPrefix,Lib.hasPrefix]
theorem lX {b:Bdy} (h:chkB b=0):cntP b.blocks<=4611686018427387904/\b.blocks.length<=1000000:=by
 have D:=eK (jX h);have S:=tH h;have h1:=yQ (l:=b.blocks) (m:=65535) (fun x hx=>(S.blks x hx).1);have h2:=D.nblk.2;exact ⟨by omega,by omega⟩
end
section
open Go Go.RowKit
attribute [local irreducible] Calls
theorem pK (b:Bdy) (bh:BH) (f:Fct) (fh:FH) (w:World) (H:BdAt w b bh) (HF:FcAt w f fh) (hT:TabsOk w) (hpow:PowTab w) (hsp:SpTab w) (hff:FitF f)
 (hz:chkB b=0->fctE f (cntP b.blocks) b.regions.length=0->(printF b f).length<=100000000000000):
 Calls Tryz.prog 13 #[.agg (bdC b bh).toArray,.agg (fcC f fh).toArray] w fun e' w'=>e' = .returned (.tuple #[tx (pfR b f).1,.int .i64 (pfR b f).2])/\Below w.heap.size w w':=by
 have HK0:=aF (fun (W:World) (hb:Below w.heap.size w W)=>iQ b bh W (H.keep hb) (hT.keep hb));have HC0:=aF (fun (W:World) (hb:Below w.heap.size w W) (hc:chkB b=0)=>pL b bh W (H.keep hb) (lX hc).1 (lX hc).2);have HE0:=aF (fun (W:World) (hb:Below w.heap.size w W)=>pY f fh (cntP b.blocks) b.regions.length W (HF.keep hb));obtain ⟨A1,c1,A2,c2,A3,c3,A4,c4,A5,c5⟩:=bh;obtain ⟨B0,d0,B1,d1,B2,d2,B3,d3,B4,d4⟩:=fh;have HK:Hid (∀W,Below w.heap.size w W->Calls Tryz.prog 27 #[.agg ([Value.string b.name,.slice A1 b.regions.length c1,.slice A2 b.outl.length c2,.slice A3 b.types.length c3,.slice A4 b.locals.length c4,.int .i64 b.args,.slice A5 b.blocks.length c5]).toArray] W fun e' w'=>e' = .returned (.int .i64 (chkB b))/\Below W.heap.size W w'):=aF (fun W hb=>HK0.out W hb);have HCN:Hid (∀W,Below w.heap.size w W->chkB b=0->Calls Tryz.prog 44 #[.agg ([Value.string b.name,.slice A1 b.regions.length c1,.slice A2 b.outl.length c2,.slice A3 b.types.length c3,.slice A4 b.locals.length c4,.int .i64 b.args,.slice A5 b.blocks.length c5]).toArray] W fun e' w'=>e' = .returned (.int .i64 (cntP b.blocks))/\Below W.heap.size W w'):=aF (fun W hb hc=>HC0.out W hb hc);have HE:Hid (∀W,Below w.heap.size w W->Calls Tryz.prog 43 #[.agg ([Value.slice B0 f.loans.length d0,.slice B1 f.edges.length d1,.slice B2 f.killed.length d2,.slice B3 f.inval.length d3,.slice B4 f.live.length d4]).toArray,.int .i64 (cntP b.blocks),.int .i64 b.regions.length] W fun e' w'=>e' = .returned (.int .i64 (fctE f (cntP b.blocks) b.regions.length))/\Below W.heap.size W w'):=aF (fun W hb=>HE0.out W hb);obtain ⟨W0,hW0⟩:∃W,(w.alloc (.cells ([Value.string b.name,.slice A1 b.regions.length c1,.slice A2 b.outl.length c2,.slice A3 b.types.length c3,.slice A4 b.locals.length c4,.int .i64 b.args,.slice A5 b.blocks.length c5]).toArray 28)).alloc (.cells ([Value.slice B0 f.loans.length d0,.slice B1 f.edges.length d1,.slice B2 f.killed.length d2,.slice B3 f.inval.length d3,.slice B4 f.live.length d4]).toArray 39)=W:=⟨_,rfl⟩;have hb1:Below w.heap.size w (w.alloc (.cells ([Value.string b.name,.slice A1 b.regions.length c1,.slice A2 b.outl.length c2,.slice A3 b.types.length c3,.slice A4 b.locals.length c4,.int .i64 b.args,.slice A5 b.blocks.length c5]).toArray 28)):=(aX _ _).alloc (aY _) _;have hb2:Below (w.alloc (.cells ([Value.string b.name,.slice A1 b.regions.length c1,.slice A2 b.outl.length c2,.slice A3 b.types.length c3,.slice A4 b.locals.length c4,.int .i64 b.args,.slice A5 b.blocks.length c5]).toArray 28)).heap.size (w.alloc (.cells ([Value.string b.name,.slice A1 b.regions.length c1,.slice A2 b.outl.length c2,.slice A3 b.types.length c3,.slice A4 b.locals.length c4,.int .i64 b.args,.slice A5 b.blocks.length c5]).toArray 28)) W0:=by rw [<- hW0];exact (aX _ _).alloc (aY _) _
 have HB0:=aF (hb1.trans (hb2.mono hb1.size));have hN0:W0.heap[w.heap.size]?=some (.cells ((bdM b A1 c1 A2 c2 A3 c3 A4 c4 A5 c5 [])).toArray 28 (0,0)):=cL (heap_alloc_new w (.cells ([Value.string b.name,.slice A1 b.regions.length c1,.slice A2 b.outl.length c2,.slice A3 b.types.length c3,.slice A4 b.locals.length c4,.int .i64 b.args,.slice A5 b.blocks.length c5]).toArray 28)) hb2
 have hN1:W0.heap[w.heap.size+1]?=some (.cells ([Value.slice B0 f.loans.length d0,.slice B1 f.edges.length d1,.slice B2 f.killed.length d2,.slice B3 f.inval.length d3,.slice B4 f.live.length d4]).toArray 39 (0,0)):=by
  have h:=heap_alloc_new (w.alloc (.cells ([Value.string b.name,.slice A1 b.regions.length c1,.slice A2 b.outl.length c2,.slice A3 b.types.length c3,.slice A4 b.locals.length c4,.int .i64 b.args,.slice A5 b.blocks.length c5]).toArray 28)) (.cells ([Value.slice B0 f.loans.length d0,.slice B1 f.edges.length d1,.slice B2 f.killed.length d2,.slice B3 f.inval.length d3,.slice B4 f.live.length d4]).toArray 39);rw [bI,hW0] at h;exact h
 have HN0:=aF hN0;have HN1:=aF hN1;have hS:(aA (bdM b A1 c1 A2 c2 A3 c3 A4 c4 A5 c5 []) W0.drew w.heap.size)/\(aA [Value.slice B0 f.loans.length d0,.slice B1 f.edges.length d1,.slice B2 f.killed.length d2,.slice B3 f.inval.length d3,.slice B4 f.live.length d4] W0.drew (w.heap.size+1)):=⟨cO hN0,cO hN1⟩;have hr1:=H.reg.le;have hr2:=H.reg.big;have hl1:=H.loc.le;have hl2:=H.loc.big;have l0:=HF.ln.le;have l1:=HF.ed.le;have l2:=HF.ki.le;have l3:=HF.iv.le;have l4:=HF.li.le;have m0:=HF.ln.big;have m1:=HF.ed.big;have m2:=HF.ki.big;have m3:=HF.iv.big;have m4:=HF.li.big;have HH:=aF H;have HG:=aF HF;have HPOW:=aF hpow;have HSP:=aF hsp;have HFF:=aF hff;have HZ:=aF hz;simp only at hr1 hr2 hl1 hl2 l0 l1 l2 l3 l4 m0 m1 m2 m3 m4;clear HK0 HC0 HE0 H HF hT hpow hsp hff hz hb1 hb2 hN0 hN1;unfold bdC fcC;simp only;by_cases hc:chkB b=0
 case neg=>
  have HR:=aF (mU (f:=f) (fun h:okF b f=>hc h.1));obtain ⟨R,hR⟩:∃R,pfR b f=R:=⟨_,rfl⟩;rw [hR] at HR ⊢;have e1:(chkB b != 0)=true:=by simp [hc]
  generalize chkB b=ck at *;clear hc hR HZ HCN HE;go_enter Tryz.func13,Tryz.ntmps13
  go_wp2_with fail
  refine cQ (S:=fun X=>(aA (bdM b A1 c1 A2 c2 A3 c3 A4 c4 A5 c5 []) X w.heap.size)/\(aA [Value.slice B0 f.loans.length d0,.slice B1 f.edges.length d1,.slice B2 f.killed.length d2,.slice B3 f.inval.length d3,.slice B4 f.live.length d4] X (w.heap.size+1))) [0,1,2,3,4,5,6,7,8,9,10,11,12] (by kernel_rfl) ?_;((refine cR (v:=?_) ?_ hS ?_;rotate_left;(next=>(rintro X ⟨hX,hZ⟩;obtain ⟨y0,y1,y2,y3,y4,y5,y6⟩:=aS hX;(try simp only [aI]);go_simp;rfl));simp only [aM]))
  (refine cM (fun K1 hK1=>?_);simp only [aM];rw [bA (by rfl)];go_simp);refine (HK.out _ HB0.out.drew).mono ?_;rintro e' w1 ⟨rfl,hw1⟩;replace hS:=bJ (fun i v h=>cJ hw1 (hS.1 i v h)) (fun i v h=>cJ hw1 (hS.2 i v h));refine hK1.out _ _ (fun _=>hS) ?_;(iterate 2 (refine cR (v:=?_) ?_ hS ?_;rotate_left;(next=>(rintro X -;(try simp only [aI]);go_simp;rfl));simp only [aM]));(iterate 8 (refine cU (v:=undef) (by kernel_rfl) (fun _ _ _ h=>h) (Or.inr ⟨by rfl,rfl⟩) hS ?_;simp only [aM]));((refine cR (v:=?_) ?_ hS ?_;rotate_left;(next=>(rintro X -;(try simp only [aI]);go_simp;rfl));simp only [aM]))
  refine cV ?_;clear hK1 hS;go_wp2_with fail
  go_ret2
  exact ⟨by rw [HR.out];rfl,HB0.out.drew.trans (hw1.mono HB0.out.drew.size)⟩
 case pos=>
 have e1:(chkB b != 0)=false:=by simp [hc]
 have HOK:=aF (wS hc);have HCC:=aF hc;rw [hc] at HK e1;by_cases hfe:fctE f (cntP b.blocks) b.regions.length=0
 case neg=>
  have HR:=aF (mU (b:=b) (f:=f) (fun h:okF b f=>hfe h.2.1));obtain ⟨R,hR⟩:∃R,pfR b f=R:=⟨_,rfl⟩;rw [hR] at HR ⊢;have e2:(fctE f (cntP b.blocks) b.regions.length != 0)=true:=by simp [hfe]
  generalize fctE f (cntP b.blocks) b.regions.length=fe at *;clear hfe hR HZ;go_enter Tryz.func13,Tryz.ntmps13
  go_wp2_with fail
  refine cQ (S:=fun X=>(aA (bdM b A1 c1 A2 c2 A3 c3 A4 c4 A5 c5 []) X w.heap.size)/\(aA [Value.slice B0 f.loans.length d0,.slice B1 f.edges.length d1,.slice B2 f.killed.length d2,.slice B3 f.inval.length d3,.slice B4 f.live.length d4] X (w.heap.size+1))) [0,1,2,3,4,5,7,8,9,6,10,11,12] (by kernel_rfl) ?_;((refine cR (v:=?_) ?_ hS ?_;rotate_left;(next=>(rintro X ⟨hX,hZ⟩;obtain ⟨y0,y1,y2,y3,y4,y5,y6⟩:=aS hX;(try simp only [aI]);go_simp;rfl));simp only [aM]))
  (refine cM (fun K1 hK1=>?_);simp only [aM];rw [bA (by rfl)];go_simp);refine (HK.out _ HB0.out.drew).mono ?_;rintro e' w1 ⟨rfl,hw1⟩;replace hS:=bJ (fun i v h=>cJ hw1 (hS.1 i v h)) (fun i v h=>cJ hw1 (hS.2 i v h));have HB1:=aF (HB0.out.drew.trans (hw1.mono HB0.out.drew.size));refine hK1.out _ _ (fun _=>hS) ?_;clear hK1 hw1;(iterate 2 (refine cR (v:=?_) ?_ hS ?_;rotate_left;(next=>(rintro X -;(try simp only [aI]);go_simp;rfl));simp only [aM]));(iterate 5 (refine cR (v:=?_) ?_ hS ?_;rotate_left;(next=>(rintro X ⟨hX,hZ⟩;obtain ⟨y0,y1,y2,y3,y4,y5,y6⟩:=aS hX;obtain ⟨z0,z1,z2,z3,z4⟩:=aQ hZ;(try simp only [aI]);go_simp;rfl));simp only [aM]));(refine cM (fun K1 hK1=>?_);simp only [aM];rw [bA (by rfl)];go_simp);refine (HCN.out _ HB1.out HCC.out).mono ?_;rintro e' w2 ⟨rfl,hw1⟩;replace hS:=bJ (fun i v h=>cJ hw1 (hS.1 i v h)) (fun i v h=>cJ hw1 (hS.2 i v h));have HB2:=aF (HB1.out.trans (hw1.mono HB1.out.size));refine hK1.out _ _ (fun _=>hS) ?_;clear hK1 hw1;(refine cM (fun K1 hK1=>?_);simp only [aM];rw [bA (by rfl)];go_simp);refine (HE.out _ HB2.out).mono ?_;rintro e' w3 ⟨rfl,hw1⟩;replace hS:=bJ (fun i v h=>cJ hw1 (hS.1 i v h)) (fun i v h=>cJ hw1 (hS.2 i v h));have HB3:=aF (HB2.out.trans (hw1.mono HB2.out.size));refine hK1.out _ _ (fun _=>hS) ?_;clear hK1 hw1;(iterate 2 (refine cR (v:=?_) ?_ hS ?_;rotate_left;(next=>(rintro X -;(try simp only [aI]);go_simp;rfl));simp only [aM]));refine cV ?_;clear hS;go_wp2_with fail
  go_ret2
  exact ⟨by rw [HR.out];rfl,HB3.out⟩
 case pos=>
 have e2:(fctE f (cntP b.blocks) b.regions.length != 0)=false:=by simp [hfe]
 have HOF:=aF (yH hfe);have HZ2:=aF (HZ.out hc hfe);have HOKF:Hid (okF b f↔∀l∈f.loans,canP b.locals.length l):=aF ⟨fun h=>h.2.2,fun h=>⟨hc,hfe,h⟩⟩;obtain ⟨R,hR⟩:∃R,pfR b f=R:=⟨_,rfl⟩;have HRE:=aF hR.symm;rw [hR];have hmf:∀(fn:Fn) (first cap:Array Value) (w:World),(Instr.makeFunc fn first cap).run Tryz.prog w = .ok (.func fn first cap) w:=fun _ _ _ _=>rfl
 rw [hfe] at HE e2;clear hc hfe HZ hS hR;go_enter Tryz.func13,Tryz.ntmps13
 go_wp2_with fail
 have hS:W0.drew.heap[w.heap.size]?=some (.cells ((bdM b A1 c1 A2 c2 A3 c3 A4 c4 A5 c5 [])).toArray 28 (0,0))/\W0.drew.heap[w.heap.size+1]?=some (.cells ([Value.slice B0 f.loans.length d0,.slice B1 f.edges.length d1,.slice B2 f.killed.length d2,.slice B3 f.inval.length d3,.slice B4 f.live.length d4]).toArray 39 (0,0)):=⟨HN0.out,HN1.out⟩;refine cQ (S:=fun X=>X.heap[w.heap.size]?=some (.cells ((bdM b A1 c1 A2 c2 A3 c3 A4 c4 A5 c5 [])).toArray 28 (0,0))/\X.heap[w.heap.size+1]?=some (.cells ([Value.slice B0 f.loans.length d0,.slice B1 f.edges.length d1,.slice B2 f.killed.length d2,.slice B3 f.inval.length d3,.slice B4 f.live.length d4]).toArray 39 (0,0))) [0,1,2,3,4,5,7,8,9,6,10,11,12] (by kernel_rfl) ?_;((refine cR (v:=?_) ?_ hS ?_;rotate_left;(next=>(rintro X ⟨hX1,hZ1⟩;have hX:=cO hX1;obtain ⟨y0,y1,y2,y3,y4,y5,y6⟩:=aS hX;(try simp only [aI]);go_simp;rfl));simp only [aM]))
 (refine cM (fun K1 hK1=>?_);simp only [aM];rw [bA (by rfl)];go_simp);refine (HK.out _ HB0.out.drew).mono ?_;rintro e' w1 ⟨rfl,hw1⟩;replace hS:=bJ (cL hS.1 hw1) (cL hS.2 hw1);have HB1:=aF (HB0.out.drew.trans (hw1.mono HB0.out.drew.size));refine hK1.out _ _ (fun _=>hS) ?_;clear hK1 hw1;(iterate 2 (refine cR (v:=?_) ?_ hS ?_;rotate_left;(next=>(rintro X -;(try simp only [aI]);go_simp;rfl));simp only [aM]));(iterate 5 (refine cR (v:=?_) ?_ hS ?_;rotate_left;(next=>(rintro X ⟨hX1,hZ1⟩;have hX:=cO hX1;have hZ:=cO hZ1;obtain ⟨y0,y1,y2,y3,y4,y5,y6⟩:=aS hX;obtain ⟨z0,z1,z2,z3,z4⟩:=aQ hZ;(try simp only [aI]);go_simp;rfl));simp only [aM]));(refine cM (fun K1 hK1=>?_);simp only [aM];rw [bA (by rfl)];go_simp);refine (HCN.out _ HB1.out HCC.out).mono ?_;rintro e' w2 ⟨rfl,hw1⟩;replace hS:=bJ (cL hS.1 hw1) (cL hS.2 hw1);have HB2:=aF (HB1.out.trans (hw1.mono HB1.out.size));refine hK1.out _ _ (fun _=>hS) ?_;clear hK1 hw1;(refine cM (fun K1 hK1=>?_);simp only [aM];rw [bA (by rfl)];go_simp);refine (HE.out _ HB2.out).mono ?_;rintro e' w3 ⟨rfl,hw1⟩;replace hS:=bJ (cL hS.1 hw1) (cL hS.2 hw1);have HB3:=aF (HB2.out.trans (hw1.mono HB2.out.size));refine hK1.out _ _ (fun _=>hS) ?_;clear hK1 hw1;(iterate 2 (refine cR (v:=?_) ?_ hS ?_;rotate_left;(next=>(rintro X -;(try simp only [aI]);go_simp;rfl));simp only [aM]));refine cV ?_;have hX:=cO hS.1;have hZ:=cO hS.2;obtain ⟨y0,y1,y2,y3,y4,y5,y6⟩:=aS hX;have hn1:w.heap.size+1<w3.heap.size:=(Array.getElem?_eq_some_iff.1 hS.2).1;obtain ⟨g,hg⟩:∃g,w3.heap.size=g:=⟨_,rfl⟩;obtain ⟨Wg,hWg⟩:∃W,w3.alloc (.cells #[.pointer none,.slice none 0 0,.string b.name,.slice A1 b.regions.length c1,.slice A2 b.outl.length c2,.slice A3 b.types.length c3,.slice A4 b.locals.length c4,.int .i64 b.args,.slice A5 b.blocks.length c5,.int .i64 0] 72)=W:=⟨_,rfl⟩;have hWgs:Wg.heap.size=g+1:=by rw [<- hWg,<- hg];simp
 obtain ⟨W4,hW4⟩:∃W,Wg.alloc (.cells #[.pointer (some ⟨g,0,none⟩)] 66)=W:=⟨_,rfl⟩
 have P0:PF w w.heap.size g b ⟨A1,c1,A2,c2,A3,c3,A4,c4,A5,c5⟩ f ⟨B0,d0,B1,d1,B2,d2,B3,d3,B4,d4⟩ [] 0 W4:=by
  have hb1:Below w3.heap.size w3 Wg:=by rw [<- hWg];exact (aX _ _).alloc (aY _) _
  have hb2:Below Wg.heap.size Wg W4:=by rw [<- hW4];exact (aX _ _).alloc (aY _) _
  have hb3:Below w.heap.size w W4:=HB3.out.trans ((hb1.mono HB3.out.size).trans (hb2.mono (by have:=HB3.out.size;omega)));have hgk:Wg.heap[g]?=some (.cells (prC b ⟨A1,c1,A2,c2,A3,c3,A4,c4,A5,c5⟩ (.pointer none) (.slice none 0 0) 0) 72 (0,0)):=by rw [<- hWg,<- hg];exact heap_alloc_new w3 _
  refine ⟨⟨⟨HH.out,HPOW.out,HSP.out,by omega,hb3,⟨by omega,by rw [<- hW4,bI];omega,.pointer none,.slice none 0 0,.inl rfl,cL hgk hb2,World.ownsRow_nil _ _ _ _⟩⟩,cL (cL hS.1 hb1) hb2,?_,by omega⟩,cL (cL hS.2 hb1) hb2,by omega⟩;rw [<- hW4,<- hWgs];exact heap_alloc_new Wg _
 have HP0:=aF P0;have HT0:Hid (printF b f=headP wFacts b ++ sR1 b f 0):=aF (xT b f);have hzl:=eG HT0.out HZ2.out
 have hz1:¬(9223372036854775807<1+b.name.size):=by
  have:(headP wFacts b).length=b.name.size+10:=by simp [headP,wFacts]
  omega
 have ea:(⟨#[64]⟩:ByteArray) ++ b.name=⟨(64 :: bl b.name).toArray⟩:=(ba_app' _ _).trans (by simp [bl])
 have HL0:Hid (∀bk,RowT (W4.alloc (.cells #[tx wFacts,tx (64 :: bl b.name),tx [123]] 9)) bk [wFacts,64 :: bl b.name,[123]]->Calls Tryz.prog 28 #[.pointer (some ⟨g,0,none⟩),.slice (some ⟨bk,0,none⟩) 3 3] (W4.alloc (.cells #[tx wFacts,tx (64 :: bl b.name),tx [123]] 9)) fun e' w'=>e' = .returned (.tuple #[])/\PF w w.heap.size g b ⟨A1,c1,A2,c2,A3,c3,A4,c4,A5,c5⟩ f ⟨B0,d0,B1,d1,B2,d2,B3,d3,B4,d4⟩ (headP wFacts b) 1 w'):=aF (fun bk hr=>by
  have hbw:=(aX W4.heap.size W4).alloc (aY _) (.cells #[tx wFacts,tx (64 :: bl b.name),tx [123]] 9)
  have h:=jR (HP0.out.keep hbw).P.L [wFacts,64 :: bl b.name,[123]] (wFacts ++ [32,64] ++ bl b.name ++ [32]) bk hr (by rw [join3];simp) (by decide) (by simp) (by
   have:(headP wFacts b).length=(bl b.name).length+10:=by simp [headP,wFacts]
   have h5:wFacts.length=5:=rfl
   simp only [bB,bK,bP];omega)
  refine h.mono ?_;rintro e' w' ⟨rfl,hl,hf⟩
  refine ⟨rfl,(HP0.out.keep hbw).fr (by
   have e:headP wFacts b=[] ++ (ind 0 ++ (wFacts ++ [32,64] ++ bl b.name ++ [32] ++ [123,10])):=by
    rw [show ind 0=[] from rfl];simp [headP]
   rw [e];exact hl) hf⟩)
 have hc0:=HP0.out.cells;have u0:=hc0.1 0 _ rfl;have up:=hc0.2.2;clear hzl P0 hc0 hX hZ hS HB1 HB2;go_upto_block 0 with (go_at_call 28;refine (HL0.out _ (dJ W4 [wFacts,64 :: bl b.name,[123]])).mono ?_;rintro e' w5 ⟨rfl,hp2⟩;have HP:=aF hp2;have hz2:=hp2.cells.2.1 0 _ rfl;clear hp2)
 go_cut [] (fun wx=>∃bs,printF b f=bs ++ sR2 b f/\PF w w.heap.size g b ⟨A1,c1,A2,c2,A3,c3,A4,c4,A5,c5⟩ f ⟨B0,d0,B1,d1,B2,d2,B3,d3,B4,d4⟩ bs 1 wx/\∀l∈f.loans,canP b.locals.length l)
 case first=>
  have HT0':Hid (∀l∈f.loans.take 0,canP b.locals.length l):=aF (by simp);clear HL0 hz2;go_wp2_with fail
  go_loopw [37] (fun i wr=>∃(k:Nat) (bs:List UInt8),i = .int .i64 k/\k<=f.loans.length/\Hid (printF b f=bs ++ sR1 b f k)/\Hid (PF w w.heap.size g b ⟨A1,c1,A2,c2,A3,c3,A4,c4,A5,c5⟩ f ⟨B0,d0,B1,d1,B2,d2,B3,d3,B4,d4⟩ bs 1 wr)/\Hid (∀l∈f.loans.take k,canP b.locals.length l)) (fun i _=>f.loans.length - (intOf i).toNat)
  case atStart=>exact ⟨0,_,rfl,Nat.zero_le _,HT0,HP,HT0'⟩
  case round=>
   clear HT0 HP HT0';obtain ⟨k,bs,rfl,hk,HT,HP,HCP⟩:=hrel;by_cases hlt:k<f.loans.length
   case neg=>
    have HE:=aF (xL (b:=b) (f:=f) (k:=k) (by omega));have HCA:Hid (∀l∈f.loans,canP b.locals.length l):=aF (by have h:=HCP.out;rwa [List.take_of_length_le (by omega)] at h);go_wp2_with fail
    go_meet;exact ⟨bs,by rw [HT.out,HE.out],HP.out,HCA.out⟩
   case pos=>
   obtain ⟨bb,oo,rfl,hbb,hx⟩:=(HG.out.ln.keep RLn.keeps HP.out.P.L.low).sl.at_ hlt;have HTN:=aF (HT.out.trans (by rw [uR hlt]));have HO:=aF (HOF.out.ln _ (bN hlt));have HFP:=aF (HFF.out.pt _ (bN hlt));have HFJ:=aF (HFF.out.pj _ (bN hlt));have HBAD:Hid (¬canP b.locals.length f.loans[k]->R=([],16)):=aF (fun h=>HRE.out.trans (mU (fun ho=>h (HOKF.out.1 ho _ (bN hlt)))))
   have HCN2:Hid (canP b.locals.length f.loans[k]->∀l∈f.loans.take (k+1),canP b.locals.length l):=aF (fun h l hl=>by
    rw [bF hlt] at hl;rcases List.mem_append.1 hl with hl | hl
    ·exact HCP.out l hl
    ·rw [List.mem_singleton.1 hl];exact h)
   obtain ⟨x,hxe⟩:∃x,f.loans[k]=x:=⟨_,rfl⟩;rw [hxe] at HTN HO HFP HFJ HBAD HCN2 hx;obtain ⟨g0,g1,g2,g3,PA,pc,g4,p1,p2,p3⟩:=hx;have HSP:Hid (Slc 2 RPj wr PA pc x.place.proj):=aF ⟨p3,p1,p2⟩;have HCB:=aF (wA b.locals.length x);obtain ⟨xr,xp,xm,xl,xj⟩:=x;simp only at g0 g1 g2 g3 g4 p1 HSP HFP HFJ HCB;obtain ⟨WN,hWN⟩:∃W,wr.alloc (.cells ([Value.int .i64 xr,.int .i64 xp,.bool xm,.int .i64 xl,.slice PA xj.length pc]).toArray 95)=W:=⟨_,rfl⟩;have hbn:Below wr.heap.size wr WN:=by rw [<- hWN];exact (aX _ _).alloc (aY _) _
   have hnew:=cP wr [Value.int .i64 xr,.int .i64 xp,.bool xm,.int .i64 xl,.slice PA xj.length pc] 95;rw [hWN] at hnew;have HNW:=aF hnew;obtain ⟨n0,n1,n2,n3,n4⟩:=aQ hnew;have HPN:=aF (HP.out.keep hbn);have hX:=HPN.out.cells.1;obtain ⟨y0,y1,y2,y3,y4,y5,y6⟩:=aS hX;have HPB:=aF (jN b ⟨A1,c1,A2,c2,A3,c3,A4,c4,A5,c5⟩ ⟨xl,xj⟩ PA pc WN (by omega) (HSP.out.keep RPj.keeps hbn));have HSN:=aF (HSP.out.keep RPj.keeps hbn);clear hxe p1 p3 hX hbn hnew HT HP HSP;by_cases hcan:canP b.locals.length ⟨xr,xp,xm,⟨xl,xj⟩⟩
   case neg=>
    have ecb:canB b.locals.length ⟨xl,xj⟩=false:=by
     cases e:canB b.locals.length ⟨xl,xj⟩
     ·rfl
     ·exact absurd (HCB.out.1 e) hcan
    have HR:=aF (HBAD.out hcan);rw [ecb] at HPB;clear HBAD HCN2 hcan HCB HOKF;go_wp2_with (go_at_call 45;refine HPB.out.mono ?_;rintro e' w6 ⟨rfl,hw6⟩)
    go_ret2
    exact ⟨by rw [HR.out];rfl,HPN.out.P.L.low.trans (hw6.mono HPN.out.P.L.low.size)⟩
   case pos=>
   have ecb:canB b.locals.length ⟨xl,xj⟩=true:=HCB.out.2 hcan;rw [ecb] at HPB;have HCP2:=aF (HCN2.out hcan);have HLC:=aF hcan.1;clear HBAD HCN2 HCB HCP hcan;obtain ⟨T1,hT1⟩:∃T,placeP b.locals ⟨xl,xj⟩=T:=⟨_,rfl⟩;obtain ⟨T2,hT2⟩:∃T,39 :: (rgP b.regions xr ++ [32] ++ mutP xm ++ T1)=T:=⟨_,rfl⟩;obtain ⟨i1,hi1⟩:∃i,Lib.itoa xp=i:=⟨_,rfl⟩;have hrf:refP b.regions xr xm T1=38 :: T2:=by rw [<- hT2];unfold refP mutP;simp
   have HTX:Hid (printF b f=(bs ++ (ind 1 ++ (([108,111,97,110,32] ++ T2 ++ [32,97,116,32] ++ i1) ++ [59,10]))) ++ sR1 b f (k+1)):=aF (by rw [HTN.out,oH,lnP,hT1,<- hT2,hi1,ind1,semP];simp);have hzl:=eG HTX.out HZ2.out;simp only [bB,bK,bP,ind1] at hzl;have hT2l:T1.length<=T2.length:=by rw [<- hT2];simp only [bB,bK,bP];omega
   have hz2:¬(9223372036854775807<i1.length+1):=by omega
   have hz3:bs.length+T2.length+i1.length+300<=140737488355328:=by omega
   have HCTX:=aF (fun (W:World) (P:PF w w.heap.size g b ⟨A1,c1,A2,c2,A3,c3,A4,c4,A5,c5⟩ f ⟨some ⟨bb,oo,none⟩,d0,B1,d1,B2,d2,B3,d3,B4,d4⟩ bs 1 W)=>P.P.L.ctx)
   have HPLC:Hid (∀W,Below WN.heap.size WN W->PF w w.heap.size g b ⟨A1,c1,A2,c2,A3,c3,A4,c4,A5,c5⟩ f ⟨some ⟨bb,oo,none⟩,d0,B1,d1,B2,d2,B3,d3,B4,d4⟩ bs 1 W->Calls Tryz.prog 48 #[.pointer (some ⟨g,0,none⟩),.agg #[.int .i64 xl,.slice PA xj.length pc]] W fun e' w'=>e' = .returned (tx T1)/\Below W.heap.size W w'):=aF (fun W hb P=>by
    rw [<- hT1];have C:=P.P.L.ctx
    exact eN b.locals g A4 c4 ⟨xl,xj⟩ PA pc W C.locs C.at_.loc (HSN.out.keep RPj.keeps hb) ⟨(jW HO.out.2.2.2).1,HLC.out⟩ HFJ.out (by rw [hT1];show T1.length<=_;omega) C.pow)
   have HRF:Hid (∀W,PF w w.heap.size g b ⟨A1,c1,A2,c2,A3,c3,A4,c4,A5,c5⟩ f ⟨some ⟨bb,oo,none⟩,d0,B1,d1,B2,d2,B3,d3,B4,d4⟩ bs 1 W->Calls Tryz.prog 47 #[.pointer (some ⟨g,0,none⟩),.int .i64 xr,.bool xm,tx T1] W fun e' w'=>e' = .returned (tx (38 :: T2))/\w'=W):=aF (fun W P=>by
    rw [<- hrf]
    exact jO P.P.L.ctx xr xm T1 HO.out.1 (by rw [hrf];show (38 :: T2).length<=_;rw [bK];omega))
   have HTP:Hid (∀W,Calls Tryz.prog 46 #[tx (38 :: T2),.string ⟨#[38]⟩] W fun e' w'=>e' = .returned (tx T2)/\w'=W):=aF (fun W=>by
    have h:=Tryz.strings_TrimPrefix ⟨(38 :: T2).toArray⟩ ⟨#[38]⟩ W;rw [show Lib.trimPrefix (⟨(38 :: T2).toArray⟩:ByteArray).data.toList (⟨#[38]⟩:ByteArray).data.toList=T2 from uA T2] at h
    exact h)
   have HIX:Hid (∀W,PF w w.heap.size g b ⟨A1,c1,A2,c2,A3,c3,A4,c4,A5,c5⟩ f ⟨some ⟨bb,oo,none⟩,d0,B1,d1,B2,d2,B3,d3,B4,d4⟩ bs 1 W->Calls Tryz.prog 34 #[.string ⟨#[]⟩,.int .i64 xp] W fun e' w'=>e' = .returned (tx i1)/\Below W.heap.size W w'):=aF (fun W P=>by rw [<- hi1];exact fF xp HFP.out W P.P.L.ctx.pow);clear hzl hT1 hT2 hi1 hrf hT2l HTN HO HFP HFJ HCTX;go_wp2_with (go_at_call 45;refine HPB.out.mono ?_;rintro e' w6 ⟨rfl,hw6⟩)
   have HP6:=aF (HPN.out.keep hw6.drew);have hS:w6.drew.cell? ⟨g+1,0,none⟩=some (.pointer (some ⟨g,0,none⟩))/\(aA [Value.int .i64 xr,.int .i64 xp,.bool xm,.int .i64 xl,.slice PA xj.length pc] w6.drew wr.heap.size):=⟨HP6.out.cells.2.2,fun i v h=>cJ hw6.drew (HNW.out i v h)⟩;refine dH (S:=fun X=>X.cell? ⟨g+1,0,none⟩=some (.pointer (some ⟨g,0,none⟩))/\(aA [Value.int .i64 xr,.int .i64 xp,.bool xm,.int .i64 xl,.slice PA xj.length pc] X wr.heap.size)) 17 [0,1,2,3,4,5,6,7,8,12,13,9,10,11,14,15,16,17] (by kernel_rfl) ?_;(iterate 11 (refine dS (v:=?_) (by kernel_rfl) (fun _ _ _ h=>h) (Or.inl ⟨by rfl,?_⟩) hS ?_;rotate_left;(next=>(rintro X ⟨hQ,hE⟩;have e0:=hE 0 _ rfl;have e1:=hE 1 _ rfl;have e2:=hE 2 _ rfl;have e3:=hE 3 _ rfl;have e4:=hE 4 _ rfl;(try simp only [aI]);go_simp;rfl));simp only [aM]));(refine cM (fun K1 hK1=>?_);simp only [aM];rw [bA (by rfl)];go_simp);refine (HPLC.out _ hw6.drew HP6.out).mono ?_;rintro e' w7 ⟨rfl,hw7⟩;have hS7:=bJ (cJ hw7 hS.1) (fun i v h=>cJ hw7 (hS.2 i v h));have HP7:=aF (HP6.out.keep hw7);refine hK1.out _ _ (fun _=>hS7) ?_;clear hK1 hw7 hS HP6;(refine cM (fun K1 hK1=>?_);simp only [aM];rw [bA (by rfl)];go_simp);refine (HRF.out _ HP7.out).mono ?_;rintro e' w8 ⟨rfl,hw8⟩;obtain rfl:=hw8.symm;refine hK1.out _ _ (fun _=>hS7) ?_;clear hK1;(refine cM (fun K1 hK1=>?_);simp only [aM];rw [bA (by rfl)];go_simp);refine (HTP.out _).mono ?_;rintro e' w8 ⟨rfl,hw8⟩;obtain rfl:=hw8.symm;refine hK1.out _ _ (fun _=>hS7) ?_;clear hK1;(refine cM (fun K1 hK1=>?_);simp only [aM];rw [bA (by rfl)];go_simp);refine (HIX.out _ HP7.out).mono ?_;rintro e' w8 ⟨rfl,hw8⟩;have hS:=bJ (cJ hw8 hS7.1) (fun i v h=>cJ hw8 (hS7.2 i v h));have HP8:=aF (HP7.out.keep hw8);refine hK1.out _ _ (fun _=>hS) ?_;clear hK1 hw8 hS7 HP7;refine dS (v:=tx (i1 ++ [59])) (by kernel_rfl) (fun _ _ _ h=>h) (Or.inl ⟨by rfl,?_⟩) hS ?_
   ·rintro X hX;(try simp only [aI]);go_simp;exact (ba_app' _ _).trans (by simp [bl])
   (simp only [aM]);(refine cM (fun K1 hK1=>?_);simp only [aM];rw [bA (by rfl)];go_simp);have hbw:=(aX w8.heap.size w8).alloc (aY _) (.cells #[tx [108,111,97,110],tx T2,tx [97,116],tx (i1 ++ [59])] 9);have HPR:=aF (HP8.out.keep hbw);have hS9:=bJ (cJ hbw hS.1) (fun i v h=>cJ hbw (hS.2 i v h));refine hK1.out _ _ (fun _=>hS9) ?_;clear hK1 hbw;(refine cM (fun K1 hK1=>?_);simp only [aM];rw [bA (by rfl)];go_simp);refine (dN HPR.out.P.L [[108,111,97,110],T2,[97,116],i1 ++ [59]] ([108,111,97,110,32] ++ T2 ++ [32,97,116,32] ++ i1) _ (dJ w8 [[108,111,97,110],T2,[97,116],i1 ++ [59]]) (by rw [join4];simp) (by decide) (by simp) (by simp only [bB,bK,bP];omega)).mono ?_;rintro e' w9 ⟨rfl,hl9,hf9⟩;have HP9:=aF (HPR.out.fr hl9 hf9);refine hK1.out _ _ (fun h=>absurd h (by decide)) ?_;refine cV ?_;clear hl9 hf9 hK1;go_wp2_with fail
   go_roundw
   case rel=>exact ⟨k+1,_,by go_num,by omega,HTX,HP9,HCP2⟩
   case measure=>simp [intOf];omega
 case rest=>
 obtain ⟨bs,hT1,hP1,hcan⟩:=hcut;have HT:=aF hT1;have HP:=aF hP1;have HR:=aF (HRE.out.trans (wO (HOKF.out.2 hcan)));clear hT1 hP1 hcan HL0 HT0 HP0 HOKF hz2
 have H1:Hid (∀W,PF w w.heap.size g b ⟨A1,c1,A2,c2,A3,c3,A4,c4,A5,c5⟩ f ⟨B0,d0,B1,d1,B2,d2,B3,d3,B4,d4⟩ (bs) 1 W->Calls Tryz.prog 49 #[tx wEdge,.slice B1 f.edges.length d1,.pointer (some ⟨g+1,0,none⟩)] W fun e' w'=>e' = .returned (.tuple #[])/\PF w w.heap.size g b ⟨A1,c1,A2,c2,A3,c3,A4,c4,A5,c5⟩ f ⟨B0,d0,B1,d1,B2,d2,B3,d3,B4,d4⟩ (bs ++ f.edges.flatMap (prLine wEdge)) 1 w'):=aF (fun W P=>by
  have hT:printF b f=(bs ++ f.edges.flatMap (prLine wEdge)) ++ sR3 b f:=by rw [HT.out];simp only [sR2,sR3,sR4,bM]
  have hzl:=eG hT HZ2.out;rw [bB] at hzl;refine (gF wEdge (by decide) f.edges B1 d1 P.P.L P.P.pc (by omega) HG.out.ed HFF.out.ed (by omega)).mono ?_;rintro e' w' ⟨rfl,hl,hf⟩
  exact ⟨rfl,P.fr hl hf⟩)
 have H2:Hid (∀W,PF w w.heap.size g b ⟨A1,c1,A2,c2,A3,c3,A4,c4,A5,c5⟩ f ⟨B0,d0,B1,d1,B2,d2,B3,d3,B4,d4⟩ (bs ++ f.edges.flatMap (prLine wEdge)) 1 W->Calls Tryz.prog 49 #[tx wKill,.slice B2 f.killed.length d2,.pointer (some ⟨g+1,0,none⟩)] W fun e' w'=>e' = .returned (.tuple #[])/\PF w w.heap.size g b ⟨A1,c1,A2,c2,A3,c3,A4,c4,A5,c5⟩ f ⟨B0,d0,B1,d1,B2,d2,B3,d3,B4,d4⟩ (bs ++ f.edges.flatMap (prLine wEdge) ++ f.killed.flatMap (prLine wKill)) 1 w'):=aF (fun W P=>by
  have hT:printF b f=(bs ++ f.edges.flatMap (prLine wEdge) ++ f.killed.flatMap (prLine wKill)) ++ sR4 b f:=by rw [HT.out];simp only [sR2,sR3,sR4,bM]
  have hzl:=eG hT HZ2.out;rw [bB] at hzl;refine (gF wKill (by decide) f.killed B2 d2 P.P.L P.P.pc (by omega) HG.out.ki HFF.out.ki (by omega)).mono ?_;rintro e' w' ⟨rfl,hl,hf⟩
  exact ⟨rfl,P.fr hl hf⟩)
 have H3:Hid (∀W,PF w w.heap.size g b ⟨A1,c1,A2,c2,A3,c3,A4,c4,A5,c5⟩ f ⟨B0,d0,B1,d1,B2,d2,B3,d3,B4,d4⟩ (bs ++ f.edges.flatMap (prLine wEdge) ++ f.killed.flatMap (prLine wKill)) 1 W->Calls Tryz.prog 49 #[tx wInv,.slice B3 f.inval.length d3,.pointer (some ⟨g+1,0,none⟩)] W fun e' w'=>e' = .returned (.tuple #[])/\PF w w.heap.size g b ⟨A1,c1,A2,c2,A3,c3,A4,c4,A5,c5⟩ f ⟨B0,d0,B1,d1,B2,d2,B3,d3,B4,d4⟩ (bs ++ f.edges.flatMap (prLine wEdge) ++ f.killed.flatMap (prLine wKill) ++ f.inval.flatMap (prLine wInv)) 1 w'):=aF (fun W P=>by
  have hT:printF b f=(bs ++ f.edges.flatMap (prLine wEdge) ++ f.killed.flatMap (prLine wKill) ++ f.inval.flatMap (prLine wInv)) ++ sR5 b f 0:=by rw [HT.out];simp only [sR2,sR3,sR4,bM]
  have hzl:=eG hT HZ2.out;rw [bB] at hzl;refine (gF wInv (by decide) f.inval B3 d3 P.P.L P.P.pc (by omega) HG.out.iv HFF.out.iv (by omega)).mono ?_;rintro e' w' ⟨rfl,hl,hf⟩
  exact ⟨rfl,P.fr hl hf⟩)
 have HT3:Hid (printF b f=(bs ++ f.edges.flatMap (prLine wEdge) ++ f.killed.flatMap (prLine wKill) ++ f.inval.flatMap (prLine wInv)) ++ sR5 b f 0):=aF (by rw [HT.out];simp only [sR2,sR3,sR4,bM]);have hcc:=HP.out.cells;have z1:=hcc.2.1 1 _ rfl;clear hcc
 go_upto_block 2 with (go_at_call 49;first
  | (refine (H1.out _ HP.out).mono ?_;rintro e' w10 ⟨rfl,hp⟩;have HPa:=aF hp;have z2:=hp.cells.2.1 2 _ rfl;clear hp)
  | (refine (H2.out _ HPa.out).mono ?_;rintro e' w11 ⟨rfl,hp⟩;have HPb:=aF hp;have z3:=hp.cells.2.1 3 _ rfl;clear hp)
  | (refine (H3.out _ HPb.out).mono ?_;rintro e' w12 ⟨rfl,hp⟩;have HPc:=aF hp;have z4:=hp.cells.2.1 4 _ rfl;clear hp))
 obtain ⟨bs3,hbs3⟩:∃B,bs ++ f.edges.flatMap (prLine wEdge) ++ f.killed.flatMap (prLine wKill) ++ f.inval.flatMap (prLine wInv)=B:=⟨_,rfl⟩;rw [hbs3] at HT3 HPc;clear HT HP H1 H2 H3 HPa HPb hbs3 z1 z2 z3;go_cut [] (fun wx=>∃bs,printF b f=bs ++ [125,10]/\PF w w.heap.size g b ⟨A1,c1,A2,c2,A3,c3,A4,c4,A5,c5⟩ f ⟨B0,d0,B1,d1,B2,d2,B3,d3,B4,d4⟩ bs 1 wx)
 case first=>
  go_wp2_with fail
  go_loopw [81] (fun i wr=>∃(k:Nat) (bs:List UInt8),i = .int .i64 k/\k<=f.live.length/\Hid (printF b f=bs ++ sR5 b f k)/\Hid (PF w w.heap.size g b ⟨A1,c1,A2,c2,A3,c3,A4,c4,A5,c5⟩ f ⟨B0,d0,B1,d1,B2,d2,B3,d3,B4,d4⟩ bs 1 wr)) (fun i _=>f.live.length - (intOf i).toNat)
  case atStart=>exact ⟨0,_,rfl,Nat.zero_le _,HT3,HPc⟩
  case round=>
   clear HT3 HPc z4;obtain ⟨k,bs,rfl,hk,HT,HP⟩:=hrel;by_cases hlt:k<f.live.length
   case neg=>
    have HE:=aF (xK (b:=b) (f:=f) (k:=k) (by omega));go_wp2_with fail
    go_meet;exact ⟨bs,by rw [HT.out,HE.out],HP.out⟩
   case pos=>
   obtain ⟨bb,oo,rfl,hbb,hx⟩:=(HG.out.li.keep RPr.keeps HP.out.P.L.low).sl.at_ hlt;have HTN:=aF (HT.out.trans (by rw [uQ hlt]));have HO:=aF (HOF.out.li _ (bN hlt));have HFL:=aF (HFF.out.li _ (bN hlt));generalize f.live[k]=x at *;obtain ⟨x1,x2⟩:=x;obtain ⟨y0,y1⟩:=hx;simp only at y0 y1 HO HFL;obtain ⟨WN,hWN⟩:∃W,wr.alloc (.cells #[.int .i64 x1,.int .i64 x2] 77)=W:=⟨_,rfl⟩;have hbn:Below wr.heap.size wr WN:=by rw [<- hWN];exact (aX _ _).alloc (aY _) _
   obtain ⟨n0,n1⟩:=nM wr (.int .i64 x1) (.int .i64 x2) 77;rw [hWN] at n0 n1;have HPN:=aF (HP.out.keep hbn.drew);have yq:=HP.out.cells.2.2;have hS:WN.drew.cell? ⟨g+1,0,none⟩=some (.pointer (some ⟨g,0,none⟩))/\WN.drew.cell? ⟨wr.heap.size,0,none⟩=some (.int .i64 x1)/\WN.drew.cell? ⟨wr.heap.size,1,none⟩=some (.int .i64 x2):=⟨HPN.out.cells.2.2,n0,n1⟩;obtain ⟨T2,hT2⟩:∃T,39 :: rgP b.regions x1=T:=⟨_,rfl⟩;obtain ⟨i1,hi1⟩:∃i,Lib.itoa x2=i:=⟨_,rfl⟩;have HTX:Hid (printF b f=(bs ++ (ind 1 ++ (([108,105,118,101,32] ++ T2 ++ [32] ++ i1) ++ [59,10]))) ++ sR5 b f (k+1)):=aF (by rw [HTN.out,oE,lvP,<- hT2,ind1,semP];simp only;rw [hi1];simp);have hzl:=eG HTX.out HZ2.out;simp only [bB,bK,bP,ind1] at hzl;have hz2:¬(9223372036854775807<i1.length+1):=by omega
   have hz3:bs.length+T2.length+i1.length+300<=140737488355328:=by omega
   have HRG:Hid (∀W,PF w w.heap.size g b ⟨A1,c1,A2,c2,A3,c3,A4,c4,A5,c5⟩ f ⟨B0,d0,B1,d1,B2,d2,B3,d3,some ⟨bb,oo,none⟩,d4⟩ bs 1 W->Calls Tryz.prog 33 #[.pointer (some ⟨g,0,none⟩),.int .i64 x1] W fun e' w'=>e' = .returned (tx T2)/\w'=W):=aF (fun W P=>by
    rw [<- hT2];have C:=P.P.L.ctx;have hl:(rgP b.regions x1).length<=T2.length:=by rw [<- hT2];simp
    exact fE b.regions g A1 c1 x1 W C.regs C.at_.reg ⟨HO.out.1,HO.out.2.1⟩ (by show (rgP b.regions x1).length<=_;omega))
   have HIX:Hid (∀W,PF w w.heap.size g b ⟨A1,c1,A2,c2,A3,c3,A4,c4,A5,c5⟩ f ⟨B0,d0,B1,d1,B2,d2,B3,d3,some ⟨bb,oo,none⟩,d4⟩ bs 1 W->Calls Tryz.prog 34 #[.string ⟨#[]⟩,.int .i64 x2] W fun e' w'=>e' = .returned (tx i1)/\Below W.heap.size W w'):=aF (fun W P=>by rw [<- hi1];exact fF x2 HFL.out.2 W P.P.L.ctx.pow);clear hzl hT2 hi1 HTN HO HFL HT HP hbn yq;go_wp2_with fail
   clear n0 n1;refine dH (S:=fun X=>X.cell? ⟨g+1,0,none⟩=some (.pointer (some ⟨g,0,none⟩))/\X.cell? ⟨wr.heap.size,0,none⟩=some (.int .i64 x1)/\X.cell? ⟨wr.heap.size,1,none⟩=some (.int .i64 x2)) 10 [0,1,2,3,5,6,4,7,8,9,10] (by kernel_rfl) ?_;(iterate 6 (refine dS (v:=?_) (by kernel_rfl) (fun _ _ _ h=>h) (Or.inl ⟨by rfl,?_⟩) hS ?_;rotate_left;(next=>(rintro X ⟨s1,s2,s3⟩;(try simp only [aI]);go_simp;rfl));simp only [aM]));(refine cM (fun K1 hK1=>?_);simp only [aM];rw [bA (by rfl)];go_simp);refine (HRG.out _ HPN.out).mono ?_;rintro e' w3 ⟨rfl,hw3⟩;obtain rfl:=hw3.symm;refine hK1.out _ _ (fun _=>hS) ?_;clear hK1;(refine cM (fun K1 hK1=>?_);simp only [aM];rw [bA (by rfl)];go_simp);refine (HIX.out _ HPN.out).mono ?_;rintro e' w8 ⟨rfl,hw8⟩;replace hS:=bJ (cJ hw8 hS.1) (bJ (cJ hw8 hS.2.1) (cJ hw8 hS.2.2));have HP8:=aF (HPN.out.keep hw8);refine hK1.out _ _ (fun _=>hS) ?_;clear hK1 hw8;refine dS (v:=tx (i1 ++ [59])) (by kernel_rfl) (fun _ _ _ h=>h) (Or.inl ⟨by rfl,?_⟩) hS ?_
   ·rintro X hX;(try simp only [aI]);go_simp;exact (ba_app' _ _).trans (by simp [bl])
   (simp only [aM]);(refine cM (fun K1 hK1=>?_);simp only [aM];rw [bA (by rfl)];go_simp);have hbw:=(aX w8.heap.size w8).alloc (aY _) (.cells #[tx [108,105,118,101],tx T2,tx (i1 ++ [59])] 9);have HPR:=aF (HP8.out.keep hbw);have hS9:=bJ (cJ hbw hS.1) (bJ (cJ hbw hS.2.1) (cJ hbw hS.2.2));refine hK1.out _ _ (fun _=>hS9) ?_;clear hK1 hbw;(refine cM (fun K1 hK1=>?_);simp only [aM];rw [bA (by rfl)];go_simp);refine (dN HPR.out.P.L [[108,105,118,101],T2,i1 ++ [59]] ([108,105,118,101,32] ++ T2 ++ [32] ++ i1) _ (dJ w8 [[108,105,118,101],T2,i1 ++ [59]]) (by rw [join3];simp) (by decide) (by simp) (by simp only [bB,bK,bP];omega)).mono ?_;rintro e' w9 ⟨rfl,hl9,hf9⟩;have HP9:=aF (HPR.out.fr hl9 hf9);refine hK1.out _ _ (fun h=>absurd h (by decide)) ?_;refine cV ?_;clear hl9 hf9 hK1;go_wp2_with fail
   go_roundw
   case rel=>exact ⟨k+1,_,by go_num,by omega,HTX,HP9⟩
   case measure=>simp [intOf];omega
 case rest=>
 obtain ⟨bs7,hT1,hP1⟩:=hcut;clear HT3 HPc z4;have HT:=aF hT1;have HP:=aF hP1;have hzl:=eG hT1 HZ2.out;have yp:=hP1.cells.2.2;clear hT1 hP1;have HCL:=aF (iI (HP.out.keep ((aX wc.heap.size wc).alloc (aY _) (.cells #[tx [125]] 9))).P.L _ (dJ wc [[125]]) (by decide) (by omega));have HSTR:=aF (fun (W:World) (P:PF w w.heap.size g b ⟨A1,c1,A2,c2,A3,c3,A4,c4,A5,c5⟩ f ⟨B0,d0,B1,d1,B2,d2,B3,d3,B4,d4⟩ (bs7 ++ (ind 0 ++ [125,10])) 0 W)=>nN (g+2) g b ⟨A1,c1,A2,c2,A3,c3,A4,c4,A5,c5⟩ (bs7 ++ (ind 0 ++ [125,10])) (0:Nat) W P.P.L.st (by simp));have HTZ:Hid (printF b f=bs7 ++ (ind 0 ++ [125,10])):=aF HT.out;clear hzl
 go_wp2_with (first
  | (go_at_call 28;refine HCL.out.mono ?_;rintro e' w8 ⟨rfl,hl8,hf8⟩;have HP8:=aF ((HP.out.keep ((aX wc.heap.size wc).alloc (aY _) (.cells #[tx [125]] 9))).fr hl8 hf8);have yp8:=HP8.out.cells.2.2;clear hl8 hf8)
  | (go_at_call 38;refine (HSTR.out _ HP8.out).mono ?_;rintro e' w9 ⟨rfl,hb9⟩;have HB9:=aF (HP8.out.P.L.low.trans (hb9.below HP8.out.P.L.hg HP8.out.P.L.st.lt));clear hb9))
 refine bodyPost_ret (v:= .tuple #[tx (bs7 ++ (ind 0 ++ [125,10])),.int .i64 0]) (by simp [results,Tryz.results13,go_sem] <;> rfl) rfl ⟨by rw [HR.out,HTZ.out],HB9.out⟩
end
section
open Go Go.RowKit
attribute [local irreducible] Calls
def exP:Bdy:=⟨⟨#[102]⟩,[],[],[],[],0,[⟨[],⟨2,[],[],⟨0,[]⟩,⟨#[]⟩⟩⟩]⟩
def exN:Bdy:=⟨⟨#[]⟩,[],[],[],[],0,[]⟩
def exF:Fct:=⟨[],[],[],[],[]⟩
def bh0:BH:=⟨none,0,none,0,none,0,none,0,none,0⟩
def fh0:FH:=⟨none,0,none,0,none,0,none,0,none,0⟩
def exPT:List UInt8:=[98,111,100,121,32,64,102,32,123,10,32,32,94,48,58,32,123,10,32,32,32,32,114,101,116,117,114,110,59,10,32,32,125,10,125,10]
def exFT:List UInt8:=[102,97,99,116,115,32,64,102,32,123,10,125,10]
theorem sU:chkB exP=0:=by decide
theorem sV:¬chkB exN=0:=by decide
theorem sJ:Lib.itoa 0=[48]:=by
 rw [vK (by omega)];exact oO (by decide)
theorem sS:printP exP=exPT:=by
 have h:Lib.itoa ((0:Nat):Int)=[48]:=sJ;simp [printP,exP,headP,regsP,outsP,numP,lZ,idxP,termP,semP,exPT,bl,sJ]
theorem yN:fctE exF (cntP exP.blocks) exP.regions.length=0:=by decide
theorem exF_txt:printF exP exF=exFT:=by
 simp [printF,exP,exF,headP,wFacts,exFT,bl]
theorem yL:pfR exP exF=(exFT,0):=by
 rw [wO ⟨sU,yN,fun l hl=>(by cases hl)⟩,exF_txt]
theorem yK:plR exP ⟨0,[]⟩=([],3):=by decide
theorem yI:FitB exP:=⟨fun t ht=>(by cases ht),fun t ht=>(by cases ht),fun x hx s hs=>(by rw [List.mem_singleton.1 hx] at hs;cases hs),fun x hx=>(by
 rw [List.mem_singleton.1 hx];exact ⟨fun x hx=>(by cases hx),fun x hx=>(by cases hx),fun x hx=>(by cases hx)⟩)⟩
theorem yJ:FitB exN:=⟨fun t ht=>(by cases ht),fun t ht=>(by cases ht),fun x hx=>(by cases hx),fun x hx=>(by cases hx)⟩
theorem zT (w:World):BdAt w exN bh0:=⟨⟨Sl.nil,aY _,by decide⟩,⟨Sl.nil,aY _,by decide⟩,⟨Sl.nil,aY _,by decide⟩,⟨Sl.nil,aY _,by decide⟩,⟨Sl.nil,aY _,by decide⟩⟩
theorem zU (w:World):FcAt w exF fh0:=⟨⟨Sl.nil,aY _,by decide⟩,⟨Sl.nil,aY _,by decide⟩,⟨Sl.nil,aY _,by decide⟩,⟨Sl.nil,aY _,by decide⟩,⟨Sl.nil,aY _,by decide⟩⟩
theorem yM:FitF exF:=⟨fun l h=>(by cases h),fun l h=>(by cases h),fun l h=>(by cases h),fun l h=>(by cases h),fun l h=>(by cases h),fun l h=>(by cases h)⟩
def exBk:List Value:=[.slice none 0 0,.int .i64 2,.slice none 0 0,.slice none 0 0,.int .i64 0,.slice none 0 0,.string ⟨#[]⟩]
theorem jL {α : Type} {k:Nat} {R:Rd α} {w:World} {B b o:Nat} (h:w.cell? ⟨b,o,none⟩=some (.slice none 0 0)):RSl k R w B b o ([]:List α):=⟨none,0,h,aY _,by decide,Sl.nil⟩
theorem zS (w:World):BdAt (w.alloc (.cells exBk.toArray 64)) exP { bh0 with A5:=some ⟨w.heap.size,0,none⟩,c5:=1 }:=by
 have hc:=cP w exBk 64;refine ⟨⟨Sl.nil,aY _,Nat.le_of_ble_eq_true rfl⟩,⟨Sl.nil,aY _,Nat.le_of_ble_eq_true rfl⟩,⟨Sl.nil,aY _,Nat.le_of_ble_eq_true rfl⟩,⟨Sl.nil,aY _,Nat.le_of_ble_eq_true rfl⟩,⟨fun _=>⟨w.heap.size,0,rfl,by simp,fun i x hi=>?_⟩,aY _,Nat.le_of_ble_eq_true rfl⟩⟩
 have hi0:i=0:=by
  have:=(List.getElem?_eq_some_iff.1 hi).1;have hl:exP.blocks.length=1:=rfl;omega
 subst hi0;obtain rfl:=Option.some.inj hi;exact ⟨jL (hc 0 _ rfl),hc 1 _ rfl,jL (hc 2 _ rfl),jL (hc 3 _ rfl),⟨hc 4 _ rfl,jL (hc 5 _ rfl)⟩,hc 6 _ rfl⟩
theorem nJ (w:World) (hT:TabsOk w) (hpow:PowTab w) (hsp:SpTab w):Calls Tryz.prog 9 #[] w fun e' w'=>e' = .returned (.bool true)/\Below w.heap.size w w':=by
 obtain ⟨W1,hW1⟩:∃W,w.alloc (.cells exBk.toArray 64)=W:=⟨_,rfl⟩;have hb1:Below w.heap.size w W1:=by rw [<- hW1];exact (aX _ _).alloc (aY _) _
 have hat:=zS w;rw [hW1] at hat;obtain ⟨W2,hW2⟩:∃W,W1.alloc (.cells #[.string ⟨#[102]⟩,.slice none 0 0,.slice none 0 0,.slice none 0 0,.slice none 0 0,.int .i64 0,.slice (some ⟨w.heap.size,0,none⟩) 1 1] 28)=W:=⟨_,rfl⟩;have hb2:Below W1.heap.size W1 W2:=by rw [<- hW2];exact (aX _ _).alloc (aY _) _
 have hs1:W1.heap.size=w.heap.size+1:=by rw [<- hW1];simp
 have hc2:=cP W1 [.string ⟨#[102]⟩,.slice none 0 0,.slice none 0 0,.slice none 0 0,.slice none 0 0,.int .i64 0,.slice (some ⟨w.heap.size,0,none⟩) 1 1] 28
 have HCX:Hid (∀W,Below W2.heap.size W2 W->∀i v,[Value.string ⟨#[102]⟩,.slice none 0 0,.slice none 0 0,.slice none 0 0,.slice none 0 0,.int .i64 0,.slice (some ⟨w.heap.size,0,none⟩) 1 1][i]?=some v->W.cell? ⟨w.heap.size+1,i,none⟩=some v):=aF (fun W hb i v h=>by
  rw [<- hs1];refine cJ hb ?_;rw [<- hW2]
  exact hc2 i v h)
 have HB2:=aF (hb1.trans (hb2.mono hb1.size));have HA:=aF (hat.keep hb2)
 have HP:Hid (∀W,Below W2.heap.size W2 W->Calls Tryz.prog 10 #[.agg #[.string ⟨#[102]⟩,.slice none 0 0,.slice none 0 0,.slice none 0 0,.slice none 0 0,.int .i64 0,.slice (some ⟨w.heap.size,0,none⟩) 1 1]] W fun e' w'=>e' = .returned (.tuple #[.string ⟨exPT.toArray⟩,.int .i64 0])/\Below W.heap.size W w'):=aF (fun W hb=>by
  have hbw:=HB2.out.trans (hb.mono HB2.out.size);have h:=iU exP _ W (HA.out.keep hb) (hT.keep hbw) (hpow.keep hbw) (hsp.keep hbw) yI (fun _=>by rw [sS];decide);rw [bA sU,sS] at h
  exact h)
 have HN:Hid (∀W,Below W2.heap.size W2 W->Calls Tryz.prog 10 #[.agg #[.string ⟨#[]⟩,.slice none 0 0,.slice none 0 0,.slice none 0 0,.slice none 0 0,.int .i64 0,.slice none 0 0]] W fun e' w'=>e' = .returned (.tuple #[.string ⟨#[]⟩,.int .i64 16])/\Below W.heap.size W w'):=aF (fun W hb=>by
  have hbw:=HB2.out.trans (hb.mono HB2.out.size);have h:=iU exN bh0 W (zT W) (hT.keep hbw) (hpow.keep hbw) (hsp.keep hbw) yJ (fun h=>absurd h sV);rw [aZ sV] at h
  exact h)
 have HF:Hid (∀W,Below W2.heap.size W2 W->Calls Tryz.prog 13 #[.agg #[.string ⟨#[102]⟩,.slice none 0 0,.slice none 0 0,.slice none 0 0,.slice none 0 0,.int .i64 0,.slice (some ⟨w.heap.size,0,none⟩) 1 1],.agg #[.slice none 0 0,.slice none 0 0,.slice none 0 0,.slice none 0 0,.slice none 0 0]] W fun e' w'=>e' = .returned (.tuple #[.string ⟨exFT.toArray⟩,.int .i64 0])/\Below W.heap.size W w'):=aF (fun W hb=>by
  have hbw:=HB2.out.trans (hb.mono HB2.out.size);have h:=pK exP _ exF fh0 W (HA.out.keep hb) (zU W) (hT.keep hbw) (hpow.keep hbw) (hsp.keep hbw) yM (fun _ _=>by rw [exF_txt];decide);rw [yL] at h
  exact h)
 have HL:Hid (∀W,Below W2.heap.size W2 W->Calls Tryz.prog 15 #[.agg #[.string ⟨#[102]⟩,.slice none 0 0,.slice none 0 0,.slice none 0 0,.slice none 0 0,.int .i64 0,.slice (some ⟨w.heap.size,0,none⟩) 1 1],.agg #[.int .i64 0,.slice none 0 0]] W fun e' w'=>e' = .returned (.tuple #[.string ⟨#[]⟩,.int .i64 3])/\Below W.heap.size W w'):=aF (fun W hb=>by
  have hbw:=HB2.out.trans (hb.mono HB2.out.size);have h:=gY exP _ ⟨0,[]⟩ none 0 W (HA.out.keep hb) (hpow.keep hbw) ⟨Sl.nil,aY _,by decide⟩ (fun x hx=>(by cases hx)) (fun _=>by decide);rw [yK] at h
  exact h)
 clear hb1 hat hb2 hc2 HA hT hpow hsp;unfold exBk at hW1;have u:=HCX.out W2 (aX _ _);obtain ⟨u0,u1,u2,u3,u4,u5,u6⟩:=aS u;clear u;go_enter Tryz.func9,Tryz.ntmps9
 go_wp2_with (first
  | (go_at_call 10;refine (HP.out _ (aX _ _)).mono ?_;rintro e' w3 ⟨rfl,hw3⟩;have v:=HCX.out w3 hw3;have v0:=v 0 _ rfl;have v1:=v 1 _ rfl;have v2:=v 2 _ rfl;have v3:=v 3 _ rfl;have v4:=v 4 _ rfl;have v5:=v 5 _ rfl;have v6:=v 6 _ rfl;clear v)
  | (go_at_call 13;refine (HF.out _ hw3).mono ?_;rintro e' w4 ⟨rfl,hw4⟩;have hw4':=hw3.trans (hw4.mono hw3.size);have v:=HCX.out w4 hw4';have z0:=v 0 _ rfl;have z1:=v 1 _ rfl;have z2:=v 2 _ rfl;have z3:=v 3 _ rfl;have z4:=v 4 _ rfl;have z5:=v 5 _ rfl;have z6:=v 6 _ rfl;clear v)
  | (go_at_call 10;refine (HN.out _ hw4').mono ?_;rintro e' w5 ⟨rfl,hw5⟩;have hw5':=hw4'.trans (hw5.mono hw4'.size);have v:=HCX.out w5 hw5';have r0:=v 0 _ rfl;have r1:=v 1 _ rfl;have r2:=v 2 _ rfl;have r3:=v 3 _ rfl;have r4:=v 4 _ rfl;have r5:=v 5 _ rfl;have r6:=v 6 _ rfl;clear v)
  | (go_at_call 15;refine (HL.out _ hw5').mono ?_;rintro e' w6 ⟨rfl,hw6⟩))
 go_ret;exact ⟨rfl,HB2.out.trans ((hw5'.trans (hw6.mono hw5'.size)).mono HB2.out.size)⟩
end
end Go.Proofs.YtmknfbfppmkcfaaGreatDoor
