/-
  Parts of the proof: Y52 Y54 Y64.
-/
import Derived.Test.YtmknfbfppmkcfaaGreatDoorPP0
import Derived.Test.YtmknfbfppmkcfaaGreatDoorPP14
import Derived.Test.YtmknfbfppmkcfaaGreatDoorPP10
import Derived.Test.YtmknfbfppmkcfaaGreatDoorPP7
import Derived.Test.YtmknfbfppmkcfaaGreatDoorPP5
import Derived.Test.YtmknfbfppmkcfaaGreatDoorPP8
import Derived.Test.YtmknfbfppmkcfaaGreatDoorPP9
import Derived.Test.YtmknfbfppmkcfaaGreatDoorPP2
import Derived.Test.YtmknfbfppmkcfaaGreatDoorPP4
import Derived.Test.YtmknfbfppmkcfaaGreatDoorPP13
import Derived.Lib.ItoaLen
import Derived.Lib.LaidTab
namespace Go.Proofs.YtmknfbfppmkcfaaGreatDoor
set_option maxRecDepth 100000
set_option maxHeartbeats 16000000
section
open Go Go.RowKit
theorem wT {n:Int} (h:fitN n):(Lib.itoa n).length<=21:=Lib.itoa_length_le n h.1 h.2
theorem lU {α : Type} {f : α -> List UInt8} {k:Nat}:∀{l:List α},(∀x∈l,(f x).length<=k)->(l.flatMap f).length<=k * l.length
 | [],_=>by simp
 | x :: l,h=>by
   have h1:=h x (by simp);have h2:=lU (l:=l) (fun y hy=>h y (by simp [hy]));rw [List.flatMap_cons,bB,bK,Nat.mul_add];omega
theorem xS {ps:List Pj} (hf:∀x∈ps,fitJ x):(pjsP ps).length<=22 * ps.length:=
 lU (fun x hx=>by
  have:=Lib.itoa_length_le x.field (hf x hx).1 (hf x hx).2;unfold pjP;split
  ·simp
  ·rw [bK];omega)
end
section
open Go Go.RowKit
attribute [local irreducible] Calls
theorem ind1:ind 1=[32,32]:=rfl
theorem qU {α : Type} {f : α -> List UInt8} {l:List α} {k:Nat} (h:k<l.length):(l.take (k+1)).flatMap f=(l.take k).flatMap f ++ f l[k]:=by
 rw [bF h,List.flatMap_append];simp
theorem kH {α : Type} (f : α -> List UInt8) (l:List α) (k:Nat):((l.take k).flatMap f).length<=(l.flatMap f).length:=by
 conv=>rhs;rw [<- List.take_append_drop k l,List.flatMap_append,bB]
 omega
theorem fF (n:Int) (h:fitN n) (w:World) (ht:PowTab w):Calls Tryz.prog 34 #[.string ⟨#[]⟩,.int .i64 n] w fun e' w'=>e' = .returned (tx (Lib.itoa n))/\Below w.heap.size w w':=by
 have:=index_any' [] n h.1 h.2 (by simp) w ht;simpa using this
theorem gF {w0 w:World} {g q:Nat} {b:Bdy} {bh:BH} {bs:List UInt8} (wd:List UInt8) (hwd:wd.length<=10) (l:List (Int × Int)) (A:Option Addr) (c:Nat) (L:Lives w0 (g+2) g b bh bs 1 w)
 (hq:w.heap[q]?=some (.cells [Value.pointer (some ⟨g,0,none⟩)].toArray 66 (0,0))) (hqg:g≠q) (hl:Slc 2 RPr w0 A c l) (hf:∀x∈l,fitN x.1/\fitN x.2) (hz:bs.length+(l.flatMap (prLine wd)).length+1000<=140737488355328):
 Calls Tryz.prog 49 #[tx wd,.slice A l.length c,.pointer (some ⟨q,0,none⟩)] w fun e' w'=>e' = .returned (.tuple #[])/\Lives w0 (g+2) g b bh (bs ++ l.flatMap (prLine wd)) 1 w'/\Fr g w w':=by
 have HL:=aF L;have HQ:=aF hq;have HS:=aF hl;have HF:=aF hf;have HZ:=aF hz;have hle:=hl.le;have hbig:=hl.big;clear L hq hl hf hz;go_enter Tryz.func49,Tryz.ntmps49
 go_wp2_with fail
 go_loopw [9] (fun i wr=>∃k:Nat,k<=l.length/\i = .int .i64 k/\Hid (Lives w0 (g+2) g b bh (bs ++ (l.take k).flatMap (prLine wd)) 1 wr)/\Hid (Fr g w wr)) (fun i _=>l.length - (intOf i).toNat)
 case atStart=>exact ⟨0,by omega,rfl,by simpa using HL,aF (Fr.refl _ _)⟩
 case round=>
  clear HL;obtain ⟨k,hk,rfl,HL,HFR⟩:=hrel;by_cases hlt:k<l.length
  case neg=>
   obtain rfl:k=l.length:=by omega
   rw [cA] at HL;go_wp2_with fail
   go_end0
   exact ⟨rfl,HL.out,HFR.out⟩
  case pos=>
  obtain ⟨bb,oo,rfl,hbb,hx⟩:=(HS.out.keep RPr.keeps HL.out.low).sl.at_ hlt;have hfx:=HF.out _ (bN hlt);have HTF:=aF (qU (f:=prLine wd) hlt);have hzl:=kH (prLine wd) l (k+1);have hpc:=heap_fr HQ.out HFR.out hqg (by decide);have HPC:=aF hpc;have yq:=cO hpc 0 _ rfl;have hqs:q<wr.heap.size:=cD wr _ yq;generalize l[k]=x at *;obtain ⟨x1,x2⟩:=x;obtain ⟨y0,y1⟩:=hx;simp only at y0 y1 hfx;obtain ⟨i1,h1⟩:∃i,Lib.itoa x1=i:=⟨_,rfl⟩;obtain ⟨i2,h2⟩:∃i,Lib.itoa x2=i:=⟨_,rfl⟩;have HLN:Hid (prLine wd (x1,x2)=ind 1 ++ ((wd ++ [32] ++ i1 ++ [32] ++ i2) ++ [59,10])):=aF (by rw [ind1,prLine,prP];simp only;rw [h1,h2,semP];simp);have hl1:=wT hfx.1;have hl2:=wT hfx.2;rw [h1] at hl1;rw [h2] at hl2;rw [HTF.out,bB] at hzl;have hz1:(bs ++ (l.take k).flatMap (prLine wd)).length+500<=140737488355328:=by rw [bB];have:=HZ.out;omega
  have hz2:¬(9223372036854775807<i2.length+1):=by omega
  have HI1:Hid (∀W,Below w0.heap.size w0 W->Calls Tryz.prog 34 #[.string ⟨#[]⟩,.int .i64 x1] W fun e' w'=>e' = .returned (tx i1)/\Below W.heap.size W w'):=aF (fun W hb=>by rw [<- h1];exact fF x1 hfx.1 W (HL.out.pow.keep hb));have HI2:Hid (∀W,Below w0.heap.size w0 W->Calls Tryz.prog 34 #[.string ⟨#[]⟩,.int .i64 x2] W fun e' w'=>e' = .returned (tx i2)/\Below W.heap.size W w'):=aF (fun W hb=>by rw [<- h2];exact fF x2 hfx.2 W (HL.out.pow.keep hb));obtain ⟨bk,hbk⟩:∃B,bs ++ (l.take k).flatMap (prLine wd)=B:=⟨_,rfl⟩;have HNX:Hid (bs ++ (l.take (k+1)).flatMap (prLine wd)=bk ++ (ind 1 ++ ((wd ++ [32] ++ i1 ++ [32] ++ i2) ++ [59,10]))):=aF (by rw [HTF.out,<- bM,hbk,HLN.out]);rw [hbk] at HL hz1;clear hpc h1 h2 hfx hzl HTF HLN hbk;obtain ⟨WN,hWN⟩:∃W,wr.alloc (.cells #[.int .i64 x1,.int .i64 x2] 77)=W:=⟨_,rfl⟩;have hbn:Below wr.heap.size wr WN:=by rw [<- hWN];exact (aX _ _).alloc (aY _) _
  obtain ⟨n0,n1⟩:=nM wr (.int .i64 x1) (.int .i64 x2) 77;rw [hWN] at n0 n1;have HLD:=aF (HL.out.keep hbn.drew);have HFD:Hid (Fr g w WN.drew):=aF (HFR.out.trans (Fr.of_below hbn.drew));have HQD:Hid (WN.drew.heap[q]?=_):=aF (cL HPC.out hbn.drew);have hS:WN.drew.cell? ⟨q,0,none⟩=some (.pointer (some ⟨g,0,none⟩))/\WN.drew.cell? ⟨wr.heap.size,0,none⟩=some (.int .i64 x1)/\WN.drew.cell? ⟨wr.heap.size,1,none⟩=some (.int .i64 x2):=⟨cO HQD.out 0 _ rfl,n0,n1⟩;clear hbn;go_wp2_with fail
  clear n0 n1;refine dH (S:=fun X=>X.cell? ⟨q,0,none⟩=some (.pointer (some ⟨g,0,none⟩))/\X.cell? ⟨wr.heap.size,0,none⟩=some (.int .i64 x1)/\X.cell? ⟨wr.heap.size,1,none⟩=some (.int .i64 x2)) 10 [0,1,2,3,5,6,4,7,8,9,10] (by kernel_rfl) ?_;(iterate 6 (refine dS (v:=?_) (by kernel_rfl) (fun _ _ _ h=>h) (Or.inl ⟨by rfl,?_⟩) hS ?_;rotate_left;(next=>(rintro X ⟨s1,s2,s3⟩;(try simp only [aI]);go_simp;rfl));simp only [aM]));(refine cM (fun K1 hK1=>?_);simp only [aM];rw [bA (by rfl)];go_simp);refine (HI1.out _ HLD.out.low).mono ?_;rintro e' w3 ⟨rfl,hw3⟩;have hS3:w3.cell? ⟨q,0,none⟩=some (.pointer (some ⟨g,0,none⟩))/\w3.cell? ⟨wr.heap.size,0,none⟩=some (.int .i64 x1)/\w3.cell? ⟨wr.heap.size,1,none⟩=some (.int .i64 x2):=⟨cJ hw3 hS.1,cJ hw3 hS.2.1,cJ hw3 hS.2.2⟩;have HL3:=aF (HLD.out.keep hw3);have HF3:=aF (HFD.out.trans (Fr.of_below hw3));clear hS hw3 HLD HFD HQD;refine hK1.out _ _ (fun _=>hS3) ?_;clear hK1;(refine cM (fun K1 hK1=>?_);simp only [aM];rw [bA (by rfl)];go_simp);refine (HI2.out _ HL3.out.low).mono ?_;rintro e' w4 ⟨rfl,hw4⟩;have hS:w4.cell? ⟨q,0,none⟩=some (.pointer (some ⟨g,0,none⟩))/\w4.cell? ⟨wr.heap.size,0,none⟩=some (.int .i64 x1)/\w4.cell? ⟨wr.heap.size,1,none⟩=some (.int .i64 x2):=⟨cJ hw4 hS3.1,cJ hw4 hS3.2.1,cJ hw4 hS3.2.2⟩;have HL4:=aF (HL3.out.keep hw4);have HF4:=aF (HF3.out.trans (Fr.of_below hw4));clear hS3 hw4 HL3 HF3;refine hK1.out _ _ (fun _=>hS) ?_;clear hK1;refine dS (v:=tx (i2 ++ [59])) (by kernel_rfl) (fun _ _ _ h=>h) (Or.inl ⟨by rfl,?_⟩) hS ?_
  ·rintro X hX;(try simp only [aI]);go_simp;exact (ba_app' _ _).trans (by simp [bl])
  (simp only [aM]);(refine cM (fun K1 hK1=>?_);simp only [aM];rw [bA (by rfl)];go_simp);have hbw:=(aX w4.heap.size w4).alloc (aY _) (.cells #[tx wd,tx i1,tx (i2 ++ [59])] 9);have HLR:=aF (HL4.out.keep hbw);have HFR2:=aF (HF4.out.trans (Fr.of_below hbw));have hS5:=bJ (cJ hbw hS.1) (bJ (cJ hbw hS.2.1) (cJ hbw hS.2.2));refine hK1.out _ _ (fun _=>hS5) ?_;clear hK1 hbw;(refine cM (fun K1 hK1=>?_);simp only [aM];rw [bA (by rfl)];go_simp);refine (dN HLR.out [wd,i1,i2 ++ [59]] (wd ++ [32] ++ i1 ++ [32] ++ i2) _ (dJ w4 [wd,i1,i2 ++ [59]]) (by rw [join3];simp) (by decide) (by simp) (by simp only [bB,bK,bP];omega)).mono ?_;rintro e' w9 ⟨rfl,hl9,hf9⟩;have HL9:=aF hl9;have HF9:=aF (HFR2.out.trans hf9);refine hK1.out _ _ (fun h=>absurd h (by decide)) ?_;refine cV ?_;clear hl9 hf9 hK1;go_wp2_with fail
  go_roundw
  case rel=>exact ⟨k+1,by omega,by go_num,by rw [HNX.out];exact HL9,HF9⟩
  case measure=>simp [intOf];omega
end
section
open Go Go.RowKit
theorem gPowT:(Tryz.prog.globals[5]?).map (·.type)=some 283:=by kernel_rfl
theorem gSpT:(Tryz.prog.globals[2]?).map (·.type)=some 229:=by kernel_rfl
theorem yU:Tryz.prog.cellsOf 225=1:=by kernel_rfl
theorem zZ:Tryz.prog.cellsOf 5=1:=by kernel_rfl
theorem zY:Tryz.prog.cellsOf 283=20:=by kernel_rfl
theorem zX:Tryz.prog.cellsOf 229=256:=by kernel_rfl
theorem yY {w:World} (h:laidMetH Tryz.prog Rows.printerMatchesReferenceRow.laid w):TabsOk w/\PowTab w/\SpTab w:=by
 rw [MakeChecks.laidMetH_plain _ _ _ (by kernel_rfl)] at h;have h6:=h.tail.tail.tail.tail.tail.tail
 exact ⟨⟨iZ gUn gUnT Tryz.underlying214 rfl (by omega) (by omega) (l:=gU) h6,
  iZ gBi gBiT Tryz.underlying215 rfl (by omega) (by omega) (l:=fM) h6.tail⟩,
  Lib.tabIs_of_head gPow gPowT Tryz.underlying283 Tryz.underlying225 yU zY h.tail.tail,
  Lib.tabIs_of_head gSp gSpT Tryz.underlying229 Tryz.underlying5 zZ zX h.tail.tail.tail.tail.tail⟩
end
end Go.Proofs.YtmknfbfppmkcfaaGreatDoor
