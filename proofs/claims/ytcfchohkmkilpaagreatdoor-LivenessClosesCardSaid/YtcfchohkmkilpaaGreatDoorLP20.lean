/-
  Parts of the proof: KP.
-/
import Derived.Test.YtcfchohkmkilpaaGreatDoorLP0
import Derived.Test.YtcfchohkmkilpaaGreatDoorLP19
import Derived.Test.YtcfchohkmkilpaaGreatDoorLP16
import Derived.Test.YtcfchohkmkilpaaGreatDoorLP12
import Derived.Test.YtcfchohkmkilpaaGreatDoorLP1
namespace Go.Proofs.YtcfchohkmkilpaaGreatDoor
set_option maxRecDepth 100000
set_option maxHeartbeats 16000000
section
open Go Go.RowKit
attribute [local irreducible] Calls
def exN:Bdy:=⟨⟨#[]⟩,[],[],[],[],0,[]⟩
def bh0:BH:=⟨none,0,none,0,none,0,none,0,none,0⟩
def evStm (a4 a5:Nat):List Value:=[.int .i64 0,.int .i64 0,.slice none 0 0,.int .i64 0,.int .i64 0,.int .i64 0,.bool false,.int .i64 0,.slice none 0 0,.slice (some ⟨a4,0,none⟩) 1 1,.int .i64 0,.int .i64 0,.int .i64 1,.slice none 0 0,.int .i64 0,.int .i64 0,.int .i64 0,.bool false,.int .i64 0,.slice none 0 0,.slice (some ⟨a5,0,none⟩) 1 1,.int .i64 0]
def evBlk (a6:Nat):List Value:=[.slice (some ⟨a6,0,none⟩) 2 2,.int .i64 2,.slice none 0 0,.slice none 0 0,.int .i64 0,.slice none 0 0,.string ⟨#[]⟩]
def evLoc:List Value:=[.string ⟨#[120]⟩,.int .i64 0,.string ⟨#[121]⟩,.int .i64 0]
def evTy:List Value:=[.int .i64 2,.bool false,.int .i64 0,.int .i64 0,.slice none 0 0]
def evOp (k:Int):List Value:=[.int .i64 k,.int .i64 0,.slice none 0 0,.int .i64 0]
def evH (a2 a3 a7:Nat):BH:=⟨none,0,none,0,some ⟨a2,0,none⟩,1,some ⟨a3,0,none⟩,2,some ⟨a7,0,none⟩,1⟩
theorem rsl0 {α : Type} {k:Nat} {R:Rd α} {w:World} {B b o:Nat} (h:w.cell? ⟨b,o,none⟩=some (.slice none 0 0)):RSl k R w B b o ([]:List α):=⟨none,0,h,aY _,by decide,Sl.nil⟩
theorem xFD {W:World} {a2 a3 a4 a5 a6 a7:Nat} (h2:W.heap[a2]?=some (.cells evTy.toArray 65 (0,0))) (h3:W.heap[a3]?=some (.cells evLoc.toArray 67 (0,0))) (h4:W.heap[a4]?=some (.cells (evOp 2).toArray 69 (0,0))) (h5:W.heap[a5]?=some (.cells (evOp 0).toArray 69 (0,0)))
 (h6:W.heap[a6]?=some (.cells (evStm a4 a5).toArray 73 (0,0))) (h7:W.heap[a7]?=some (.cells (evBlk a6).toArray 55 (0,0))):BdAt W exV (evH a2 a3 a7):=by
 have l2:=(Array.getElem?_eq_some_iff.1 h2).1;have l3:=(Array.getElem?_eq_some_iff.1 h3).1;have l4:=(Array.getElem?_eq_some_iff.1 h4).1;have l5:=(Array.getElem?_eq_some_iff.1 h5).1;have l6:=(Array.getElem?_eq_some_iff.1 h6).1;have l7:=(Array.getElem?_eq_some_iff.1 h7).1;have c2:=fun i v h=>dS h2 i v h
 have c3:=fun i v h=>dS h3 i v h
 have c4:=fun i v h=>dS h4 i v h
 have c5:=fun i v h=>dS h5 i v h
 have c6:=fun i v h=>dS h6 i v h
 have c7:=fun i v h=>dS h7 i v h
 have hop:∀(B a:Nat) (k:Int),(aA (evOp k) W a)->ROp W B a 0 ⟨k,⟨0,[]⟩,0⟩:=fun B a k h=>⟨h 0 _ rfl,⟨h 1 _ rfl,rsl0 (h 2 _ rfl)⟩,h 3 _ rfl⟩
 refine ⟨⟨Sl.nil,aY _,Nat.le_of_ble_eq_true rfl⟩,⟨Sl.nil,aY _,Nat.le_of_ble_eq_true rfl⟩,⟨fun _=>⟨a2,0,rfl,l2,fun i x hi=>?_⟩,aY _,Nat.le_of_ble_eq_true rfl⟩,⟨fun _=>⟨a3,0,rfl,l3,fun i x hi=>?_⟩,aY _,Nat.le_of_ble_eq_true rfl⟩,⟨fun _=>⟨a7,0,rfl,l7,fun i x hi=>?_⟩,aY _,Nat.le_of_ble_eq_true rfl⟩⟩
 ·have hi0:i=0:=by
   have:=(List.getElem?_eq_some_iff.1 hi).1;have hl:exV.types.length=1:=rfl;omega
  subst hi0;obtain rfl:=Option.some.inj hi;exact ⟨c2 0 _ rfl,c2 1 _ rfl,c2 2 _ rfl,c2 3 _ rfl,rsl0 (c2 4 _ rfl)⟩
 ·have hi0:i=0\/i=1:=by
   have:=(List.getElem?_eq_some_iff.1 hi).1;have hl:exV.locals.length=2:=rfl;omega
  rcases hi0 with rfl | rfl
  ·obtain rfl:=Option.some.inj hi;exact ⟨c3 0 _ rfl,c3 1 _ rfl⟩
  ·obtain rfl:=Option.some.inj hi;exact ⟨c3 2 _ rfl,c3 3 _ rfl⟩
 ·have hi0:i=0:=by
   have:=(List.getElem?_eq_some_iff.1 hi).1;have hl:exV.blocks.length=1:=rfl;omega
  subst hi0;obtain rfl:=Option.some.inj hi;refine ⟨⟨some ⟨a6,0,none⟩,2,c7 0 _ rfl,aY _,by decide,fun _=>⟨a6,0,rfl,l6,fun i x hi=>?_⟩⟩,c7 1 _ rfl,rsl0 (c7 2 _ rfl),rsl0 (c7 3 _ rfl),⟨c7 4 _ rfl,rsl0 (c7 5 _ rfl)⟩,c7 6 _ rfl⟩
  have hi0:i=0\/i=1:=by
   have:=(List.getElem?_eq_some_iff.1 hi).1;have hl:exK.stmts.length=2:=rfl;have hl2:exV.blocks[0].stmts.length=2:=rfl;omega
  rcases hi0 with rfl | rfl
  ·obtain rfl:=Option.some.inj hi
   exact ⟨c6 0 _ rfl,⟨c6 1 _ rfl,rsl0 (c6 2 _ rfl)⟩,⟨c6 3 _ rfl,c6 4 _ rfl,c6 5 _ rfl,c6 6 _ rfl,⟨c6 7 _ rfl,rsl0 (c6 8 _ rfl)⟩,some ⟨a4,0,none⟩,1,c6 9 _ rfl,aY _,by decide,fun _=>⟨a4,0,rfl,l4,fun i x hi=>by
    have hi0:i=0:=by
     have:i<1:=(List.getElem?_eq_some_iff.1 hi).1;omega
    subst hi0;obtain rfl:=Option.some.inj hi
    exact hop _ _ _ c4⟩⟩,c6 10 _ rfl⟩
  ·obtain rfl:=Option.some.inj hi
   exact ⟨c6 11 _ rfl,⟨c6 12 _ rfl,rsl0 (c6 13 _ rfl)⟩,⟨c6 14 _ rfl,c6 15 _ rfl,c6 16 _ rfl,c6 17 _ rfl,⟨c6 18 _ rfl,rsl0 (c6 19 _ rfl)⟩,some ⟨a5,0,none⟩,1,c6 20 _ rfl,aY _,by decide,fun _=>⟨a5,0,rfl,l5,fun i x hi=>by
    have hi0:i=0:=by
     have:i<1:=(List.getElem?_eq_some_iff.1 hi).1;omega
    subst hi0;obtain rfl:=Option.some.inj hi
    exact hop _ _ _ c5⟩⟩,c6 21 _ rfl⟩
abbrev exC (w:World):World:=((((((((w.alloc (.cells #[.int .i64 0,.slice none 0 0] 51)).alloc (.cells #[.int .i64 1,.slice none 0 0] 51)).alloc (.cells #[.int .i64 2,.bool false,.int .i64 0,.int .i64 0,.slice none 0 0] 65)).alloc (.cells #[.string ⟨#[120]⟩,.int .i64 0,.string ⟨#[121]⟩,.int .i64 0] 67)).alloc (.cells #[.int .i64 2,.int .i64 0,.slice none 0 0,.int .i64 0] 69)).alloc (.cells #[.int .i64 0,.int .i64 0,.slice none 0 0,.int .i64 0] 69)).alloc (.cells #[.int .i64 0,.int .i64 0,.slice none 0 0,.int .i64 0,.int .i64 0,.int .i64 0,.bool false,.int .i64 0,.slice none 0 0,.slice (some ⟨w.heap.size+1+1+1+1,0,none⟩) 1 1,.int .i64 0,.int .i64 0,.int .i64 1,.slice none 0 0,.int .i64 0,.int .i64 0,.int .i64 0,.bool false,.int .i64 0,.slice none 0 0,.slice (some ⟨w.heap.size+1+1+1+1+1,0,none⟩) 1 1,.int .i64 0] 73)).alloc (.cells #[.slice (some ⟨w.heap.size+1+1+1+1+1+1,0,none⟩) 2 2,.int .i64 2,.slice none 0 0,.slice none 0 0,.int .i64 0,.slice none 0 0,.string ⟨#[]⟩] 55)).alloc (.cells #[.string ⟨#[102]⟩,.slice none 0 0,.slice none 0 0,.slice (some ⟨w.heap.size+1+1,0,none⟩) 1 1,.slice (some ⟨w.heap.size+1+1+1,0,none⟩) 2 2,.int .i64 0,.slice (some ⟨w.heap.size+1+1+1+1+1+1+1,0,none⟩) 1 1] 28)
theorem xDS (w:World):BdAt (exC w) exV (evH (w.heap.size+1+1) (w.heap.size+1+1+1) (w.heap.size+1+1+1+1+1+1+1))/\(exC w).heap[w.heap.size+1+1+1+1+1+1+1+1]?=some (.cells #[.string ⟨#[102]⟩,.slice none 0 0,.slice none 0 0,.slice (some ⟨w.heap.size+1+1,0,none⟩) 1 1,.slice (some ⟨w.heap.size+1+1+1,0,none⟩) 2 2,.int .i64 0,.slice (some ⟨w.heap.size+1+1+1+1+1+1+1,0,none⟩) 1 1] 28 (0,0))/\Below w.heap.size w (exC w):=by
 refine ⟨xFD (a4:=w.heap.size+1+1+1+1) (a5:=w.heap.size+1+1+1+1+1) (a6:=w.heap.size+1+1+1+1+1+1) ?_ ?_ ?_ ?_ ?_ ?_,?_,?_⟩
 ·unfold evTy;(repeat (first | (refine heap_at _ _ _ ?_;first | omega | (simp only [bI];omega)) | rw [Below.heap_alloc _ _ _ (by first | omega | (simp only [bI];omega))]));exact eS _ _ _ (by simp)
 ·unfold evLoc;(repeat (first | (refine heap_at _ _ _ ?_;first | omega | (simp only [bI];omega)) | rw [Below.heap_alloc _ _ _ (by first | omega | (simp only [bI];omega))]));exact eS _ _ _ (by simp)
 ·unfold evOp;(repeat (first | (refine heap_at _ _ _ ?_;first | omega | (simp only [bI];omega)) | rw [Below.heap_alloc _ _ _ (by first | omega | (simp only [bI];omega))]));exact eS _ _ _ (by simp)
 ·unfold evOp;(repeat (first | (refine heap_at _ _ _ ?_;first | omega | (simp only [bI];omega)) | rw [Below.heap_alloc _ _ _ (by first | omega | (simp only [bI];omega))]));exact eS _ _ _ (by simp)
 ·unfold evStm;(repeat (first | (refine heap_at _ _ _ ?_;first | omega | (simp only [bI];omega)) | rw [Below.heap_alloc _ _ _ (by first | omega | (simp only [bI];omega))]));exact eS _ _ _ (by simp)
 ·unfold evBlk;(repeat (first | (refine heap_at _ _ _ ?_;first | omega | (simp only [bI];omega)) | rw [Below.heap_alloc _ _ _ (by first | omega | (simp only [bI];omega))]));exact eS _ _ _ (by simp)
 ·exact eS _ _ _ (by simp)
 ·exact aH
def evU:List Int:=[0,1]
theorem qQ (w:World) (hT:TabsOk w):Calls Tryz.prog 10 #[] w fun e' w'=>e' = .returned (.bool true)/\Below w.heap.size w w':=by
 obtain ⟨hat,hbx,hbw⟩:=xDS w;obtain ⟨W0,hW0⟩:∃W,exC w=W:=⟨_,rfl⟩;rw [hW0] at hat hbx hbw;have HB0:=aF hbw;have hnz:BdAt w exN bh0:=⟨⟨Sl.nil,aY _,by decide⟩,⟨Sl.nil,aY _,by decide⟩,⟨Sl.nil,aY _,by decide⟩,⟨Sl.nil,aY _,by decide⟩,⟨Sl.nil,aY _,by decide⟩⟩
 have HL:Hid (∀W,Below W0.heap.size W0 W->Calls Tryz.prog 21 #[.agg #[.string ⟨#[102]⟩,.slice none 0 0,.slice none 0 0,.slice (some ⟨w.heap.size+1+1,0,none⟩) 1 1,.slice (some ⟨w.heap.size+1+1+1,0,none⟩) 2 2,.int .i64 0,.slice (some ⟨w.heap.size+1+1+1+1+1+1+1,0,none⟩) 1 1]] W fun e' w'=>∃g o c A0 c0 A1 c1 A2 c2,e' = .returned (.slice (some ⟨g,o,none⟩) 3 c)/\3<=c/\c<=9223372036854775807/\w'.cell? ⟨g,o,none⟩=some (.slice A0 0 c0)/\w'.cell? ⟨g,o+1,none⟩=some (.slice A1 1 c1)/\w'.cell? ⟨g,o+2,none⟩=some (.slice A2 0 c2)/\Slc 1 RInt w' A1 c1 [0]/\Below W.heap.size W w'):=aF (fun W hb=>(qA exV _ W evU (hat.keep hb) (by decide) (by decide) (fun x hx=>by obtain rfl:x=exK:=(by simpa [exV] using hx);decide) (fun p z hz=>by obtain ⟨rfl,_⟩:=mM hz;exact ⟨by decide,by unfold Sml;decide⟩) (by decide)).mono (by
  rintro e' w' ⟨A,c,ll,rfl,h1,h2,h3,h4⟩;obtain rfl:=uG h1 h2;obtain ⟨g,o,rfl,_,hx⟩:=h3.sl (by decide);obtain ⟨A0,c0,x0,_⟩:=hx 0 [] rfl;obtain ⟨A1,c1,x1,l1,b1,s1⟩:=hx 1 [0] rfl;obtain ⟨A2,c2,x2,_⟩:=hx 2 [] rfl
  exact ⟨g,o,c,A0,c0,A1,c1,A2,c2,rfl,h3.le,h3.big,x0,x1,x2,⟨s1,l1,b1⟩,h4⟩))
 have HD:Hid (∀W,Below W0.heap.size W0 W->Calls Tryz.prog 11 #[.agg #[.string ⟨#[102]⟩,.slice none 0 0,.slice none 0 0,.slice (some ⟨w.heap.size+1+1,0,none⟩) 1 1,.slice (some ⟨w.heap.size+1+1+1,0,none⟩) 2 2,.int .i64 0,.slice (some ⟨w.heap.size+1+1+1+1+1+1+1,0,none⟩) 1 1],.int .i64 0] W fun e' w'=>e' = .returned (.tuple #[.int .i64 0,.bool true])/\Below W.heap.size W w'):=aF (fun W hb=>by
  have h:=xM exV _ 0 W (hat.keep hb) (by decide) (by decide) (fun z hz=>by obtain ⟨rfl,_⟩:=mM hz;unfold Sml;decide);rw [sC] at h
  exact h)
 have HU:Hid (∀W,Below W0.heap.size W0 W->Calls Tryz.prog 14 #[.agg #[.string ⟨#[102]⟩,.slice none 0 0,.slice none 0 0,.slice (some ⟨w.heap.size+1+1,0,none⟩) 1 1,.slice (some ⟨w.heap.size+1+1+1,0,none⟩) 2 2,.int .i64 0,.slice (some ⟨w.heap.size+1+1+1+1+1+1+1,0,none⟩) 1 1],.int .i64 1] W fun e' w'=>∃A c,e' = .returned (.slice A 1 c)/\Slc 1 RInt w' A c [0]/\Below W.heap.size W w'):=aF (fun W hb=>(uQ exV _ 1 W (hat.keep hb) (by decide) (by decide) (fun z hz=>by obtain ⟨rfl,_⟩:=mM hz;unfold Sml;decide)).mono (by
  rintro e' w' ⟨A,c,s,rfl,h1,h2,h3⟩;have hs:s=[0]:=h1.uniq (t:=[0]) ⟨by simp,fun x=>by rw [sA]⟩;subst hs
  exact ⟨A,c,rfl,h2,h3⟩))
 have HR:Hid (∀W,Below w.heap.size w W->Calls Tryz.prog 18 #[.agg #[.string ⟨#[]⟩,.slice none 0 0,.slice none 0 0,.slice none 0 0,.slice none 0 0,.int .i64 0,.slice none 0 0]] W fun e' w'=>e' = .returned (.tuple #[.slice none 0 0,.int .i64 16])/\Below W.heap.size W w'):=aF (fun W hb=>pS exN bh0 W (hT.keep hb) (hnz.keep hb) (by decide));have HE:=aF (fun (A B:Option Addr) (c d:Nat) (xs ys:List Int) (W:World) (h1:Slc 1 RInt W A c xs) (h2:Slc 1 RInt W B d ys)=>kL A B c d xs ys W h1 h2);have y:=fun i v h=>dS (l:=(#[.string ⟨#[102]⟩,.slice none 0 0,.slice none 0 0,.slice (some ⟨w.heap.size+1+1,0,none⟩) 1 1,.slice (some ⟨w.heap.size+1+1+1,0,none⟩) 2 2,.int .i64 0,.slice (some ⟨w.heap.size+1+1+1+1+1+1+1,0,none⟩) 1 1]).toList) hbx i v h
 have HY:=aF (fun (W:World) (hb:Below W0.heap.size W0 W) i v h=>cO hb (y i v h));obtain ⟨y0,y1,y2,y3,y4,y5,y6⟩:=aS y;clear y hat hbw hnz hT;unfold exC at hW0;go_enter Tryz.func10,Tryz.ntmps10
 go_wp2_with (first
  | (go_at_call 13;refine (HE.out A4 (some ⟨w4.heap.size,0,none⟩) c4 1 [0] [0] _ (H4.out.keep RInt.keeps (alF _ _)) (fN w4 0 _ _ rfl)).mono ?_;rintro e' w6 ⟨rfl,q6,rfl⟩)
  | (go_at_call 14;refine (HU.out _ HB5.out).mono ?_;rintro e' w4 ⟨A4,c4,rfl,h4,hb4⟩;have H4:=aF h4;have HB4:=aF (HB5.out.trans (hb4.mono HB5.out.size));clear h4 hb4)
  | (go_at_call 13;refine (HE.out A1 (some ⟨w3.heap.size,0,none⟩) c1 1 [0] [0] _ (H1.out.keep RInt.keeps (alF _ _)) (fN w3 0 _ _ rfl)).mono ?_;rintro e' w5 ⟨rfl,q5,hq5⟩;have HB5:Hid (Below W0.heap.size W0 w5):=aF (by rw [hq5];exact aG (HB3.out.alloc HB3.out.size _) _);have z:=HY.out w5 HB5.out;obtain ⟨z0,z1,z2,z3,z4,z5,z6⟩:=aS z;have HG5:Hid (Below w3.heap.size w3 w5):=aF (by rw [hq5];exact aG (alF _ _) _);have t0:=cO HG5.out u0;have t1:=cO HG5.out u1;have t2:=cO HG5.out u2;clear z hq5 u0 u1 u2)
  | (go_at_call 18;refine (HR.out _ (HB0.out.trans (HB2.out.mono HB0.out.size))).mono ?_;rintro e' w3 ⟨rfl,hb3⟩;have HB3:=aF (HB2.out.trans (hb3.mono HB2.out.size));have H1:=aF (H2.out.keep RInt.keeps hb3);have u0:=cO hb3 v0;have u1:=cO hb3 v1;have u2:=cO hb3 v2;clear hb3 v0 v1 v2)
  | (go_at_call 11;refine (HD.out _ HB1.out).mono ?_;rintro e' w2 ⟨rfl,hb2⟩;have HB2:=aF (HB1.out.trans (hb2.mono HB1.out.size));have H2:=aF (H0.out.keep RInt.keeps hb2);have v0:=cO hb2 x0;have v1:=cO hb2 x1;have v2:=cO hb2 x2;clear hb2 x0 x1 x2)
  | (go_at_call 21;refine (HL.out _ (aX _ _)).mono ?_;rintro e' w1 ⟨g,o,c,A0,c0,A1,c1,A2,c2,rfl,hc1,hc2,x0,x1,x2,h1,hb1⟩;have H0:=aF h1;have HB1:=aF hb1;have z:=HY.out w1 hb1;obtain ⟨z0,z1,z2,z3,z4,z5,z6⟩:=aS z;clear z h1 hb1))
 go_ret;exact ⟨rfl,HB0.out.trans ((aG (HB4.out.alloc HB4.out.size _) q6).mono HB0.out.size)⟩
end
end Go.Proofs.YtcfchohkmkilpaaGreatDoor
