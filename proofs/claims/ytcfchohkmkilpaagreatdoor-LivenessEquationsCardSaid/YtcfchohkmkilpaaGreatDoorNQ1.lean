/-
  LivenessEquations: for every body the law answers true, and the argument reads as it did; the card of the row. Condition: the four listed variables hold at the start what the text of the program lays (the given tie; one is a table of the library, pinned by its name). (part 1)
-/
import Derived.Test.YtcfchohkmkilpaaGreatDoorLP0
import Derived.Test.YtcfchohkmkilpaaGreatDoorLP1
import Derived.Test.YtcfchohkmkilpaaGreatDoorLP2
import Derived.Test.YtcfchohkmkilpaaGreatDoorLP3
import Derived.Test.YtcfchohkmkilpaaGreatDoorLP4
import Derived.Test.YtcfchohkmkilpaaGreatDoorLP5
import Derived.Test.YtcfchohkmkilpaaGreatDoorLP6
import Derived.Test.YtcfchohkmkilpaaGreatDoorLP7
import Derived.Test.YtcfchohkmkilpaaGreatDoorLP8
import Derived.Test.YtcfchohkmkilpaaGreatDoorLP9
import Derived.Test.YtcfchohkmkilpaaGreatDoorLP10
import Derived.Test.YtcfchohkmkilpaaGreatDoorLP12
import Derived.Test.YtcfchohkmkilpaaGreatDoorLP13
import Derived.Test.YtcfchohkmkilpaaGreatDoorLP15
import Derived.Test.YtcfchohkmkilpaaGreatDoorLP16
import Derived.Test.YtcfchohkmkilpaaGreatDoorLP17
import Derived.Test.YtcfchohkmkilpaaGreatDoorLP19
import Derived.Test.YtcfchohkmkilpaaGreatDoorLP20
import Derived.Test.YtcfchohkmkilpaaGreatDoorLP21
import Derived.Test.YtcfchohkmkilpaaGreatDoorLP25
import Derived.Test.YtcfchohkmkilpaaGreatDoorLP26
import Derived.Test.YtcfchohkmkilpaaGreatDoorLP27
import Derived.Lib.Hide
import Derived.Below
import Derived.WalkSmall
import Derived.Laws.World
import Derived.Test.YtcfchohkmkilpaaGreatDoorProg
import Derived.WalkKit
import Derived.WalkSpells
import Derived.WalkLawsBesides
import Derived.Deep.RegionHeld3
import Derived.Deep.DeepFit
import Derived.Deep.QuietTactic
import Derived.BigQuiet
import Derived.OwnWalk
import Derived.Maps.AppendAt
import Derived.Deep.DeepCutAuto
import Derived.StillTailTactics
import Derived.RangeFuncNested
import Derived.RangeFuncBound
import Derived.RangeFuncCalls
import Derived.RangeFuncLeaves
import Derived.OwnWalkIn
import Derived.TacticsInMore
import Derived.LoopNIn
import Derived.LoopIn
import Derived.Shelf.Abstract
import Derived.OrdersHeld
import Derived.Deep.RegionHeld
import Derived.Test.YtcfchohkmkilpaaGreatDoorSg
import Derived.Maps.OwnSet
import Derived.Maps.OwnOps
import Derived.StringKeys
import Derived.Laws.MakeOwn
import Derived.Deep.LoopGhost
import Derived.WideKeyPair
import Derived.WideKeyArr
import Derived.Deep.MidRow
import Derived.Test.YtcfchohkmkilpaaGreatDoorSh
import Derived.Test.YtcfchohkmkilpaaGreatDoorSj
import Derived.Sort.OwnSortedInts
import Derived.Lib.SlKeysI
import Derived.RangeFuncBox
import Derived.Maps.RangeWalk
import Derived.Laws.AppendOwnNone
import Derived.Maps.OwnIn
import Derived.Test.YtcfchohkmkilpaaGreatDoorHV
import Derived.Test.YtcfchohkmkilpaaGreatDoorRows
import Derived.ProofKit
import Derived.Deep.Slices
import Derived.Deep.Fields
import Derived.Lib.SmallJoins
import Derived.OpenShut
import Derived.LaidMore
import Derived.Stop.Joined
import Derived.Stop.LaidErr
import Derived.Lay
import Derived.SevenTiedAt
import Derived.JoinedOf
import Derived.Test.YtcfchohkmkilpaaGreatDoorTie
import Derived.Test.YtcfchohkmkilpaaGreatDoorCards
import Derived.SizedLaws
namespace Go.Proofs.YtcfchohkmkilpaaGreatDoor
set_option maxRecDepth 100000
set_option maxHeartbeats 16000000
section
open Go Go.RowKit
theorem Srt.take_ {l:List Int} {P:Int->Prop} {q:Int} (h:Srt l (fun z=>P z/\0<=z/\z<q)) (h0:0<=q) (hq:P q):Srt (l ++ [q]) (fun z=>P z/\0<=z/\z<q+1):=
 (h.push (fun _ hz=>hz.2.2)).iff fun z=>by
   constructor
   ·rintro (⟨a,b,c⟩ | rfl)
    ·exact ⟨a,b,by omega⟩
    ·exact ⟨hq,h0,by omega⟩
   ·rintro ⟨a,b,c⟩;by_cases e:z=q
    ·exact .inr e
    ·exact .inl ⟨a,b,by omega⟩
theorem Srt.skip_ {l:List Int} {P:Int->Prop} {q:Int} (h:Srt l (fun z=>P z/\0<=z/\z<q)) (hq:¬P q):Srt l (fun z=>P z/\0<=z/\z<q+1):=
 h.iff fun z=>by
  constructor
  ·rintro ⟨a,b,c⟩;exact ⟨a,b,by omega⟩
  ·rintro ⟨a,b,c⟩;refine ⟨a,b,?_⟩;by_cases e:z=q
   ·subst e;exact absurd a hq
   ·omega
end
section
open Go Go.RowKit Go.Maps
theorem xGS (b:Bdy) (bh:BH) (w:World) (H:BdAt w b bh) (hc:cntB b.blocks<=1000000000000):
 Calls Tryz.prog 17 #[.agg (bdC b bh).toArray] w fun e' w'=>e' = .returned (.int .i64 (cntB b.blocks))/\Below w.heap.size w w':=
 (rcount_any' b bh w H).mono (by
   rintro e' w' ⟨⟨q,rfl,hq⟩,hb⟩;rw [fR] at hq
   exact ⟨by rw [hq.out (by omega)],hb⟩)
end
section
open Go Go.RowKit Go.Maps
def tgAny (bs:List Blk) (q:Int) (l:List Int):Bool:=l.any (fun t=>decide (0<=t/\t<(bs.length:Int)/\(stB bs t.toNat:Int)=q))
theorem xGV {bs:List Blk} {q:Int} {l:List Int}:tgAny bs q l=true↔q∈tgL bs l:=by
 rw [vA];simp only [tgAny,List.any_eq_true,decide_eq_true_eq];exact ⟨fun ⟨t,a,b,c,d⟩=>⟨t,a,b,c,d.symm⟩,fun ⟨t,a,b,c,d⟩=>⟨t,a,b,c,d.symm⟩⟩
theorem xGT (bs:List Blk) (q t:Int) (l:List Int):tgAny bs q (t :: l)=(decide (0<=t/\t<(bs.length:Int)/\(stB bs t.toNat:Int)=q) || tgAny bs q l):=rfl
theorem xHF (b:Bdy) (bh:BH) (p q:Int) (w:World) (H:BdAt w b bh) (hc:cntB b.blocks<=1000000000000) (hp : -9223372036854775808<=p/\p<=9223372036854775807):
 Calls Tryz.prog 54 #[.agg (bdC b bh).toArray,.int .i64 p,.int .i64 q] w fun e' w'=>∃r:Bool,e' = .returned (.bool r)/\(r=true↔folP b.blocks p q)/\Below w.heap.size w w':=by
 have HL:=aF (fun (W:World) (hb:Below w.heap.size w W)=>rE b bh p W (H.keep hb) hc hp);have HF:=aF (fun (W:World) (hb:Below w.heap.size w W) (k:Nat) hk=>zQ b bh k W (H.keep hb) hk hc);have HBLK:=aF H.blk;have hbl:=H.blk.le;have hbg:=H.blk.big;have HY:=aF (cQ w [Value.string b.name,.slice bh.A1 b.regions.length bh.c1,.slice bh.A2 b.outl.length bh.c2,.slice bh.A3 b.types.length bh.c3,.slice bh.A4 b.locals.length bh.c4,.int .i64 b.args,.slice bh.A5 b.blocks.length bh.c5] 28);have HC:=aF hc;clear H hc;unfold bdC at *;cases hloc:locB b.blocks p with
 | none=>
   have HN:Hid (¬folP b.blocks p q):=aF (fun ⟨_,_,_,h,_⟩=>by rw [hloc] at h;cases h);rw [hloc] at HL;unfold lcV at HL;clear hloc;go_enter Tryz.func54,Tryz.ntmps54
   go_wp2_with (go_at_call 35;refine (HL.out _ ((aX _ _).alloc (aY _) _)).mono ?_;rintro e' w1 ⟨rfl,hb1⟩)
   go_ret;exact ⟨false,rfl,by simp [HN.out],((aX _ _).alloc (aY _) _).trans (hb1.mono (by simp))⟩
 | some ik=>
   obtain ⟨i,k⟩:=ik;obtain ⟨x,hx,hk,hi⟩:=mI hloc;have hpx:p=(stB b.blocks i+k:Nat):=by obtain ⟨_,_,_,h⟩:=eD.1 hloc;exact h
   have HFOL:=aF (by have h:=xBP hx hk q;rw [<- hpx] at h;exact h);rw [hloc] at HL;unfold lcV at HL;obtain ⟨bb,oo,hA,hbb,hxx⟩:=HBLK.out.sl.at_ hi;obtain ⟨A1,c1,A2,c2,A3,c3,A4,c4,p0,p1,p2,p3,p4,p5,p6,hs1,hs2,-⟩:=eV hxx;rw [show b.blocks[i]=x from by rw [bD hi] at hx;injection hx] at p0 p1 p2 p3 p4 p5 p6 hs1 hs2;have HT:=aF hs2;have htl:=hs2.le;have htb:=hs2.big;have hlt:=jN hx;have hp12:p<1000000000000:=by have:=HC.out;omega
   have hp0:0<=p:=by omega
   rw [hA] at HL HF HY ⊢;clear hA hxx hs1 hs2 hloc hx hpx hlt;have hal:Below w.heap.size w (w.alloc (.cells ([Value.string b.name,.slice bh.A1 b.regions.length bh.c1,.slice bh.A2 b.outl.length bh.c2,.slice bh.A3 b.types.length bh.c3,.slice bh.A4 b.locals.length bh.c4,.int .i64 b.args,.slice (some ⟨bb,oo,none⟩) b.blocks.length bh.c5]).toArray 28)):=(aX _ _).alloc (aY _) _;have HAL:=aF hal;have HP0:=aF p0;have HP2:=aF p2;have hki:(i:Int)<(b.blocks.length:Int):=by omega
   clear p0 p1 p2 p3 p4 p5 p6;by_cases hks:k<x.stmts.length
   ·have HE:Hid (folP b.blocks p q↔q=p+1):=aF (by have h:=HFOL.out;rwa [bA hks] at h);have hks2:(k:Int)<(x.stmts.length:Int):=(by omega);clear HFOL HF HT;go_enter Tryz.func54,Tryz.ntmps54
    go_wp2_with (go_at_call 35;refine (HL.out _ hal).mono ?_;rintro e' w1 ⟨rfl,hb1⟩;have hbw:=HAL.out.trans (hb1.mono HAL.out.size);have y6:=cO hb1 (HY.out 6 _ rfl);have m0:=cO hbw HP0.out;have hl1:=hbw.size)
    go_ret;exact ⟨_,rfl,by rw [HE.out];simp,hbw⟩
   ·have HE:Hid (folP b.blocks p q↔tgAny b.blocks q x.term.targets=true):=aF (by have h:=HFOL.out;rw [aZ hks] at h;rw [h,xGV]);have hks2:¬(k:Int)<(x.stmts.length:Int):=(by omega);clear HFOL;go_enter Tryz.func54,Tryz.ntmps54
    go_wp2_with (go_at_call 35;refine (HL.out _ hal).mono ?_;rintro e' w1 ⟨rfl,hb1⟩;have hbw:=HAL.out.trans (hb1.mono HAL.out.size);have HYY:=aF (fun i v hi=>cO hb1 (HY.out i v hi));have y6:=HYY.out 6 _ rfl;have m0:=cO hbw HP0.out;have m2:=cO hbw HP2.out;have hl1:=hbw.size;have hlw:w.heap.size<w1.heap.size:=cD w1 _ y6)
    have HBW:=aF hbw;clear m0 m2 y6 hbw hb1 hal;go_loopw [11] (fun j wr=>∃m:Nat,j = .int .i64 m/\m<=x.term.targets.length/\Hid (aA ([Value.string b.name,.slice bh.A1 b.regions.length bh.c1,.slice bh.A2 b.outl.length bh.c2,.slice bh.A3 b.types.length bh.c3,.slice bh.A4 b.locals.length bh.c4,.int .i64 b.args,.slice (some ⟨bb,oo,none⟩) b.blocks.length bh.c5]) wr w.heap.size)/\Hid (Below w.heap.size w wr)/\w.heap.size<wr.heap.size/\Hid (tgAny b.blocks q x.term.targets=tgAny b.blocks q (x.term.targets.drop m))) (fun j _=>x.term.targets.length - (intOf j).toNat)
    case atStart=>exact ⟨0,rfl,by omega,HYY,HBW,hlw,aF rfl⟩
    case round=>
     clear HYY HBW;obtain ⟨m,rfl,hm,HYY,HBW,hlw2,hr⟩:=hrel;by_cases hlt:m<x.term.targets.length
     case neg=>
      have HN:Hid (tgAny b.blocks q x.term.targets=false):=aF (by rw [hr.out,bE (by omega)];rfl);go_wp2_with fail
      go_ret;exact ⟨false,rfl,by rw [HE.out,HN.out],HBW.out⟩
     case pos=>
     obtain ⟨tb,to_,hTA,htb2,ht0⟩:=(HT.out.keep RInt.keeps HBW.out).sl.at_ hlt;have t0:wr.cell? ⟨tb,to_+m,none⟩=some (.int .i64 x.term.targets[m]):=(by simpa [RInt] using ht0);have HD:Hid (tgAny b.blocks q x.term.targets=(decide (0<=x.term.targets[m]/\x.term.targets[m]<(b.blocks.length:Int)/\(stB b.blocks x.term.targets[m].toNat:Int)=q) || tgAny b.blocks q (x.term.targets.drop (m+1)))):=aF (by rw [hr.out,cV hlt,xGT]);generalize x.term.targets[m]=t at *;rw [hTA];have HTA:=aF hTA;clear ht0 hTA hr;go_wp2_with fail
     have hS:(aA ([Value.string b.name,.slice bh.A1 b.regions.length bh.c1,.slice bh.A2 b.outl.length bh.c2,.slice bh.A3 b.types.length bh.c3,.slice bh.A4 b.locals.length bh.c4,.int .i64 b.args,.slice (some ⟨bb,oo,none⟩) b.blocks.length bh.c5]) wr.drew w.heap.size)/\wr.drew.cell? ⟨tb,to_+m,none⟩=some (.int .i64 t):=⟨HYY.out,t0⟩;refine cT (S:=fun X=>(aA ([Value.string b.name,.slice bh.A1 b.regions.length bh.c1,.slice bh.A2 b.outl.length bh.c2,.slice bh.A3 b.types.length bh.c3,.slice bh.A4 b.locals.length bh.c4,.int .i64 b.args,.slice (some ⟨bb,oo,none⟩) b.blocks.length bh.c5]) X w.heap.size)/\X.cell? ⟨tb,to_+m,none⟩=some (.int .i64 t)) [0,1,2,3,4,5,6,7,8,9,10,11,12,13,14,15,16,17,18,19,20,22,21,23,24] (by kernel_rfl) ?_;by_cases h1:0<=t
     case neg=>
      have HE2:Hid (tgAny b.blocks q x.term.targets=tgAny b.blocks q (x.term.targets.drop (m+1))):=aF (by rw [HD.out,decide_eq_false (fun h=>h1 h.1)];rfl);(iterate 6 (refine cR (v:=?_) ?_ hS ?_;rotate_left;(next=>(rintro X ⟨hX,hY⟩;(try simp only [aI]);go_simp;rfl));simp only [aM]));(iterate 8 (refine dA (v:=undef) (by kernel_rfl) (fun _ _ _ h=>h) (Or.inr ⟨by rfl,rfl⟩) hS ?_;simp only [aM]));(iterate 2 (refine cR (v:=?_) ?_ hS ?_;rotate_left;(next=>(rintro X ⟨hX,hY⟩;(try simp only [aI]);go_simp;rfl));simp only [aM]));(iterate 8 (refine dA (v:=undef) (by kernel_rfl) (fun _ _ _ h=>h) (Or.inr ⟨by rfl,rfl⟩) hS ?_;simp only [aM]));((refine cR (v:=?_) ?_ hS ?_;rotate_left;(next=>(rintro X ⟨hX,hY⟩;(try simp only [aI]);go_simp;rfl));simp only [aM]))
      refine cZ ?_;go_wp2_with fail
      go_roundw
      case rel=>exact ⟨m+1,by go_num,by omega,HYY,aF HBW.out.drew,hlw2,HE2⟩
      case measure=>simp [intOf];omega
     case pos=>
     by_cases h2:t<(b.blocks.length:Int)
     case neg=>
      have HE2:Hid (tgAny b.blocks q x.term.targets=tgAny b.blocks q (x.term.targets.drop (m+1))):=aF (by rw [HD.out,decide_eq_false (fun h=>h2 h.2.1)];rfl);(iterate 16 (refine cR (v:=?_) ?_ hS ?_;rotate_left;(next=>(rintro X ⟨hX,hY⟩;have s6:=hX 6 _ rfl;(try simp only [aI]);go_simp;rfl));simp only [aM]));(iterate 8 (refine dA (v:=undef) (by kernel_rfl) (fun _ _ _ h=>h) (Or.inr ⟨by rfl,rfl⟩) hS ?_;simp only [aM]));((refine cR (v:=?_) ?_ hS ?_;rotate_left;(next=>(rintro X ⟨hX,hY⟩;(try simp only [aI]);go_simp;rfl));simp only [aM]))
      refine cZ ?_;go_wp2_with fail
      go_roundw
      case rel=>exact ⟨m+1,by go_num,by omega,HYY,aF HBW.out.drew,hlw2,HE2⟩
      case measure=>simp [intOf];omega
     case pos=>
     obtain ⟨j,rfl⟩:=bG h1;have hj:j<=b.blocks.length:=(by omega);(iterate 22 (refine cR (v:=?_) ?_ hS ?_;rotate_left;(next=>(rintro X ⟨hX,hY⟩;obtain ⟨s0,s1,s2,s3,s4,s5,s6⟩:=aS hX;(try simp only [aI]);go_simp;rfl));simp only [aM]));(refine cY (fun K1 hK1=>?_);simp only [aM];rw [bA (by rfl)];go_simp);have HS:=aF hS;go_at_call 22
     refine (HF.out wr.drew HBW.out.drew j hj).mono ?_;rintro e' w3 ⟨rfl,hb3⟩;have hS2:(aA ([Value.string b.name,.slice bh.A1 b.regions.length bh.c1,.slice bh.A2 b.outl.length bh.c2,.slice bh.A3 b.types.length bh.c3,.slice bh.A4 b.locals.length bh.c4,.int .i64 b.args,.slice (some ⟨bb,oo,none⟩) b.blocks.length bh.c5]) w3 w.heap.size)/\w3.cell? ⟨tb,to_+m,none⟩=some (.int .i64 (j:Int)):=⟨fun i v hi=>cO hb3 (HS.out.1 i v hi),cO hb3 HS.out.2⟩;have HS2:=aF hS2.1;have HB3:=aF (HBW.out.drew.trans (hb3.mono HBW.out.size));have hl3:w.heap.size<w3.heap.size:=bN hlw2 hb3.size;refine hK1.out _ _ (fun _=>hS2) ?_;have hS:=hS2;by_cases h3:(stB b.blocks j:Int)=q
     ·have HE2:Hid (tgAny b.blocks q x.term.targets=true):=aF (by rw [HD.out,decide_eq_true (by rw [bV];exact ⟨h1,h2,h3⟩)];rfl);have h4:((stB b.blocks j:Int) == q)=true:=by simp [h3]
      (iterate 2 (refine cR (v:=?_) ?_ hS ?_;rotate_left;(next=>(rintro X ⟨hX,hY⟩;(try simp only [aI]);go_simp;rfl));simp only [aM]));refine cZ ?_;go_wp2_with fail
      go_ret;exact ⟨true,rfl,by rw [HE.out,HE2.out],HB3.out⟩
     ·have HE2:Hid (tgAny b.blocks q x.term.targets=tgAny b.blocks q (x.term.targets.drop (m+1))):=aF (by rw [HD.out,decide_eq_false (fun h=>h3 (by have:=h.2.2;rwa [bV] at this))];rfl);have h4:((stB b.blocks j:Int) == q)=false:=by simp [h3]
      (iterate 2 (refine cR (v:=?_) ?_ hS ?_;rotate_left;(next=>(rintro X ⟨hX,hY⟩;(try simp only [aI]);go_simp;rfl));simp only [aM]));refine cZ ?_;go_wp2_with fail
      go_roundw
      case rel=>exact ⟨m+1,by go_num,by omega,HS2,HB3,hl3,HE2⟩
      case measure=>simp [intOf];omega
theorem xGX {w:World} {base:Nat} {e:TypeId} {size n m c:Nat} {A:Option Addr} {xs:List Value} (h:w.ownsRow base e size (.slice A m c) n xs):A=none->c=0:=fun e=>by
 subst e;rcases h.2 with ⟨h,_⟩ | ⟨g,cap,cur,h,_⟩
 ·injection h
 ·cases h
theorem xGW (b:Bdy) (bh:BH) (p:Int) (w:World) (H:BdAt w b bh) (hc:cntB b.blocks<=1000000000000) (hp : -9223372036854775808<=p/\p<=9223372036854775807):
 Calls Tryz.prog 23 #[.agg (bdC b bh).toArray,.int .i64 p] w fun e' w'=>∃A c s,e' = .returned (.slice A s.length c)/\Srt s (folP b.blocks p)/\Slc 1 RInt w' A c s/\(∀a,A=some a->w.heap.size<=a.block)/\(A=none->c=0)/\Below w.heap.size w w':=by
 have HN:=aF (fun (W:World) (hb:Below w.heap.size w W)=>xGS b bh W (H.keep hb) hc);have HF:=aF (fun (W:World) (hb:Below w.heap.size w W) (q:Int)=>xHF b bh p q W (H.keep hb) hc hp);have HY:=aF (cQ w [Value.string b.name,.slice bh.A1 b.regions.length bh.c1,.slice bh.A2 b.outl.length bh.c2,.slice bh.A3 b.types.length bh.c3,.slice bh.A4 b.locals.length bh.c4,.int .i64 b.args,.slice bh.A5 b.blocks.length bh.c5] 28);obtain ⟨i0,hi0,hz0,hz1,hz2⟩:=info_parts dU;clear H;unfold bdC at *;have HLT:=aF (fun z (h:folP b.blocks p z)=>(fX h).2.2);generalize hcn:cntB b.blocks=cn at *;generalize folP b.blocks p=P at *;clear hcn;go_enter Tryz.func23,Tryz.ntmps23
 go_wp2_with fail
 go_loopw [5,6] (fun v q wr=>∃(m:Nat) (s:List Int),q = .int .i64 m/\m<=cn/\Hid (wr.ownsRow (w.heap.size+1) 3 1 v s.length (s.map (Value.int .i64)))/\Hid (Srt s (fun z=>P z/\0<=z/\z<(m:Int)))/\Hid (aA (bdH b bh []) wr w.heap.size)/\Hid (Below w.heap.size w wr)/\w.heap.size<wr.heap.size) (fun _ q _=>cn - (intOf q).toNat)
 case atStart=>exact ⟨0,[],rfl,by omega,aF (World.ownsRow_nil _ _ _ _),aF Srt.zero,HY,aF ((aX _ _).alloc (aY _) _),by simp⟩
 case round=>
  clear HY;obtain ⟨m,s,rfl,hm,HO,HS,HX,HB,hlw⟩:=hrel;have hsl:=HS.out.len (n:=m) (fun z hz=>hz.2);obtain ⟨y0,y1,y2,y3,y4,y5,y6⟩:=aS HX.out;by_cases hlt:m<cn
  case neg=>
   have hme:m=cn:=by omega
   subst hme;have HF2:Hid (Srt s P):=aF (HS.out.iff fun z=>⟨fun h=>h.1,fun h=>⟨h,HLT.out z h⟩⟩);obtain ⟨A,c,rfl,hs1,hlo⟩:=fD (R:=RInt) (fun _ _ _ _ _ h=>h) HO.out rfl;have HS1:=aF hs1;have HLO:=aF hlo;have HC0:=aF (xGX HO.out);clear hs1 hlo;go_wp2_with (go_at_call 17;refine (HN.out _ HB.out).mono ?_;rintro e' w3 ⟨rfl,hb3⟩)
   go_ret;exact ⟨A,c,s,rfl,HF2.out,HS1.out.keep RInt.keeps hb3,fun a h=>(by have:=(HLO.out a h).1;omega),HC0.out,HB.out.trans (hb3.mono HB.out.size)⟩
  case pos=>
  obtain ⟨VA,vc,rfl⟩:=dE HO.out
  go_wp2_with (first
   | (go_at_call 17;refine (HN.out _ HB.out).mono ?_;rintro e' w3 ⟨rfl,hb3⟩;have HB3:=aF (HB.out.trans (hb3.mono HB.out.size));have HX3:=aF (fun i v hi=>cO hb3 (HX.out i v hi));have HO3:=aF (dG HO.out hb3);have hl3:=hb3.size;clear y0 y1 y2 y3 y4 y5 y6 hb3;have y0:=HX3.out 0 _ rfl;have y1:=HX3.out 1 _ rfl;have y2:=HX3.out 2 _ rfl;have y3:=HX3.out 3 _ rfl;have y4:=HX3.out 4 _ rfl;have y5:=HX3.out 5 _ rfl;have y6:=HX3.out 6 _ rfl)
   | (go_at_call 54;refine (HF.out _ HB3.out m).mono ?_;rintro e' w4 ⟨r,rfl,hr,hb4⟩;have HR:=aF hr;have HB4:=aF (HB3.out.trans (hb4.mono HB3.out.size));have HX4:=aF (fun i v hi=>cO hb4 (HX3.out i v hi));have HO4:=aF (dG HO3.out hb4);have hl4:=hb4.size;clear y0 y1 y2 y3 y4 y5 y6 hb4 hr;cases r)
   | (at_builtin;refine wpList_append_own _ rfl _ _ 34 rfl (w.heap.size+1) 3 i0 (.int .i64 0) 1 8 Tryz.underlying34 hi0 hz0 hz1 hz2 rfl (by decide) _ _ _ rfl (HO4.out.alloc (.cells #[.int .i64 (m:Int)] 3)) ⟨w4.heap.size,0,none⟩ 1 1 [.int .i64 (m:Int)] rfl rfl (cell_one_new _ _ _) (fun u hu=>by simp at hu;subst hu;rfl) (by unfold maxLen;omega) (by omega) (by simp;omega) ?_;intro v' w5 hown' hgrow _))
  ·have HS2:=aF (HS.out.skip_ (fun h=>by have:=HR.out.2 h;cases this));go_roundw
   case rel=>exact ⟨m+1,s,by go_num,by omega,HO4,HS2,HX4,HB4,by omega⟩
   case measure=>simp [intOf];omega
  ·have HS2:=aF (HS.out.take_ (by omega) (HR.out.1 (by simp)));have hlo:=fun g hg=>((HO4.out.alloc (.cells #[.int .i64 (m:Int)] 3)).lt g hg).1
   have HB5:=aF (((HB4.out.alloc HB4.out.size (.cells #[.int .i64 (m:Int)] 3)).grown hgrow (by have:=HB4.out.size;simp;omega) (fun g hg=>by have:=hlo g hg;omega)));have hx5:Hid (aA (bdH b bh []) w5 w.heap.size):=aF (fun i v hi=>(World.cell?_of_block (a:=⟨w.heap.size,i,none⟩) (hgrow.block w.heap.size (by simp;omega) (dV (HO4.out.alloc (.cells #[.int .i64 (m:Int)] 3)) (by omega)))).trans (cO ((aX _ _).alloc (aY _) (.cells #[.int .i64 (m:Int)] 3)) (HX4.out i v hi)));go_roundw
   case rel=>exact ⟨m+1,s ++ [(m:Int)],by go_num,by omega,aF (by rw [bB,bS];exact hown'),HS2,hx5,HB5,by have:=hgrow.size;simp at this;omega⟩
   case measure=>simp [intOf];omega
end
section
open Go Go.RowKit
attribute [local irreducible] Calls
theorem xHA (A:Option Addr) (c:Nat) (s:List Int) (x:Int) (w:World) (h:Slc 1 RInt w A c s):
 Calls Tryz.prog 55 #[.slice A s.length c,.int .i64 x] w fun e' w'=>(∃r:Int,e' = .returned (.int .i64 r)/\(0<=r↔x∈s))/\Below w.heap.size w w':=by
 have HS:=aF h;have n1:=h.le;have n2:=h.big;clear h;go_enter Tryz.func55,Tryz.ntmps55
 go_wp2_with fail
 go_loopw [4,5,8] (fun _ _ i wr=>∃k:Nat,i = .int .i64 k/\k<=s.length/\Hid (x∉s.take k)/\Hid (Below w.heap.size w wr)) (fun _ _ i _=>s.length - (intOf i).toNat)
 case atStart=>exact ⟨0,rfl,by omega,aF (by simp),aF (aX _ _)⟩
 case round=>
  obtain ⟨k,rfl,hk,HN,HB⟩:=hrel;by_cases hlt:k<s.length
  case pos=>
   obtain ⟨g,o,rfl,hg,hx⟩:=(HS.out.keep RInt.keeps HB.out).sl.at_ hlt;have x0:wr.cell? ⟨g,o+k,none⟩=some (.int .i64 s[k]):=by simpa [RInt] using hx
   have HM:=aF (bM hlt);have HT:=aF (bF hlt);clear hx;generalize s[k]=y at *;by_cases hxy:x=y
   ·have hb:(x == y)=true:=by simp [hxy]
    have HI:Hid (x∈s):=aF (by rw [hxy];exact HM.out);clear hxy;go_wp2_with fail
    go_ret;exact ⟨⟨_,rfl,⟨fun _=>HI.out,fun _=>by omega⟩⟩,HB.out⟩
   ·have hb:(x == y)=false:=by simp [hxy]
    have HN2:Hid (x∉s.take (k+1)):=aF (by rw [HT.out];simp [hxy];exact HN.out);clear hxy;go_wp2_with fail
    go_roundw
    case rel=>exact ⟨k+1,by go_num,by omega,HN2,HB⟩
    case measure=>simp [intOf];omega
  case neg=>
   have HN2:Hid (x∉s):=aF (by have:=HN.out;rwa [List.take_of_length_le (by omega)] at this);go_wp2_with fail
   go_ret;exact ⟨⟨-1,rfl,⟨fun h=>absurd h (by decide),fun h=>absurd h HN2.out⟩⟩,HB.out⟩
theorem xHC (A:Option Addr) (c:Nat) (s:List Int) (x:Int) (w:World) (h:Slc 1 RInt w A c s):
 Calls Tryz.prog 24 #[.slice A s.length c,.int .i64 x] w fun e' w'=>e' = .returned (.bool (decide (x∈s)))/\Below w.heap.size w w':=by
 have HX:=aF (xHA A c s x w h);clear h;obtain ⟨P,hP⟩:∃P:Bool,decide (x∈s)=P:=⟨_,rfl⟩;have HP:=aF hP;rw [hP];clear hP;go_enter Tryz.func24,Tryz.ntmps24
 go_wp2_with (go_at_call 55;refine HX.out.mono ?_;rintro e' w1 ⟨⟨r,rfl,hr⟩,hw1⟩;have HR:=aF hr;clear hr)
 go_ret;refine ⟨?_,hw1⟩;have e:decide (0<=r)=decide (x∈s):=decide_eq_decide.2 HR.out;rw [<- HP.out,e];rfl
end
section
open Go Go.RowKit
theorem xFI {a b:Bool} (ha:a=true) (hb:b=true):(a && b)=true:=by rw [ha,hb];rfl
theorem xGR:(Rows.livenessEquationsRow.wf (OpenSpec.ofChange Rows.livenessEquationsSpec))=true:=by kernel_rfl
theorem xGQ:(laidOutB Tryz.prog)=true:=by kernel_rfl
theorem xGP:(mapsRowed Tryz.prog)=true:=by kernel_rfl
theorem xGO:(Tryz.f6.params.all (Tryz.prog.readableRec ·))=true:=by kernel_rfl
theorem xGN:(namedTie Tryz.prog Rows.livenessEquationsRow.named Rows.livenessEquationsSpec.vars)=true:=by kernel_rfl
theorem xGM:((Rows.livenessEquationsRow.stops == []))=true:=by kernel_rfl
theorem xGL:((Tryz.prog.stops == []))=true:=by kernel_rfl
theorem xGK:((Rows.livenessEquationsRow.knobs == []))=true:=by kernel_rfl
theorem xGJ:((Tryz.prog.stopKnobs == []))=true:=by kernel_rfl
theorem xGI:((Rows.livenessEquationsRow.inPlace == Tryz.prog.inPlace 6))=true:=by kernel_rfl
theorem xGH:((Rows.livenessEquationsRow.unfollowed == Tryz.prog.unfollowed 6))=true:=by kernel_rfl
theorem xGG:((Rows.livenessEquationsRow.recurses == Tryz.prog.recurses 6))=true:=by kernel_rfl
theorem xGF:((Rows.livenessEquationsRow.named == Tryz.prog.varsNamed 6))=true:=by kernel_rfl
theorem xGE:((Rows.livenessEquationsRow.maps == (Tryz.f6.params.toList ++ Rows.livenessEquationsSpec.plain.varTypes Tryz.prog).any (Tryz.prog.mapsRec ·)))=true:=by kernel_rfl
theorem xGD:((Rows.livenessEquationsRow.ifaces == (Tryz.f6.params.toList ++ Rows.livenessEquationsSpec.plain.varTypes Tryz.prog).any (Tryz.prog.ifacesRec ·)))=true:=by kernel_rfl
theorem xGC:((Rows.livenessEquationsRow.mapsOut == Tryz.prog.mapsAmong Tryz.f6.resultTypes.toList))=true:=by kernel_rfl
theorem xGB:((Rows.livenessEquationsRow.loops == (Tryz.f6.params.toList ++ Rows.livenessEquationsSpec.plain.varTypes Tryz.prog).any (Tryz.prog.loopsFrom ·)))=true:=by kernel_rfl
theorem xGA:((Rows.livenessEquationsRow.wideKeys == (Tryz.f6.params.toList ++ Rows.livenessEquationsSpec.plain.varTypes Tryz.prog ++ Tryz.f6.resultTypes.toList).any (Tryz.prog.wideKeysFrom ·)))=true:=by kernel_rfl
theorem xFZ:(Rows.livenessEquationsSpec.vars.all (Tryz.prog.varReadable ·))=true:=by kernel_rfl
theorem xFY:(Tryz.f6.resultTypes.all (fun t=>Tryz.prog.readableRec t && decide (t<Tryz.prog.types.size)))=true:=by kernel_rfl
theorem xFX:((Rows.livenessEquationsRow.ifacesOut == Tryz.f6.resultTypes.toList.any (Tryz.prog.ifacesRec ·)))=true:=by kernel_rfl
theorem xFW:((Rows.livenessEquationsRow.loopsOut == Tryz.f6.resultTypes.toList.any (Tryz.prog.loopsFrom ·)))=true:=by kernel_rfl
theorem xFV:((Rows.livenessEquationsRow.plainKeys == Tryz.prog.plainKeys))=true:=by kernel_rfl
theorem xFU:(Rows.livenessEquationsRow.shortTexts.isNone)=true:=by kernel_rfl
theorem xFT:(Tryz.prog.stopsHeard)=true:=by kernel_rfl
theorem xFS:(Tryz.prog.mayEnter)=true:=by kernel_rfl
theorem xFR:((Rows.livenessEquationsRow.lifted == Tryz.prog.liftsFinal))=true:=by kernel_rfl
theorem xFQ:((Tryz.prog.make == some Rows.livenessEquationsRow.make))=true:=by kernel_rfl
theorem xFP:((Rows.livenessEquationsRow.kinds == (if Rows.livenessEquationsRow.domain.isEmpty then [] else Tryz.f6.params.toList.map fun t=>match Tryz.prog.underlying t with | some (.int k)=>some k | _=>none)))=true:=by kernel_rfl
theorem xFO:((Rows.livenessEquationsRow.pinned == Rows.livenessEquationsRow.pinnedBy))=true:=by kernel_rfl
theorem xFN:((Rows.livenessEquationsRow.veiled == (Tryz.f6.params.toList ++ Rows.livenessEquationsSpec.plain.varTypes Tryz.prog ++ Tryz.f6.resultTypes.toList).any (Tryz.prog.veiledRec ·)))=true:=by kernel_rfl
theorem xFM:(Rows.livenessEquationsRow.veiledFits Tryz.prog Tryz.f6.params.toList (Tryz.f6.params.toList ++ Rows.livenessEquationsSpec.plain.varTypes Tryz.prog ++ Tryz.f6.resultTypes.toList))=true:=by kernel_rfl
theorem xFK:joinedFacts Tryz.prog 6 Tryz.f6 Rows.livenessEquationsSpec Rows.livenessEquationsRow=true:=(xFI (xFI (xFI (xFI (xFI (xFI (xFI (xFI (xFI (xFI (xFI (xFI (xFI (xFI (xFI (xFI (xFI (xFI (xFI (xFI (xFI (xFI (xFI (xFI (xFI (xFI (xFI (xFI (xFI (xFI (xFI xGR xGQ) xGP) xGO) xGN) xGM) xGL) xGK) xGJ) xGI) xGH) xGG) xGF) xGE) xGD) xGC) xGB) xGA) xFZ) xFY) xFX) xFW) xFV) xFU) xFT) xFS) xFR) xFQ) xFP) xFO) xFN) xFM)
end
section
open Go Go.RowKit
attribute [local irreducible] Calls
def locU (b:Bdy):List Int:=(List.range b.locals.length).map (fun (i:Nat)=>(i:Int))
theorem xHB {b:Bdy} {z:Int} (h:LocIn b z):z∈locU b:=by
 unfold LocIn at h;unfold locU;rw [List.mem_map];exact ⟨z.toNat,List.mem_range.2 (by omega),by omega⟩
theorem Ok12.targets {b:Bdy} (h:Ok12 b):∀x∈b.blocks,x.term.targets.length<=1000000000000:=fun x hx=>by
 have:=(xR h.chk).blks x hx;omega
theorem Ok12.uses {b:Bdy} (h:Ok12 b):∀p,∀z∈usP b.blocks p,z∈locU b/\Sml z:=fun _ _ hz=>⟨xHB (xEG h.chk hz),h.sml hz⟩
theorem Ok12.ulen {b:Bdy} (h:Ok12 b):(locU b).length<=1000:=by
 have:=h.loc;unfold locU;simp;omega
def LocQ (b:Bdy) (w:World) (e':Ending) (w':World):Prop:=∃A c ll,e' = .returned (.slice A ll.length c)/\ll.length=cntB b.blocks/\(∀(k:Nat) (l:List Int),ll[k]?=some l->Srt l (fun z=>Lv b.blocks z (k:Int)))/\Slc 1 (RSl 1 RInt) w' A c ll/\Below w.heap.size w w'
theorem xGU (b:Bdy) (bh:BH) (w:World) (H:BdAt w b bh) (h:Ok12 b):Calls Tryz.prog 21 #[.agg (bdC b bh).toArray] w (LocQ b w):=
 qA b bh w (locU b) H (by have:=h.cnt;omega) (by have:=h.ns.blk;omega) h.targets h.uses h.ulen
end
section
open Go Go.RowKit
attribute [local irreducible] Calls
theorem xHE {w:World} {A:Option Addr} {c:Nat} {ll:List (List Int)} (h:Slc 1 (RSl 1 RInt) w A c ll) {k:Nat} {l:List Int} (hk:ll[k]?=some l):∃g o P e,A=some ⟨g,o,none⟩/\w.cell? ⟨g,o+k,none⟩=some (.slice P l.length e)/\Slc 1 RInt w P e l:=by
 have hl:=(List.getElem?_eq_some_iff.1 hk).1;obtain ⟨g,o,rfl,_,hx⟩:=h.sl (by omega);obtain ⟨P,e,q1,q2,q3,q4⟩:=hx k l hk;rw [Nat.mul_one] at q1;exact ⟨g,o,P,e,rfl,q1,⟨q4,q2,q3⟩⟩
end
section
open Go Go.RowKit
attribute [local irreducible] Calls
def anyL (f:Int->Bool) (s:List Int):Bool:=s.any f
theorem xGZ {f:Int->Bool} {s:List Int} {k:Nat} (h:k<s.length):anyL f (s.take (k+1))=(anyL f (s.take k) || f s[k]):=by
 unfold anyL;rw [bF h,List.any_append];simp
theorem xHD {bs:List Blk} {f:Int->Int->Bool} (hf:∀x p,f x p=true↔Lv bs x p) {x p dd:Int} {hd u:Bool} {s:List Int} (hs:Srt s (folP bs p)) (hD:dfP bs p=if hd then some dd else none) (hu:u=decide (x∈usP bs p)):
 f x p=(u || (anyL (f x) s && (!hd || (dd != x)))):=by
 rw [bQ,hf,Lv.iff,hD,hu];simp only [Bool.or_eq_true,bP,decide_eq_true_eq,Bool.not_eq_true',bne_iff_ne];refine or_congr Iff.rfl (and_congr ?_ ?_)
 ·unfold anyL;rw [List.any_eq_true];constructor
  ·rintro ⟨q,a,b⟩;exact ⟨q,(hs.2 q).2 a,(hf x q).2 b⟩
  ·rintro ⟨q,a,b⟩;exact ⟨q,(hs.2 q).1 a,(hf x q).1 b⟩
 ·cases hd <;> simp
theorem xGY (b:Bdy) (bh:BH) (w:World) (hT:TabsOk w) (H:BdAt w b bh) (hz:NmOk b):
 Calls Tryz.prog 6 #[.agg (bdC b bh).toArray] w fun e' w'=>e' = .returned (.bool true)/\Below w.heap.size w w':=by
 have HAL:=aF (fun (W:World) (hb:Below w.heap.size w W)=>qQ W (hT.keep hb));have HSK:=aF (fun (W:World) (hb:Below w.heap.size w W)=>oO b bh W (H.keep hb) hz);have HLO:=aF (fun (W:World) (hb:Below w.heap.size w W) (ho:Ok12 b)=>xGU b bh W (H.keep hb) ho);have HRC:=aF (fun (W:World) (hb:Below w.heap.size w W) (ho:Ok12 b)=>xGS b bh W (H.keep hb) (by have:=ho.cnt;omega));have HRD:=aF (fun (W:World) (hb:Below w.heap.size w W) (ho:Ok12 b) (p:Nat) (hp:p<=1000)=>zT b bh (p:Int) W (H.keep hb) (by have:=ho.cnt;omega) (by omega));have HNX:=aF (fun (W:World) (hb:Below w.heap.size w W) (ho:Ok12 b) (p:Nat) (hp:p<=1000)=>xGW b bh (p:Int) W (H.keep hb) (by have:=ho.cnt;omega) (by omega));have HRU:=aF (fun (W:World) (hb:Below w.heap.size w W) (ho:Ok12 b) (p:Nat) (hp:p<=1000)=>zL b bh (p:Int) W (H.keep hb) (by have:=ho.cnt;omega) (by omega) (fun z hz=>ho.sml hz));have HCO:=aF xHC;have nl1:=H.loc.le;have nl2:=H.loc.big;obtain ⟨f,hf⟩:∃f:Int->Int->Bool,∀x p,f x p=true↔Lv b.blocks x p:=⟨fun x p=> @decide (Lv b.blocks x p) (Classical.propDecidable _),fun x p=>by simp⟩;have HF:=aF hf;obtain ⟨A1,c1,A2,c2,A3,c3,A4,c4,A5,c5⟩:=bh;unfold bdC at *;simp only at *;obtain ⟨W0,hW0⟩:∃W,w.alloc (.cells ([Value.string b.name,.slice A1 b.regions.length c1,.slice A2 b.outl.length c2,.slice A3 b.types.length c3,.slice A4 b.locals.length c4,.int .i64 b.args,.slice A5 b.blocks.length c5]).toArray 28)=W:=⟨_,rfl⟩;have hb0:Below w.heap.size w W0:=by rw [<- hW0];exact (aX _ _).alloc (aY _) _
 have HB0:=aF hb0;have hcx:=cQ w [Value.string b.name,.slice A1 b.regions.length c1,.slice A2 b.outl.length c2,.slice A3 b.types.length c3,.slice A4 b.locals.length c4,.int .i64 b.args,.slice A5 b.blocks.length c5] 28;rw [hW0] at hcx;have HX:=aF (fun (W:World) (hb:Below W0.heap.size W0 W) i v h=>cO hb (hcx i v h));have hX:=hcx;obtain ⟨y0,y1,y2,y3,y4,y5,y6⟩:=aS hX;clear hX hcx hb0 hT H hz hf;go_enter Tryz.func6,Tryz.ntmps6
 go_wp2_with fail
 go_at_call 9
 refine (HSK.out W0 HB0.out).mono ?_;rintro e' w1 ⟨⟨q,rfl,hq⟩,hw1⟩;clear y0 y1 y2 y3 y4 y5 y6;have hX:=HX.out w1 hw1;obtain ⟨y0,y1,y2,y3,y4,y5,y6⟩:=aS hX;clear hX;have HW1:=aF hw1;have HB1:=aF (HB0.out.trans (hw1.mono HB0.out.size));clear hw1;by_cases hq0:0<q
 ·clear hq;go_wp2_with (go_at_call 10;refine (HAL.out _ HB1.out).mono ?_;rintro e' w2 ⟨rfl,hw2⟩)
  go_ret;exact ⟨rfl,HB1.out.trans (hw2.mono HB1.out.size)⟩
 ·have HOK:=aF (hq (by omega));clear hq;obtain ⟨n,hn⟩:∃n,cntB b.blocks=n:=⟨_,rfl⟩;have HNE:=aF hn;rw [hn] at HRC;clear hn;have hn60:n<=60:=by have:=HOK.out.cnt;rw [HNE.out] at this;exact this
  go_wp2_with (first
   | (go_at_call 17;refine (HRC.out _ HB2.out HOK.out).mono ?_;rintro e' w3 ⟨rfl,hw3⟩;have HB3:=aF (HB2.out.trans (hw3.mono HB2.out.size));have HW3:=aF (HW2.out.trans (hw3.mono HW2.out.size));have H3:=aF (H2.out.keep (RSl.keeps RInt.keeps) hw3);clear y0 y1 y2 y3 y4 y5 y6 hw3)
   | (go_at_call 21;refine (HLO.out _ HB1.out HOK.out).mono ?_;rintro e' w2 ⟨A6,c6,ll,rfl,l1,l2,h6,hw2⟩;rw [HNE.out] at l1;have L2:=aF l2;have H2:=aF h6;have n6:=h6.le;have n7:=h6.big;have HB2:=aF (HB1.out.trans (hw2.mono HB1.out.size));have HW2:=aF (HW1.out.trans (hw2.mono HW1.out.size));clear y0 y1 y2 y3 y4 y5 y6 l2 h6 hw2;have hX:=HX.out w2 HW2.out;obtain ⟨y0,y1,y2,y3,y4,y5,y6⟩:=aS hX;clear hX))
  have HLL:Hid (∀(W:World),Below w3.heap.size w3 W->∀(p:Nat),p<n->∃(g o:Nat) (P:Option Addr) (e:Nat) (l:List Int),A6=some ⟨g,o,none⟩/\W.cell? ⟨g,o+p,none⟩=some (.slice P l.length e)/\Slc 1 RInt W P e l/\∀x:Int,decide (x∈l)=f x p):=aF (fun W hb p hp=>by
   have hl:=bD (show p<ll.length by omega);obtain ⟨g,o,P,e,h1,h2,h3⟩:=xHE (H3.out.keep (RSl.keeps RInt.keeps) hb) hl;refine ⟨g,o,P,e,_,h1,h2,h3,fun x=>?_⟩;rw [bQ,decide_eq_true_eq,HF.out]
   exact (L2.out p _ hl).2 x)
  have hX:=HX.out w3 HW3.out;obtain ⟨y0,y1,y2,y3,y4,y5,y6⟩:=aS hX;clear hX;have HL1:=aF l1;go_loopw [2,4,5,6,7,8,10,11,25] (fun _ _ _ _ _ _ _ _ i wr=>∃p:Nat,i = .int .i64 p/\p<=n/\Hid (Below w3.heap.size w3 wr)) (fun _ _ _ _ _ _ _ _ i _=>n - (intOf i).toNat)
  case atStart=>exact ⟨0,rfl,by omega,aF (aX _ _)⟩
  case round=>
  clear y0 y1 y2 y3 y4 y5 y6;obtain ⟨p,rfl,hp,HB⟩:=hrel;have HWr:=aF (HW3.out.trans (HB.out.mono HW3.out.size));have HBr:=aF (HB3.out.trans (HB.out.mono HB3.out.size));have hX:=HX.out wr HWr.out;obtain ⟨y0,y1,y2,y3,y4,y5,y6⟩:=aS hX;clear hX;by_cases hlt:p<n
  case neg=>
   go_wp2_with (go_at_call 10;refine (HAL.out _ HBr.out).mono ?_;rintro e' w4 ⟨rfl,hw4⟩)
   go_ret;exact ⟨rfl,HBr.out.trans (hw4.mono HBr.out.size)⟩
  case pos=>
  obtain ⟨lg,lo,-,-,-,rfl,-⟩:=HLL.out wr HB.out p hlt
  have HLQ:Hid (∀(W:World),Below w3.heap.size w3 W->∀(p:Nat),p<n->∃(P:Option Addr) (e:Nat) (l:List Int),W.cell? ⟨lg,lo+p,none⟩=some (.slice P l.length e)/\Slc 1 RInt W P e l/\∀x:Int,decide (x∈l)=f x p):=aF (fun W hb p hp=>by
   obtain ⟨g,o,P,e,l,h1,h2⟩:=HLL.out W hb p hp;injection h1 with h1
   injection h1 with h3 h4
   subst h3 h4
   exact ⟨P,e,l,h2⟩)
  obtain ⟨dd,hd,hdv,hdd⟩:∃(dd:Int) (hd:Bool),dfV (dfP b.blocks (p:Int)) = .tuple #[.int .i64 dd,.bool hd]/\dfP b.blocks (p:Int)=if hd then some dd else none:=by
   cases dfP b.blocks (p:Int) with
   | none=>exact ⟨0,false,rfl,rfl⟩
   | some x=>exact ⟨x,true,rfl,rfl⟩
  have HDD:=aF hdd;have HRP:=aF (fun W hb=>HRD.out W hb HOK.out p (by omega));rw [hdv] at HRP;have HNP:=aF (fun W hb=>HNX.out W hb HOK.out p (by omega));have HUP:=aF (fun W hb=>HRU.out W hb HOK.out p (by omega));have HIN:=aF (fun z=>(rW srt_nil (usP b.blocks (p:Int))).2 z);clear hdv hdd HRD HNX HRU;go_wp2_with (go_at_call 12;refine (HRP.out _ HBr.out).mono ?_;rintro e' w4 ⟨rfl,hw4⟩;have HB4:=aF (HB.out.trans (hw4.mono HB.out.size));clear y0 y1 y2 y3 y4 y5 y6 hw4;have hX:=HX.out w4 (HW3.out.trans (HB4.out.mono HW3.out.size));obtain ⟨y0,y1,y2,y3,y4,y5,y6⟩:=aS hX;clear hX)
  go_loopw [2,7,8,10,11,37] (fun _ _ _ _ _ i wr=>∃x:Nat,i = .int .i64 x/\x<=b.locals.length/\Hid (Below w3.heap.size w3 wr)) (fun _ _ _ _ _ i _=>b.locals.length - (intOf i).toNat)
  case atStart=>exact ⟨0,rfl,by omega,HB4⟩
  case round=>
  clear y0 y1 y2 y3 y4 y5 y6 HB HBr HWr HB4;obtain ⟨x,rfl,hx,HB⟩:=hrel;have HWr:=aF (HW3.out.trans (HB.out.mono HW3.out.size));have HBr:=aF (HB3.out.trans (HB.out.mono HB3.out.size));have hX:=HX.out wr HWr.out;obtain ⟨y0,y1,y2,y3,y4,y5,y6⟩:=aS hX;clear hX;by_cases hltx:x<b.locals.length
  case neg=>
   go_wp2_with fail
   go_roundw
   case rel=>exact ⟨p+1,by go_num,by omega,HB⟩
   case measure=>simp [intOf];omega
  case pos=>
  go_wp2_with (go_at_call 23;refine (HNP.out _ HBr.out).mono ?_;rintro e' w5 ⟨SA,sc,s,rfl,hsr,hsl,-,-,hw5⟩;have HSR:=aF hsr;have HSL:=aF hsl;have n8:=hsl.le;have n9:=hsl.big;have HB5:=aF (HB.out.trans (hw5.mono HB.out.size));clear y0 y1 y2 y3 y4 y5 y6 hsr hsl hw5)
  go_loopw [8,10,44] (fun v _ i wr=>∃j:Nat,i = .int .i64 j/\j<=s.length/\v = .bool (anyL (f x) (s.take j))/\Hid (Below w5.heap.size w5 wr)) (fun _ _ i _=>s.length - (intOf i).toNat)
  case atStart=>exact ⟨0,rfl,by omega,by simp [anyL],aF (aX _ _)⟩
  case round=>
  clear HB HBr HWr;obtain ⟨j,rfl,hj,rfl,HC⟩:=hrel;have HB:=aF (HB5.out.trans (HC.out.mono HB5.out.size));have HWr:=aF (HW3.out.trans (HB.out.mono HW3.out.size));have HBr:=aF (HB3.out.trans (HB.out.mono HB3.out.size));by_cases hltj:j<s.length
  case pos=>
   obtain ⟨sb,so,hSA,hsb,hx0⟩:=(HSL.out.keep RInt.keeps HC.out).sl.at_ hltj;have hfl:=fX ((HSR.out.2 _).1 (bM hltj));rw [HNE.out] at hfl;have s0:wr.cell? ⟨sb,so+j,none⟩=some (.int .i64 s[j]):=by simpa [RInt] using hx0
   have HSN:=aF (xGZ (f:=f x) hltj);clear hx0;generalize s[j]=q0 at *;obtain ⟨q,rfl⟩:=bG hfl.2.2.1;obtain ⟨P,e,l,r1,r2,r3⟩:=HLQ.out wr HB.out q (by omega);have HCC:=aF (HCO.out P e l x wr r2);rw [r3] at HCC;have hqn:q<n:=by omega
   rw [hSA];clear hfl r2 r3 hSA;generalize anyL (f x) (s.take j)=a at *;generalize f x q=a2 at *;cases a
   ·go_wp2_with (go_at_call 24;refine HCC.out.mono ?_;rintro e' w6 ⟨rfl,hw6⟩)
    go_roundw
    case rel=>exact ⟨j+1,by go_num,by omega,by rw [HSN.out];simp,aF (HC.out.trans (hw6.mono HC.out.size))⟩
    case measure=>simp [intOf];omega
   ·go_wp2_with fail
    go_roundw
    case rel=>exact ⟨j+1,by go_num,by omega,by rw [HSN.out];simp,HC⟩
    case measure=>simp [intOf];omega
  case neg=>
  have hjs:j=s.length:=by omega
  subst hjs;rw [bZ];have HWANT:=aF (fun (u:Bool) hu=>xHD (x:=(x:Int)) (u:=u) HF.out HSR.out HDD.out hu);have hX:=HX.out wr HWr.out;obtain ⟨y0,y1,y2,y3,y4,y5,y6⟩:=aS hX;clear hX;generalize anyL (f x) s=a at *;have HMI:Hid (decide ((x:Int)∈insL [] (usP b.blocks (p:Int)))=decide ((x:Int)∈usP b.blocks (p:Int))):=aF (decide_eq_decide.2 (by rw [HIN.out];simp));clear HSL HSR n8 n9 hj hltj;by_cases hcase:a=true/\(hd=false\/dd≠(x:Int))
  case pos=>
   obtain ⟨rfl,hc2⟩:=hcase
   have HFX:Hid (f x p=true):=aF (by
    rw [HWANT.out _ rfl];rcases hc2 with rfl | h
    ·simp
    ·simp [h])
   cases hd
   ·go_wp2_with (first | (go_at_call 24;refine (HCO.out P9 e9 l9 x _ R9.out).mono ?_;rintro e' w9 ⟨rfl,hw9⟩;have HB9:=aF (HB8.out.trans (hw9.mono HB8.out.size));rw [G9.out,HFX.out];clear hw9) | (go_at_call 24;refine (HCO.out A7 c7 _ x _ H7.out).mono ?_;rintro e' w8 ⟨rfl,hw8⟩;have HB8:=aF (HB7.out.trans (hw8.mono HB7.out.size));obtain ⟨P9,e9,l9,r9,h9,g9⟩:=HLQ.out w8 HB8.out p hlt;have R9:=aF h9;have G9:=aF (g9 x);clear h9 g9 hw8;generalize decide ((x:Int)∈insL [] (usP b.blocks (p:Int)))=u;cases u) | (go_at_call 15;refine (HUP.out _ HBr.out).mono ?_;rintro e' w7 ⟨A7,c7,rfl,h7,hw7⟩;have H7:=aF h7;have HB7:=aF (HB.out.trans (hw7.mono HB.out.size));clear y0 y1 y2 y3 y4 y5 y6 h7 hw7))
    all_goals (go_roundw;(case rel=>exact ⟨x+1,by go_num,by omega,HB9⟩);(case measure=>(simp [intOf];omega)))
   ·have hb:(dd != (x:Int))=true:=by simpa using hc2
    clear hc2;go_wp2_with (first | (go_at_call 24;refine (HCO.out P9 e9 l9 x _ R9.out).mono ?_;rintro e' w9 ⟨rfl,hw9⟩;have HB9:=aF (HB8.out.trans (hw9.mono HB8.out.size));rw [G9.out,HFX.out];clear hw9) | (go_at_call 24;refine (HCO.out A7 c7 _ x _ H7.out).mono ?_;rintro e' w8 ⟨rfl,hw8⟩;have HB8:=aF (HB7.out.trans (hw8.mono HB7.out.size));obtain ⟨P9,e9,l9,r9,h9,g9⟩:=HLQ.out w8 HB8.out p hlt;have R9:=aF h9;have G9:=aF (g9 x);clear h9 g9 hw8;generalize decide ((x:Int)∈insL [] (usP b.blocks (p:Int)))=u;cases u) | (go_at_call 15;refine (HUP.out _ HBr.out).mono ?_;rintro e' w7 ⟨A7,c7,rfl,h7,hw7⟩;have H7:=aF h7;have HB7:=aF (HB.out.trans (hw7.mono HB.out.size));clear y0 y1 y2 y3 y4 y5 y6 h7 hw7))
    all_goals (go_roundw;(case rel=>exact ⟨x+1,by go_num,by omega,HB9⟩);(case measure=>(simp [intOf];omega)))
  case neg=>
   have HFU:Hid (f x p=decide ((x:Int)∈usP b.blocks (p:Int))):=aF (by
    rw [HWANT.out _ rfl];cases a
    ·simp
    ·cases hd
     ·simp at hcase
     ·have:dd=(x:Int):=by simpa using hcase
      simp [this])
   cases a
   ·clear hcase;go_wp2_with (first | (go_at_call 24;refine (HCO.out P9 e9 l9 x _ R9.out).mono ?_;rintro e' w9 ⟨rfl,hw9⟩;have HB9:=aF (HB8.out.trans (hw9.mono HB8.out.size));rw [G9.out,HFX.out];clear hw9) | (go_at_call 24;refine (HCO.out A7 c7 _ x _ H7.out).mono ?_;rintro e' w8 ⟨rfl,hw8⟩;have HB8:=aF (HB7.out.trans (hw8.mono HB7.out.size));obtain ⟨P9,e9,l9,r9,h9,g9⟩:=HLQ.out w8 HB8.out p hlt;have R9:=aF h9;have G9:=aF (g9 x);clear h9 g9 hw8;have HFX:Hid (f x p=decide ((x:Int)∈insL [] (usP b.blocks (p:Int)))):=aF (HFU.out.trans HMI.out.symm);generalize decide ((x:Int)∈insL [] (usP b.blocks (p:Int)))=u at *;cases u) | (go_at_call 15;refine (HUP.out _ HBr.out).mono ?_;rintro e' w7 ⟨A7,c7,rfl,h7,hw7⟩;have H7:=aF h7;have HB7:=aF (HB.out.trans (hw7.mono HB.out.size));clear y0 y1 y2 y3 y4 y5 y6 h7 hw7))
    all_goals (go_roundw;(case rel=>exact ⟨x+1,by go_num,by omega,HB9⟩);(case measure=>(simp [intOf];omega)))
   ·cases hd
    ·simp at hcase
    ·have hb:(dd != (x:Int))=false:=by simpa using hcase
     clear hcase;go_wp2_with (first | (go_at_call 24;refine (HCO.out P9 e9 l9 x _ R9.out).mono ?_;rintro e' w9 ⟨rfl,hw9⟩;have HB9:=aF (HB8.out.trans (hw9.mono HB8.out.size));rw [G9.out,HFX.out];clear hw9) | (go_at_call 24;refine (HCO.out A7 c7 _ x _ H7.out).mono ?_;rintro e' w8 ⟨rfl,hw8⟩;have HB8:=aF (HB7.out.trans (hw8.mono HB7.out.size));obtain ⟨P9,e9,l9,r9,h9,g9⟩:=HLQ.out w8 HB8.out p hlt;have R9:=aF h9;have G9:=aF (g9 x);clear h9 g9 hw8;have HFX:Hid (f x p=decide ((x:Int)∈insL [] (usP b.blocks (p:Int)))):=aF (HFU.out.trans HMI.out.symm);generalize decide ((x:Int)∈insL [] (usP b.blocks (p:Int)))=u at *;cases u) | (go_at_call 15;refine (HUP.out _ HBr.out).mono ?_;rintro e' w7 ⟨A7,c7,rfl,h7,hw7⟩;have H7:=aF h7;have HB7:=aF (HB.out.trans (hw7.mono HB.out.size));clear y0 y1 y2 y3 y4 y5 y6 h7 hw7))
     all_goals (go_roundw;(case rel=>exact ⟨x+1,by go_num,by omega,HB9⟩);(case measure=>(simp [intOf];omega)))
end
section
open Go Go.ChangeShapes Go.WideShapes Go.ChangeAt Go.RowKit
theorem xFJ (os:Os) (started:os.Started) (H:Type) (enc:TypeId × Value->H):
 ReturnsInHanded {} Tryz.checked os 6 .any (fun w args=>(Rows.livenessEquationsSpec.pre enc Tryz.prog Tryz.f6 [] false w args/\laidMetH Tryz.prog Rows.livenessEquationsRow.laid w)/\sizedMet enc Tryz.prog Tryz.f6 (OpenSpec.ofChange Rows.livenessEquationsSpec) false w args)
  (Rows.livenessEquationsSpec.post enc Tryz.prog Tryz.f6 false true false false):=by
 refine returnsInHanded_of_change_and (C:=Tryz.checked) (X:=fun w _=>laidMetH Tryz.prog Rows.livenessEquationsRow.laid w) (fun _ _ _ hh h=>h.of_heap hh) Tryz.own started (by kernel_rfl) Tryz.func6
  (ChangeSpec.witness_shaped (enc:=enc) (C:=Tryz.checked) (os:=os) (X:=fun w _=>laidMetH Tryz.prog Rows.livenessEquationsRow.laid w) false (World.laidAll Tryz.prog os Rows.livenessEquationsRow.laid) #[.agg #[.string ⟨#[]⟩,.slice none 0 0,.slice none 0 0,.slice none 0 0,.slice none 0 0,.int .i64 0,.slice none 0 0]] 8 (World.laidAll_os _ _ _) (World.shaped_of_ZipB (by kernel_rfl) (by kernel_rfl)) (by kernel_rfl) (by kernel_rfl) (by kernel_rfl)
    (by rw [MakeChecks.laidMetH_plain _ _ _ (by kernel_rfl)];exact laidMet_laidAll _ (by kernel_rfl) (by kernel_rfl))) ?_
 intro W base args ds gs before hval0 hW _ hwt hL _;have hval:∀(j:Nat) t v,Tryz.f6.params[j]?=some t->args[j]?=some v->Value.okWide Tryz.prog W .any base t v:=hval0;have hW':=hW;obtain ⟨p,q,hA0,hV,rfl,hfz,hnd⟩:=hW;have hA:DataW.TrodAll enc Tryz.prog W 0 (fun _=>true) true Tryz.f6.params.toList args.toList ds p:=hA0;rw [Tryz.params6] at hA hval;obtain ⟨v0,d0,rfl,rfl,h0⟩:=trodAll_one hA;obtain ⟨rfl,rfl⟩:=trodVars_none hV;obtain ⟨bb,bh,rfl,hbd,hnm⟩:=wI (hval 0 _ v0 rfl rfl) h0;have hTT:=xEF hL;clear hA0 hval0;refine (xGY bb bh W hTT hbd hnm).mono fun e W' ⟨he,hb⟩=>?_
 exact ⟨_,he,xAN Tryz.laidOut rfl (by kernel_rfl) Tryz.underlying4 rfl (by rw [Tryz.params6];intro t ht;simp at ht;subst ht;exact ⟨by kernel_rfl,of_decide_eq_true (by kernel_rfl)⟩) hW' hb⟩
theorem xFL:Rows.LivenessEquationsSaid:=
 OpenClaim.holds_of_wide 6 Tryz.f6 rfl rfl rfl rfl rfl rfl rfl ⟨rfl,rfl,rfl,rfl,rfl⟩ rfl rfl rfl rfl rfl (by kernel_rfl) Tryz.func6 xFK
  (of_decide_eq_true (by kernel_rfl)) (by unfold Func.isWrapper;first | (rw [bA (by decide +kernel)];kernel_rfl) | (rw [aZ (by decide +kernel)];exact ⟨rfl,rfl⟩))
  (fun os started H enc _=>xFJ os started H enc)
theorem LivenessEquations_holds:Rows.LivenessEquationsCardSaid:=
 Claim7.holds_tied_plain_at .later [] [.data, .widerDeep, .widerDeep, .pinned] true (true, "c508f7b79725eb36423e68c36a915c820725776de7feaa7e39e53a602ed9389b") false
  xFL (fun _ h=>by cases h) (by kernel_rfl) (fun _ h=>by cases h) livenessEquations_row_tie rfl ⟨rfl,rfl⟩ (by kernel_rfl) rfl
  (fun f fn hf hfn=>by
    obtain rfl:f=6:=Option.some.inj ((show Tryz.prog.funcNamed Rows.livenessEquationsRow.func=some 6 by kernel_rfl).symm.trans hf) |>.symm;obtain rfl:fn=Tryz.f6:=(Option.some.inj (Tryz.func6.symm.trans hfn)).symm
    exact ⟨by kernel_rfl,fun j t ht=>by
     rw [Tryz.params6] at ht;have hm:t∈[28]:=(by simpa using Array.mem_of_getElem? ht);have hall:([28].all fun u=> !Tryz.prog.wantsStandIn u)=true:=by kernel_rfl
     exact (show Tryz.prog.wantsStandIn t=false by simpa using List.all_eq_true.1 hall t hm)⟩)
  (by kernel_rfl)
end
end Go.Proofs.YtcfchohkmkilpaaGreatDoor
