/-
  LivenessLocals: for every body the law answers true, and the argument reads as it did; the card of the row. Condition: the four listed variables hold at the start what the text of the program lays (the given tie; one is a table of the library, pinned by its name). (part 1)
-/
import Derived.Test.YtcfchohkmkilpaaGreatDoorLP0
import Derived.Test.YtcfchohkmkilpaaGreatDoorLP1
import Derived.Test.YtcfchohkmkilpaaGreatDoorLP2
import Derived.Test.YtcfchohkmkilpaaGreatDoorLP3
import Derived.Test.YtcfchohkmkilpaaGreatDoorLP4
import Derived.Test.YtcfchohkmkilpaaGreatDoorLP5
import Derived.Test.YtcfchohkmkilpaaGreatDoorLP6
import Derived.Test.YtcfchohkmkilpaaGreatDoorLP7
import Derived.Test.YtcfchohkmkilpaaGreatDoorLP8
import Derived.Test.YtcfchohkmkilpaaGreatDoorLP9
import Derived.Test.YtcfchohkmkilpaaGreatDoorLP10
import Derived.Test.YtcfchohkmkilpaaGreatDoorLP12
import Derived.Test.YtcfchohkmkilpaaGreatDoorLP13
import Derived.Test.YtcfchohkmkilpaaGreatDoorLP15
import Derived.Test.YtcfchohkmkilpaaGreatDoorLP16
import Derived.Test.YtcfchohkmkilpaaGreatDoorLP17
import Derived.Test.YtcfchohkmkilpaaGreatDoorLP19
import Derived.Test.YtcfchohkmkilpaaGreatDoorLP20
import Derived.Test.YtcfchohkmkilpaaGreatDoorLP21
import Derived.Test.YtcfchohkmkilpaaGreatDoorLP25
import Derived.Test.YtcfchohkmkilpaaGreatDoorLP26
import Derived.Test.YtcfchohkmkilpaaGreatDoorLP27
import Derived.Lib.Hide
import Derived.Below
import Derived.WalkSmall
import Derived.Laws.World
import Derived.Test.YtcfchohkmkilpaaGreatDoorProg
import Derived.WalkKit
import Derived.WalkSpells
import Derived.WalkLawsBesides
import Derived.Deep.RegionHeld3
import Derived.Deep.DeepFit
import Derived.Deep.QuietTactic
import Derived.BigQuiet
import Derived.OwnWalk
import Derived.Maps.AppendAt
import Derived.Deep.DeepCutAuto
import Derived.StillTailTactics
import Derived.RangeFuncNested
import Derived.RangeFuncBound
import Derived.RangeFuncCalls
import Derived.RangeFuncLeaves
import Derived.OwnWalkIn
import Derived.TacticsInMore
import Derived.LoopNIn
import Derived.LoopIn
import Derived.Shelf.Abstract
import Derived.OrdersHeld
import Derived.Deep.RegionHeld
import Derived.Test.YtcfchohkmkilpaaGreatDoorSg
import Derived.Maps.OwnSet
import Derived.Maps.OwnOps
import Derived.StringKeys
import Derived.Laws.MakeOwn
import Derived.Deep.LoopGhost
import Derived.WideKeyPair
import Derived.WideKeyArr
import Derived.Deep.MidRow
import Derived.Test.YtcfchohkmkilpaaGreatDoorSh
import Derived.Test.YtcfchohkmkilpaaGreatDoorSj
import Derived.Sort.OwnSortedInts
import Derived.Lib.SlKeysI
import Derived.RangeFuncBox
import Derived.Maps.RangeWalk
import Derived.Laws.AppendOwnNone
import Derived.Test.YtcfchohkmkilpaaGreatDoorHV
import Derived.Maps.OwnIn
import Derived.Test.YtcfchohkmkilpaaGreatDoorRows
import Derived.ProofKit
import Derived.Deep.Slices
import Derived.Deep.Fields
import Derived.Lib.SmallJoins
import Derived.OpenShut
import Derived.LaidMore
import Derived.Stop.Joined
import Derived.Stop.LaidErr
import Derived.Lay
import Derived.SevenTiedAt
import Derived.JoinedOf
import Derived.Test.YtcfchohkmkilpaaGreatDoorTie
import Derived.Test.YtcfchohkmkilpaaGreatDoorCards
import Derived.SizedLaws
namespace Go.Proofs.YtcfchohkmkilpaaGreatDoor
set_option maxRecDepth 100000
set_option maxHeartbeats 16000000
section
open Go Go.RowKit
theorem xFI : type_of% @List.mem_map := @List.mem_map
end
section
open Go Go.RowKit
theorem Srt.take_ {l:List Int} {P:Int->Prop} {q:Int} (h:Srt l (fun z=>P z/\0<=z/\z<q)) (h0:0<=q) (hq:P q):Srt (l ++ [q]) (fun z=>P z/\0<=z/\z<q+1):=
 (h.push (fun _ hz=>hz.2.2)).iff fun z=>by
   constructor
   ·rintro (⟨a,b,c⟩ | rfl)
    ·exact ⟨a,b,by omega⟩
    ·exact ⟨hq,h0,by omega⟩
   ·rintro ⟨a,b,c⟩;by_cases e:z=q
    ·exact .inr e
    ·exact .inl ⟨a,b,by omega⟩
theorem Srt.skip_ {l:List Int} {P:Int->Prop} {q:Int} (h:Srt l (fun z=>P z/\0<=z/\z<q)) (hq:¬P q):Srt l (fun z=>P z/\0<=z/\z<q+1):=
 h.iff fun z=>by
  constructor
  ·rintro ⟨a,b,c⟩;exact ⟨a,b,by omega⟩
  ·rintro ⟨a,b,c⟩;refine ⟨a,b,?_⟩;by_cases e:z=q
   ·subst e;exact absurd a hq
   ·omega
theorem Lf.found {bs:List Blk} {x p0:Int} {l sl:List Int} {i:Nat} (h:Lf bs x p0 l sl i) {q:Int} (hq:l[i]?=some q) (hu:x∈usP bs q):Lv bs x p0:=
 (h.rch q (List.mem_of_getElem? hq)).live (.use hu)
end
section
open Go Go.RowKit Go.Maps
theorem xGJ (b:Bdy) (bh:BH) (w:World) (H:BdAt w b bh) (hc:cntB b.blocks<=1000000000000):
 Calls Tryz.prog 17 #[.agg (bdC b bh).toArray] w fun e' w'=>e' = .returned (.int .i64 (cntB b.blocks))/\Below w.heap.size w w':=
 (rcount_any' b bh w H).mono (by
   rintro e' w' ⟨⟨q,rfl,hq⟩,hb⟩;rw [fR] at hq
   exact ⟨by rw [hq.out (by omega)],hb⟩)
end
section
open Go Go.RowKit Go.Maps
def tgAny (bs:List Blk) (q:Int) (l:List Int):Bool:=l.any (fun t=>decide (0<=t/\t<(bs.length:Int)/\(stB bs t.toNat:Int)=q))
theorem xHA {bs:List Blk} {q:Int} {l:List Int}:tgAny bs q l=true↔q∈tgL bs l:=by
 rw [vA];simp only [tgAny,List.any_eq_true,decide_eq_true_eq];exact ⟨fun ⟨t,a,b,c,d⟩=>⟨t,a,b,c,d.symm⟩,fun ⟨t,a,b,c,d⟩=>⟨t,a,b,c,d.symm⟩⟩
theorem xGX (bs:List Blk) (q t:Int) (l:List Int):tgAny bs q (t :: l)=(decide (0<=t/\t<(bs.length:Int)/\(stB bs t.toNat:Int)=q) || tgAny bs q l):=rfl
theorem xHO (b:Bdy) (bh:BH) (p q:Int) (w:World) (H:BdAt w b bh) (hc:cntB b.blocks<=1000000000000) (hp : -9223372036854775808<=p/\p<=9223372036854775807):
 Calls Tryz.prog 54 #[.agg (bdC b bh).toArray,.int .i64 p,.int .i64 q] w fun e' w'=>∃r:Bool,e' = .returned (.bool r)/\(r=true↔folP b.blocks p q)/\Below w.heap.size w w':=by
 have HL:=aF (fun (W:World) (hb:Below w.heap.size w W)=>rE b bh p W (H.keep hb) hc hp);have HF:=aF (fun (W:World) (hb:Below w.heap.size w W) (k:Nat) hk=>zQ b bh k W (H.keep hb) hk hc);have HBLK:=aF H.blk;have hbl:=H.blk.le;have hbg:=H.blk.big;have HY:=aF (cQ w [Value.string b.name,.slice bh.A1 b.regions.length bh.c1,.slice bh.A2 b.outl.length bh.c2,.slice bh.A3 b.types.length bh.c3,.slice bh.A4 b.locals.length bh.c4,.int .i64 b.args,.slice bh.A5 b.blocks.length bh.c5] 28);have HC:=aF hc;clear H hc;unfold bdC at *;cases hloc:locB b.blocks p with
 | none=>
   have HN:Hid (¬folP b.blocks p q):=aF (fun ⟨_,_,_,h,_⟩=>by rw [hloc] at h;cases h);rw [hloc] at HL;unfold lcV at HL;clear hloc;go_enter Tryz.func54,Tryz.ntmps54
   go_wp2_with (go_at_call 35;refine (HL.out _ ((aX _ _).alloc (aY _) _)).mono ?_;rintro e' w1 ⟨rfl,hb1⟩)
   go_ret;exact ⟨false,rfl,by simp [HN.out],((aX _ _).alloc (aY _) _).trans (hb1.mono (by simp))⟩
 | some ik=>
   obtain ⟨i,k⟩:=ik;obtain ⟨x,hx,hk,hi⟩:=mI hloc;have hpx:p=(stB b.blocks i+k:Nat):=by obtain ⟨_,_,_,h⟩:=eD.1 hloc;exact h
   have HFOL:=aF (by have h:=xBP hx hk q;rw [<- hpx] at h;exact h);rw [hloc] at HL;unfold lcV at HL;obtain ⟨bb,oo,hA,hbb,hxx⟩:=HBLK.out.sl.at_ hi;obtain ⟨A1,c1,A2,c2,A3,c3,A4,c4,p0,p1,p2,p3,p4,p5,p6,hs1,hs2,-⟩:=eV hxx;rw [show b.blocks[i]=x from by rw [bD hi] at hx;injection hx] at p0 p1 p2 p3 p4 p5 p6 hs1 hs2;have HT:=aF hs2;have htl:=hs2.le;have htb:=hs2.big;have hlt:=jN hx;have hp12:p<1000000000000:=by have:=HC.out;omega
   have hp0:0<=p:=by omega
   rw [hA] at HL HF HY ⊢;clear hA hxx hs1 hs2 hloc hx hpx hlt;have hal:Below w.heap.size w (w.alloc (.cells ([Value.string b.name,.slice bh.A1 b.regions.length bh.c1,.slice bh.A2 b.outl.length bh.c2,.slice bh.A3 b.types.length bh.c3,.slice bh.A4 b.locals.length bh.c4,.int .i64 b.args,.slice (some ⟨bb,oo,none⟩) b.blocks.length bh.c5]).toArray 28)):=(aX _ _).alloc (aY _) _;have HAL:=aF hal;have HP0:=aF p0;have HP2:=aF p2;have hki:(i:Int)<(b.blocks.length:Int):=by omega
   clear p0 p1 p2 p3 p4 p5 p6;by_cases hks:k<x.stmts.length
   ·have HE:Hid (folP b.blocks p q↔q=p+1):=aF (by have h:=HFOL.out;rwa [bA hks] at h);have hks2:(k:Int)<(x.stmts.length:Int):=(by omega);clear HFOL HF HT;go_enter Tryz.func54,Tryz.ntmps54
    go_wp2_with (go_at_call 35;refine (HL.out _ hal).mono ?_;rintro e' w1 ⟨rfl,hb1⟩;have hbw:=HAL.out.trans (hb1.mono HAL.out.size);have y6:=cO hb1 (HY.out 6 _ rfl);have m0:=cO hbw HP0.out;have hl1:=hbw.size)
    go_ret;exact ⟨_,rfl,by rw [HE.out];simp,hbw⟩
   ·have HE:Hid (folP b.blocks p q↔tgAny b.blocks q x.term.targets=true):=aF (by have h:=HFOL.out;rw [aZ hks] at h;rw [h,xHA]);have hks2:¬(k:Int)<(x.stmts.length:Int):=(by omega);clear HFOL;go_enter Tryz.func54,Tryz.ntmps54
    go_wp2_with (go_at_call 35;refine (HL.out _ hal).mono ?_;rintro e' w1 ⟨rfl,hb1⟩;have hbw:=HAL.out.trans (hb1.mono HAL.out.size);have HYY:=aF (fun i v hi=>cO hb1 (HY.out i v hi));have y6:=HYY.out 6 _ rfl;have m0:=cO hbw HP0.out;have m2:=cO hbw HP2.out;have hl1:=hbw.size;have hlw:w.heap.size<w1.heap.size:=cD w1 _ y6)
    have HBW:=aF hbw;clear m0 m2 y6 hbw hb1 hal;go_loopw [11] (fun j wr=>∃m:Nat,j = .int .i64 m/\m<=x.term.targets.length/\Hid (aA ([Value.string b.name,.slice bh.A1 b.regions.length bh.c1,.slice bh.A2 b.outl.length bh.c2,.slice bh.A3 b.types.length bh.c3,.slice bh.A4 b.locals.length bh.c4,.int .i64 b.args,.slice (some ⟨bb,oo,none⟩) b.blocks.length bh.c5]) wr w.heap.size)/\Hid (Below w.heap.size w wr)/\w.heap.size<wr.heap.size/\Hid (tgAny b.blocks q x.term.targets=tgAny b.blocks q (x.term.targets.drop m))) (fun j _=>x.term.targets.length - (intOf j).toNat)
    case atStart=>exact ⟨0,rfl,by omega,HYY,HBW,hlw,aF rfl⟩
    case round=>
     clear HYY HBW;obtain ⟨m,rfl,hm,HYY,HBW,hlw2,hr⟩:=hrel;by_cases hlt:m<x.term.targets.length
     case neg=>
      have HN:Hid (tgAny b.blocks q x.term.targets=false):=aF (by rw [hr.out,bE (by omega)];rfl);go_wp2_with fail
      go_ret;exact ⟨false,rfl,by rw [HE.out,HN.out],HBW.out⟩
     case pos=>
     obtain ⟨tb,to_,hTA,htb2,ht0⟩:=(HT.out.keep RInt.keeps HBW.out).sl.at_ hlt;have t0:wr.cell? ⟨tb,to_+m,none⟩=some (.int .i64 x.term.targets[m]):=(by simpa [RInt] using ht0);have HD:Hid (tgAny b.blocks q x.term.targets=(decide (0<=x.term.targets[m]/\x.term.targets[m]<(b.blocks.length:Int)/\(stB b.blocks x.term.targets[m].toNat:Int)=q) || tgAny b.blocks q (x.term.targets.drop (m+1)))):=aF (by rw [hr.out,cV hlt,xGX]);generalize x.term.targets[m]=t at *;rw [hTA];have HTA:=aF hTA;clear ht0 hTA hr;go_wp2_with fail
     have hS:(aA ([Value.string b.name,.slice bh.A1 b.regions.length bh.c1,.slice bh.A2 b.outl.length bh.c2,.slice bh.A3 b.types.length bh.c3,.slice bh.A4 b.locals.length bh.c4,.int .i64 b.args,.slice (some ⟨bb,oo,none⟩) b.blocks.length bh.c5]) wr.drew w.heap.size)/\wr.drew.cell? ⟨tb,to_+m,none⟩=some (.int .i64 t):=⟨HYY.out,t0⟩;refine cT (S:=fun X=>(aA ([Value.string b.name,.slice bh.A1 b.regions.length bh.c1,.slice bh.A2 b.outl.length bh.c2,.slice bh.A3 b.types.length bh.c3,.slice bh.A4 b.locals.length bh.c4,.int .i64 b.args,.slice (some ⟨bb,oo,none⟩) b.blocks.length bh.c5]) X w.heap.size)/\X.cell? ⟨tb,to_+m,none⟩=some (.int .i64 t)) [0,1,2,3,4,5,6,7,8,9,10,11,12,13,14,15,16,17,18,19,20,22,21,23,24] (by kernel_rfl) ?_;by_cases h1:0<=t
     case neg=>
      have HE2:Hid (tgAny b.blocks q x.term.targets=tgAny b.blocks q (x.term.targets.drop (m+1))):=aF (by rw [HD.out,decide_eq_false (fun h=>h1 h.1)];rfl);(iterate 6 (refine cR (v:=?_) ?_ hS ?_;rotate_left;(next=>(rintro X ⟨hX,hY⟩;(try simp only [aI]);go_simp;rfl));simp only [aM]));(iterate 8 (refine dA (v:=undef) (by kernel_rfl) (fun _ _ _ h=>h) (Or.inr ⟨by rfl,rfl⟩) hS ?_;simp only [aM]));(iterate 2 (refine cR (v:=?_) ?_ hS ?_;rotate_left;(next=>(rintro X ⟨hX,hY⟩;(try simp only [aI]);go_simp;rfl));simp only [aM]));(iterate 8 (refine dA (v:=undef) (by kernel_rfl) (fun _ _ _ h=>h) (Or.inr ⟨by rfl,rfl⟩) hS ?_;simp only [aM]));((refine cR (v:=?_) ?_ hS ?_;rotate_left;(next=>(rintro X ⟨hX,hY⟩;(try simp only [aI]);go_simp;rfl));simp only [aM]))
      refine cZ ?_;go_wp2_with fail
      go_roundw
      case rel=>exact ⟨m+1,by go_num,by omega,HYY,aF HBW.out.drew,hlw2,HE2⟩
      case measure=>simp [intOf];omega
     case pos=>
     by_cases h2:t<(b.blocks.length:Int)
     case neg=>
      have HE2:Hid (tgAny b.blocks q x.term.targets=tgAny b.blocks q (x.term.targets.drop (m+1))):=aF (by rw [HD.out,decide_eq_false (fun h=>h2 h.2.1)];rfl);(iterate 16 (refine cR (v:=?_) ?_ hS ?_;rotate_left;(next=>(rintro X ⟨hX,hY⟩;have s6:=hX 6 _ rfl;(try simp only [aI]);go_simp;rfl));simp only [aM]));(iterate 8 (refine dA (v:=undef) (by kernel_rfl) (fun _ _ _ h=>h) (Or.inr ⟨by rfl,rfl⟩) hS ?_;simp only [aM]));((refine cR (v:=?_) ?_ hS ?_;rotate_left;(next=>(rintro X ⟨hX,hY⟩;(try simp only [aI]);go_simp;rfl));simp only [aM]))
      refine cZ ?_;go_wp2_with fail
      go_roundw
      case rel=>exact ⟨m+1,by go_num,by omega,HYY,aF HBW.out.drew,hlw2,HE2⟩
      case measure=>simp [intOf];omega
     case pos=>
     obtain ⟨j,rfl⟩:=bG h1;have hj:j<=b.blocks.length:=(by omega);(iterate 22 (refine cR (v:=?_) ?_ hS ?_;rotate_left;(next=>(rintro X ⟨hX,hY⟩;obtain ⟨s0,s1,s2,s3,s4,s5,s6⟩:=aS hX;(try simp only [aI]);go_simp;rfl));simp only [aM]));(refine cY (fun K1 hK1=>?_);simp only [aM];rw [bA (by rfl)];go_simp);have HS:=aF hS;go_at_call 22
     refine (HF.out wr.drew HBW.out.drew j hj).mono ?_;rintro e' w3 ⟨rfl,hb3⟩;have hS2:(aA ([Value.string b.name,.slice bh.A1 b.regions.length bh.c1,.slice bh.A2 b.outl.length bh.c2,.slice bh.A3 b.types.length bh.c3,.slice bh.A4 b.locals.length bh.c4,.int .i64 b.args,.slice (some ⟨bb,oo,none⟩) b.blocks.length bh.c5]) w3 w.heap.size)/\w3.cell? ⟨tb,to_+m,none⟩=some (.int .i64 (j:Int)):=⟨fun i v hi=>cO hb3 (HS.out.1 i v hi),cO hb3 HS.out.2⟩;have HS2:=aF hS2.1;have HB3:=aF (HBW.out.drew.trans (hb3.mono HBW.out.size));have hl3:w.heap.size<w3.heap.size:=bN hlw2 hb3.size;refine hK1.out _ _ (fun _=>hS2) ?_;have hS:=hS2;by_cases h3:(stB b.blocks j:Int)=q
     ·have HE2:Hid (tgAny b.blocks q x.term.targets=true):=aF (by rw [HD.out,decide_eq_true (by rw [bV];exact ⟨h1,h2,h3⟩)];rfl);have h4:((stB b.blocks j:Int) == q)=true:=by simp [h3]
      (iterate 2 (refine cR (v:=?_) ?_ hS ?_;rotate_left;(next=>(rintro X ⟨hX,hY⟩;(try simp only [aI]);go_simp;rfl));simp only [aM]));refine cZ ?_;go_wp2_with fail
      go_ret;exact ⟨true,rfl,by rw [HE.out,HE2.out],HB3.out⟩
     ·have HE2:Hid (tgAny b.blocks q x.term.targets=tgAny b.blocks q (x.term.targets.drop (m+1))):=aF (by rw [HD.out,decide_eq_false (fun h=>h3 (by have:=h.2.2;rwa [bV] at this))];rfl);have h4:((stB b.blocks j:Int) == q)=false:=by simp [h3]
      (iterate 2 (refine cR (v:=?_) ?_ hS ?_;rotate_left;(next=>(rintro X ⟨hX,hY⟩;(try simp only [aI]);go_simp;rfl));simp only [aM]));refine cZ ?_;go_wp2_with fail
      go_roundw
      case rel=>exact ⟨m+1,by go_num,by omega,HS2,HB3,hl3,HE2⟩
      case measure=>simp [intOf];omega
theorem xHD {w:World} {base:Nat} {e:TypeId} {size n m c:Nat} {A:Option Addr} {xs:List Value} (h:w.ownsRow base e size (.slice A m c) n xs):A=none->c=0:=fun e=>by
 subst e;rcases h.2 with ⟨h,_⟩ | ⟨g,cap,cur,h,_⟩
 ·injection h
 ·cases h
theorem xHB (b:Bdy) (bh:BH) (p:Int) (w:World) (H:BdAt w b bh) (hc:cntB b.blocks<=1000000000000) (hp : -9223372036854775808<=p/\p<=9223372036854775807):
 Calls Tryz.prog 23 #[.agg (bdC b bh).toArray,.int .i64 p] w fun e' w'=>∃A c s,e' = .returned (.slice A s.length c)/\Srt s (folP b.blocks p)/\Slc 1 RInt w' A c s/\(∀a,A=some a->w.heap.size<=a.block)/\(A=none->c=0)/\Below w.heap.size w w':=by
 have HN:=aF (fun (W:World) (hb:Below w.heap.size w W)=>xGJ b bh W (H.keep hb) hc);have HF:=aF (fun (W:World) (hb:Below w.heap.size w W) (q:Int)=>xHO b bh p q W (H.keep hb) hc hp);have HY:=aF (cQ w [Value.string b.name,.slice bh.A1 b.regions.length bh.c1,.slice bh.A2 b.outl.length bh.c2,.slice bh.A3 b.types.length bh.c3,.slice bh.A4 b.locals.length bh.c4,.int .i64 b.args,.slice bh.A5 b.blocks.length bh.c5] 28);obtain ⟨i0,hi0,hz0,hz1,hz2⟩:=info_parts dU;clear H;unfold bdC at *;have HLT:=aF (fun z (h:folP b.blocks p z)=>(fX h).2.2);generalize hcn:cntB b.blocks=cn at *;generalize folP b.blocks p=P at *;clear hcn;go_enter Tryz.func23,Tryz.ntmps23
 go_wp2_with fail
 go_loopw [5,6] (fun v q wr=>∃(m:Nat) (s:List Int),q = .int .i64 m/\m<=cn/\Hid (wr.ownsRow (w.heap.size+1) 3 1 v s.length (s.map (Value.int .i64)))/\Hid (Srt s (fun z=>P z/\0<=z/\z<(m:Int)))/\Hid (aA (bdH b bh []) wr w.heap.size)/\Hid (Below w.heap.size w wr)/\w.heap.size<wr.heap.size) (fun _ q _=>cn - (intOf q).toNat)
 case atStart=>exact ⟨0,[],rfl,by omega,aF (World.ownsRow_nil _ _ _ _),aF Srt.zero,HY,aF ((aX _ _).alloc (aY _) _),by simp⟩
 case round=>
  clear HY;obtain ⟨m,s,rfl,hm,HO,HS,HX,HB,hlw⟩:=hrel;have hsl:=HS.out.len (n:=m) (fun z hz=>hz.2);obtain ⟨y0,y1,y2,y3,y4,y5,y6⟩:=aS HX.out;by_cases hlt:m<cn
  case neg=>
   have hme:m=cn:=by omega
   subst hme;have HF2:Hid (Srt s P):=aF (HS.out.iff fun z=>⟨fun h=>h.1,fun h=>⟨h,HLT.out z h⟩⟩);obtain ⟨A,c,rfl,hs1,hlo⟩:=fD (R:=RInt) (fun _ _ _ _ _ h=>h) HO.out rfl;have HS1:=aF hs1;have HLO:=aF hlo;have HC0:=aF (xHD HO.out);clear hs1 hlo;go_wp2_with (go_at_call 17;refine (HN.out _ HB.out).mono ?_;rintro e' w3 ⟨rfl,hb3⟩)
   go_ret;exact ⟨A,c,s,rfl,HF2.out,HS1.out.keep RInt.keeps hb3,fun a h=>(by have:=(HLO.out a h).1;omega),HC0.out,HB.out.trans (hb3.mono HB.out.size)⟩
  case pos=>
  obtain ⟨VA,vc,rfl⟩:=dE HO.out
  go_wp2_with (first
   | (go_at_call 17;refine (HN.out _ HB.out).mono ?_;rintro e' w3 ⟨rfl,hb3⟩;have HB3:=aF (HB.out.trans (hb3.mono HB.out.size));have HX3:=aF (fun i v hi=>cO hb3 (HX.out i v hi));have HO3:=aF (dG HO.out hb3);have hl3:=hb3.size;clear y0 y1 y2 y3 y4 y5 y6 hb3;have y0:=HX3.out 0 _ rfl;have y1:=HX3.out 1 _ rfl;have y2:=HX3.out 2 _ rfl;have y3:=HX3.out 3 _ rfl;have y4:=HX3.out 4 _ rfl;have y5:=HX3.out 5 _ rfl;have y6:=HX3.out 6 _ rfl)
   | (go_at_call 54;refine (HF.out _ HB3.out m).mono ?_;rintro e' w4 ⟨r,rfl,hr,hb4⟩;have HR:=aF hr;have HB4:=aF (HB3.out.trans (hb4.mono HB3.out.size));have HX4:=aF (fun i v hi=>cO hb4 (HX3.out i v hi));have HO4:=aF (dG HO3.out hb4);have hl4:=hb4.size;clear y0 y1 y2 y3 y4 y5 y6 hb4 hr;cases r)
   | (at_builtin;refine wpList_append_own _ rfl _ _ 34 rfl (w.heap.size+1) 3 i0 (.int .i64 0) 1 8 Tryz.underlying34 hi0 hz0 hz1 hz2 rfl (by decide) _ _ _ rfl (HO4.out.alloc (.cells #[.int .i64 (m:Int)] 3)) ⟨w4.heap.size,0,none⟩ 1 1 [.int .i64 (m:Int)] rfl rfl (cell_one_new _ _ _) (fun u hu=>by simp at hu;subst hu;rfl) (by unfold maxLen;omega) (by omega) (by simp;omega) ?_;intro v' w5 hown' hgrow _))
  ·have HS2:=aF (HS.out.skip_ (fun h=>by have:=HR.out.2 h;cases this));go_roundw
   case rel=>exact ⟨m+1,s,by go_num,by omega,HO4,HS2,HX4,HB4,by omega⟩
   case measure=>simp [intOf];omega
  ·have HS2:=aF (HS.out.take_ (by omega) (HR.out.1 (by simp)));have hlo:=fun g hg=>((HO4.out.alloc (.cells #[.int .i64 (m:Int)] 3)).lt g hg).1
   have HB5:=aF (((HB4.out.alloc HB4.out.size (.cells #[.int .i64 (m:Int)] 3)).grown hgrow (by have:=HB4.out.size;simp;omega) (fun g hg=>by have:=hlo g hg;omega)));have hx5:Hid (aA (bdH b bh []) w5 w.heap.size):=aF (fun i v hi=>(World.cell?_of_block (a:=⟨w.heap.size,i,none⟩) (hgrow.block w.heap.size (by simp;omega) (dV (HO4.out.alloc (.cells #[.int .i64 (m:Int)] 3)) (by omega)))).trans (cO ((aX _ _).alloc (aY _) (.cells #[.int .i64 (m:Int)] 3)) (HX4.out i v hi)));go_roundw
   case rel=>exact ⟨m+1,s ++ [(m:Int)],by go_num,by omega,aF (by rw [bB,bS];exact hown'),HS2,hx5,HB5,by have:=hgrow.size;simp at this;omega⟩
   case measure=>simp [intOf];omega
end
section
open Go Go.RowKit
theorem lv_in {b:Bdy} (h:chkB b=0) {p x:Int} (hl:Lv b.blocks x p):LocIn b x:=by
 obtain ⟨q,hq⟩:=hl.used;exact xEG h hq
end
section
open Go Go.RowKit
theorem xHJ {ll mm:List (List Int)} {n:Nat} {P:Int->Nat->Prop} (h1:ll.length=n) (h2:mm.length=n) (g1:∀(k:Nat) (l:List Int),ll[k]?=some l->Srt l (fun z=>P z k)) (g2:∀(k:Nat) (l:List Int),mm[k]?=some l->Srt l (fun z=>P z k)):ll=mm:=by
 refine List.ext_getElem? (fun k=>?_);by_cases hk:k<n
 ·have a1:=bD (show k<ll.length by omega);have a2:=bD (show k<mm.length by omega);rw [a1,a2,(g1 k _ a1).uniq (g2 k _ a2)]
 ·rw [cE (by omega),cE (by omega)]
end
section
open Go Go.RowKit Go.Maps
theorem xGK {w:World} {a:Addr} {c:Nat} {s:List Int} (h:Slc 1 RInt w (some a) c s):∀j u,(s.map (Value.int .i64))[j]?=some u->w.cell? (a.add j)=some u:=fun j u hu=>by
 rw [cN] at hu;cases hx:s[j]? with
 | none=>rw [hx] at hu;cases hu
 | some x=>
   rw [hx] at hu;injection hu with hu
   subst hu;have hl:=(List.getElem?_eq_some_iff.1 hx).1;obtain ⟨b,off,hA,_,hall⟩:=h.sl (by omega);injection hA with hA
   subst hA;have:=hall j x hx;unfold RInt at this;rw [Nat.mul_one] at this;rw [<- this];congr 1
   unfold Addr.add;split <;> simp_all
theorem xGW {w:World} {c:Nat} {s:List Int} (h:Slc 1 RInt w none c s):s=[]:=by
 cases s with
 | nil=>rfl
 | cons x r=>obtain ⟨_,_,hA,_⟩:=h.sl (by simp);cases hA
theorem xHM {bs:List Blk} {x p:Int} {l sl:List Int} {i:Nat} (h:Lf bs x p l sl i) (hl:l.length<=1+sl.length * cntB bs):l.length<=1+cntB bs * cntB bs:=by
 have:=Nat.mul_le_mul_right (cntB bs) h.len;omega
theorem xHN (xs:List Int) (z:Int):z∈insL [] xs↔z∈xs:=by
 have:=(rW srt_nil xs).2 z;rw [this];simp
theorem xHF {b:Bdy} {bh:BH} {w w1:World} {cn:Nat} (p:Int) (h:∀i u,[Value.string b.name,.slice bh.A1 b.regions.length bh.c1,.slice bh.A2 b.outl.length bh.c2,.slice bh.A3 b.types.length bh.c3,.slice bh.A4 b.locals.length bh.c4,.int .i64 b.args,.slice bh.A5 b.blocks.length bh.c5][i]?=some u->w1.cell? ⟨w.heap.size,i,none⟩=some u) (hb:Below w.heap.size w w1) (hw:w.heap.size<w1.heap.size):
 LvW b bh w w1.heap.size cn [p] [] (.slice (some ⟨w1.heap.size+1,0,none⟩) 1 1) ((w1.alloc (.cells (rowA cn (fun _=> .bool false)) 4)).alloc (.cells #[.int .i64 p] 3)):=by
 have ha:Below w1.heap.size w1 (w1.alloc (.cells (rowA cn (fun _=> .bool false)) 4)):=(aX _ _).alloc (aY _) _;have hr:RowF (w1.alloc (.cells (rowA cn (fun _=> .bool false)) 4)) w1.heap.size cn 4 (fun _=> .bool false):=RowF.new w1 cn _ _;have hz:(w1.alloc (.cells (rowA cn (fun _=> .bool false)) 4)).heap.size=w1.heap.size+1:=by simp
 generalize w1.alloc (.cells (rowA cn (fun _=> .bool false)) 4)=w2 at *;have ha2:Below w2.heap.size w2 (w2.alloc (.cells #[.int .i64 p] 3)):=(aX _ _).alloc (aY _) _;refine ⟨fun i u hi=>cO ha2 (cO ha (h i u hi)),⟨rfl,.inr ⟨w1.heap.size+1,1,#[.int .i64 p],rfl,aY _,by rw [<- hz];exact heap_alloc_new w2 _,by simp,by decide,rfl,rfl⟩⟩,(hr.block (ha2.block _ hr.lt)).congr (fun k _=>by unfold sF;simp),hb.trans ((ha.trans (ha2.mono (by omega))).mono hb.size),hw⟩
theorem xHK:(Tryz.prog.info? 4).map (fun i=>(i.zero,i.size,i.bytes))=some (some (.bool false),1,1):=by kernel_rfl
theorem xHC (b:Bdy) (bh:BH) (x p:Int) (w:World) (H:BdAt w b bh) (hc:cntB b.blocks<=1000000) (hp:0<=p/\p<(cntB b.blocks:Int)) (hu:∀p,∀z∈usP b.blocks p,0<=z/\z<((1000000:Nat):Int)):
 Calls Tryz.prog 56 #[.agg (bdC b bh).toArray,.int .i64 x,.int .i64 p] w fun e' w'=>∃r:Bool,e' = .returned (.bool r)/\(r=true↔Lv b.blocks x p)/\Below w.heap.size w w':=by
 have HC:=aF (fun (W:World) (hb:Below w.heap.size w W)=>xGJ b bh W (H.keep hb) (by omega));have HU:=aF (fun (W:World) (hb:Below w.heap.size w W) (q:Int) hq=>zL b bh q W (H.keep hb) (by omega) hq (hu q));have HD:=aF (fun (W:World) (hb:Below w.heap.size w W) (q:Int) hq=>zT b bh q W (H.keep hb) (by omega) hq);have HN:=aF (fun (W:World) (hb:Below w.heap.size w W) (q:Int) hq=>xHB b bh q W (H.keep hb) (by omega) hq);have HY:=aF (cQ w [Value.string b.name,.slice bh.A1 b.regions.length bh.c1,.slice bh.A2 b.outl.length bh.c2,.slice bh.A3 b.types.length bh.c3,.slice bh.A4 b.locals.length bh.c4,.int .i64 b.args,.slice bh.A5 b.blocks.length bh.c5] 28);obtain ⟨i0,hi0,hz0,hz1,hz2⟩:=info_parts dU;have LF0:=aF (Lf.start (x:=x) hp.1 hp.2);clear H hu;unfold bdC at *;have HCN:Hid (cntB b.blocks=cntB b.blocks):=aF rfl;obtain ⟨cn,hcn⟩:∃cn,cntB b.blocks=cn:=⟨_,rfl⟩;have HCE:=aF hcn;rw [hcn] at hp hc;rw [hcn] at HC;have hcm:cn * cn<=1000000000000:=by have:=Nat.mul_le_mul hc hc;omega
 obtain ⟨M,hM⟩:∃M,1+cn * cn=M:=⟨_,rfl⟩;have hMl:M<=1000000000001:=by omega
 have HM:=aF hM;clear hcn hM hcm HCN
 have hmk:∀W:World,(Instr.makeSlice 138 (.int .i64 (cn:Int)) (.int .i64 (cn:Int))).run Tryz.prog W = .ok (.slice (some ⟨W.heap.size,0,none⟩) cn cn) (W.alloc (.cells (rowA cn (fun _=> .bool false)) 4)):=by
  intro W;obtain ⟨ib,hib,hbz,hbs,hby⟩:=info_parts xHK;have:=gH (P:=Tryz.prog) W 138 4 ib (.bool false) #[.bool false] 1 Tryz.underlying138 hib hbz rfl hbs cn (by rw [hby];omega) (by omega);rw [this,Nat.mul_one];congr 4
  funext j
  simp [Nat.mod_one]
 go_enter Tryz.func56,Tryz.ntmps56
 go_wp2_with (go_at_call 17;refine (HC.out _ ((aX _ _).alloc (aY _) _)).mono ?_;rintro e' w1 ⟨rfl,hb1⟩)
 have HB0:=aF (((aX w.heap.size w).alloc (aY _) (.cells ([Value.string b.name,.slice bh.A1 b.regions.length bh.c1,.slice bh.A2 b.outl.length bh.c2,.slice bh.A3 b.types.length bh.c3,.slice bh.A4 b.locals.length bh.c4,.int .i64 b.args,.slice bh.A5 b.blocks.length bh.c5]).toArray 28)).trans (hb1.mono (by simp)));have hw1:w.heap.size<w1.heap.size:=by have:=hb1.size;simp at this;omega
 have HS0:Hid (LvW b bh w w1.heap.size cn [p] [] (.slice (some ⟨w1.heap.size+1,0,none⟩) 1 1) ((w1.alloc (.cells (rowA cn (fun _=> .bool false)) 4)).alloc (.cells #[.int .i64 p] 3))):=aF (xHF p (fun i v hi=>cO hb1 (HY.out i v hi)) HB0.out hw1);clear hb1;go_loopw [8,9,10,11,12] (fun v q _ _ _ wr=>∃(i:Nat) (l sl:List Int),q = .int .i64 i/\l.length<=M/\Hid (Lf b.blocks x p l sl i)/\Hid (l.length<=1+sl.length * cn)/\Hid (LvW b bh w w1.heap.size cn l sl v wr)/\i<=M) (fun _ q _ _ _ _=>M - (intOf q).toNat)
 case atStart=>exact ⟨0,[p],[],rfl,(by have:=HM.out;simp;omega),LF0,aF (by simp),HS0,by omega⟩
 case round=>
  clear HS0;obtain ⟨i,l,sl,rfl,hlM,HL,HLN,HS,hiM⟩:=hrel;obtain ⟨A,c,rfl,hs1,hlo⟩:=fD (R:=RInt) (fun _ _ _ _ _ h=>h) HS.out.own rfl;have hlB:=HS.out.row.lt;have hwB:=HS.out.lt;have HLO:=aF hlo;clear hlo;by_cases hlt:i<l.length
  case neg=>
   have HE:=aF (HL.out.done (by omega));clear hs1;go_wp2_with fail
   go_ret;exact ⟨false,rfl,by simp [HE.out],HS.out.low⟩
  case pos=>
  obtain ⟨lb,lo,hLA,hlb,hl0⟩:=hs1.sl.at_ hlt;have t0:wr.cell? ⟨lb,lo+i,none⟩=some (.int .i64 l[i]):=by simpa [RInt] using hl0
  have hli:l[i]?=some l[i]:=bD hlt;have HLI:=aF hli;have hrg:=HL.out.rng l[i] (List.mem_of_getElem? hli);rw [HCE.out] at hrg;clear hs1 hl0 hli;generalize l[i]=q at *;obtain ⟨j,rfl⟩:=bG hrg.1;have hj:j<cn:=by omega
  have hsc:wr.cell? ⟨w1.heap.size,j,none⟩=some (.bool (decide ((j:Int)∈sl))):=HS.out.row.cell hj;have hsf:wr.frozen? ⟨w1.heap.size,j,none⟩=false:=HS.out.row.frozen j;rw [hLA];rw [hLA] at HS;by_cases hs:(j:Int)∈sl
  ·rw [decide_eq_true hs] at hsc;have HL2:=aF (HL.out.known HLI.out hs);go_wp2_with fail
   go_roundw
   case rel=>exact ⟨i+1,l,sl,by go_num,hlM,HL2,HLN,HS,by omega⟩
   case measure=>simp [intOf];omega
  ·rw [decide_eq_false hs] at hsc;have HS2:=aF (HS.out.mark j);have y0:=HS.out.box 0 _ rfl;have y1:=HS.out.box 1 _ rfl;have y2:=HS.out.box 2 _ rfl;have y3:=HS.out.box 3 _ rfl;have y4:=HS.out.box 4 _ rfl;have y5:=HS.out.box 5 _ rfl;have y6:=HS.out.box 6 _ rfl;have HDJ:=aF (fun W hb=>HD.out W hb (j:Int) (by omega));have HIN:=aF (xHN (usP b.blocks (j:Int)) x);have HUJ:=aF (fun W hb=>HU.out W hb (j:Int) (by omega));have HNJ:=aF (fun W hb=>HN.out W hb (j:Int) (by omega));have HFL:=aF (fun z (hz:folP b.blocks (j:Int) z)=>by have:=fX hz;rw [HCE.out] at this;exact this);have HMO:=aF (fun (h1:x∉usP b.blocks (j:Int)) (h2:dfP b.blocks (j:Int)≠some x) nx hn=>HL.out.more (nx:=nx) HLI.out hs h1 h2 hn);have HST:=aF (fun (h1:x∉usP b.blocks (j:Int)) (h2:dfP b.blocks (j:Int)=some x)=>HL.out.stop HLI.out hs h1 h2);have HFO:=aF (fun (h1:x∈usP b.blocks (j:Int))=>HL.out.found HLI.out h1);clear HD HU HN;by_cases hux:x∈usP b.blocks (j:Int)
   ·have hdu:decide (x∈insL [] (usP b.blocks (j:Int)))=true:=decide_eq_true (HIN.out.2 hux);go_wp2_with (first | (go_at_call 15;refine (HUJ.out _ HS2.out.low).mono ?_;rintro e' w3 ⟨A3,c3,rfl,hs3,hb3⟩;have HS3:=aF (HS2.out.keep hb3);have H3:=aF hs3;have hl3:=HS3.out.row.lt;clear hb3 hs3 hsc hsf t0;clear y0 y1 y2 y3 y4 y5 y6;have y0:=HS3.out.box 0 _ rfl;have y1:=HS3.out.box 1 _ rfl;have y2:=HS3.out.box 2 _ rfl;have y3:=HS3.out.box 3 _ rfl;have y4:=HS3.out.box 4 _ rfl;have y5:=HS3.out.box 5 _ rfl;have y6:=HS3.out.box 6 _ rfl) | (go_at_call 57;refine (zP _ x A3 c3 _ H3.out).mono ?_;rintro e' w4 ⟨rfl,rfl⟩))
    go_ret;exact ⟨true,rfl,by simp [HFO.out hux],HS3.out.low⟩
   ·have hdu:decide (x∈insL [] (usP b.blocks (j:Int)))=false:=decide_eq_false (fun h=>hux (HIN.out.1 h));by_cases hdx:dfP b.blocks (j:Int)=some x
    ·rw [hdx] at HDJ;unfold dfV at HDJ;have HL2:=aF (HST.out hux hdx);go_wp2_with (first | (go_at_call 15;refine (HUJ.out _ HS2.out.low).mono ?_;rintro e' w3 ⟨A3,c3,rfl,hs3,hb3⟩;have HS3:=aF (HS2.out.keep hb3);have H3:=aF hs3;have hl3:=HS3.out.row.lt;clear hb3 hs3 hsc hsf t0;clear y0 y1 y2 y3 y4 y5 y6;have y0:=HS3.out.box 0 _ rfl;have y1:=HS3.out.box 1 _ rfl;have y2:=HS3.out.box 2 _ rfl;have y3:=HS3.out.box 3 _ rfl;have y4:=HS3.out.box 4 _ rfl;have y5:=HS3.out.box 5 _ rfl;have y6:=HS3.out.box 6 _ rfl) | (go_at_call 57;refine (zP _ x A3 c3 _ H3.out).mono ?_;rintro e' w4 ⟨rfl,rfl⟩) | (go_at_call 12;refine (HDJ.out _ HS3.out.low).mono ?_;rintro e' w5 ⟨rfl,hb5⟩;have HS5:=aF (HS3.out.keep hb5);have hl5:=HS5.out.row.lt;clear hb5;clear y0 y1 y2 y3 y4 y5 y6;have y0:=HS5.out.box 0 _ rfl;have y1:=HS5.out.box 1 _ rfl;have y2:=HS5.out.box 2 _ rfl;have y3:=HS5.out.box 3 _ rfl;have y4:=HS5.out.box 4 _ rfl;have y5:=HS5.out.box 5 _ rfl;have y6:=HS5.out.box 6 _ rfl))
     go_roundw
     case rel=>exact ⟨i+1,l,(j:Int) :: sl,by go_num,hlM,HL2,aF (by have:=HLN.out;simp only [bK];rw [Nat.succ_mul];omega),HS5,by omega⟩
     case measure=>simp [intOf];omega
    ·cases hd:dfP b.blocks (j:Int) with
     | none=>
       rw [hd] at HDJ;unfold dfV at HDJ;go_wp2_with (first | (go_at_call 15;refine (HUJ.out _ HS2.out.low).mono ?_;rintro e' w3 ⟨A3,c3,rfl,hs3,hb3⟩;have HS3:=aF (HS2.out.keep hb3);have H3:=aF hs3;have hl3:=HS3.out.row.lt;clear hb3 hs3 hsc hsf t0;clear y0 y1 y2 y3 y4 y5 y6;have y0:=HS3.out.box 0 _ rfl;have y1:=HS3.out.box 1 _ rfl;have y2:=HS3.out.box 2 _ rfl;have y3:=HS3.out.box 3 _ rfl;have y4:=HS3.out.box 4 _ rfl;have y5:=HS3.out.box 5 _ rfl;have y6:=HS3.out.box 6 _ rfl) | (go_at_call 57;refine (zP _ x A3 c3 _ H3.out).mono ?_;rintro e' w4 ⟨rfl,rfl⟩) | (go_at_call 12;refine (HDJ.out _ HS3.out.low).mono ?_;rintro e' w5 ⟨rfl,hb5⟩;have HS5:=aF (HS3.out.keep hb5);have hl5:=HS5.out.row.lt;clear hb5;clear y0 y1 y2 y3 y4 y5 y6;have y0:=HS5.out.box 0 _ rfl;have y1:=HS5.out.box 1 _ rfl;have y2:=HS5.out.box 2 _ rfl;have y3:=HS5.out.box 3 _ rfl;have y4:=HS5.out.box 4 _ rfl;have y5:=HS5.out.box 5 _ rfl;have y6:=HS5.out.box 6 _ rfl) | (go_at_call 23;refine (HNJ.out _ HS5.out.low).mono ?_;rintro e' w6 ⟨A6,c6,s6,rfl,hsr,hs6,-,hc6,hb6⟩;have HS6:=aF (HS5.out.keep hb6);have hl6:=HS6.out.row.lt;have hn6:s6.length<=cn:=(hsr.len fun z hz=>⟨(HFL.out z hz).2.2.1,(HFL.out z hz).2.2.2⟩);have HR6:=aF hsr;have H6:=aF hs6;have HC6:=aF hc6;clear hb6 hs6 hsr hc6;clear y0 y1 y2 y3 y4 y5 y6;rcases A6 with _ | a6;obtain ⟨rfl,rfl⟩:s6=[]/\c6=0:=⟨xGW H6.out,HC6.out rfl⟩) | (at_builtin;refine wpList_append_own_none rfl _ _ 34 rfl (w1.heap.size+1) 3 i0 1 Tryz.underlying34 hi0 _ _ _ rfl HS6.out.own rfl ?_) | (at_builtin;refine wpList_append_own _ rfl _ _ 34 rfl (w1.heap.size+1) 3 i0 (.int .i64 0) 1 8 Tryz.underlying34 hi0 hz0 hz1 hz2 rfl (by decide) _ _ _ rfl (HS6.out.own) a6 s6.length c6 (s6.map (Value.int .i64)) rfl (by simp) (xGK H6.out) (fun u hu=>by rw [xFI] at hu;obtain ⟨z,_,rfl⟩:=hu;rfl) (by unfold maxLen;omega) (by omega) (by omega) ?_;intro v7 w7 hown7 hgrow7 _))
       ·go_roundw
        case rel=>exact ⟨i+1,l,(j:Int) :: sl,by go_num,hlM,aF (by have:=HMO.out hux (by rw [hd];simp) [] HR6.out.2;rwa [List.append_nil] at this),aF (by have:=HLN.out;simp only [bK];rw [Nat.succ_mul];omega),HS6,by omega⟩
        case measure=>simp [intOf];omega
       ·have HL2:=aF (HMO.out hux (by rw [hd];simp) s6 HR6.out.2);have HLN2:Hid ((l ++ s6).length<=1+((j:Int) :: sl).length * cn):=aF (by have:=HLN.out;simp only [bK,bB];rw [Nat.succ_mul];omega);have HS7:=aF (HS6.out.grow hgrow7 hown7);go_roundw
        case rel=>exact ⟨i+1,l ++ s6,(j:Int) :: sl,by go_num,by rw [<- HM.out,<- HCE.out];exact xHM HL2.out (by rw [HCE.out];exact HLN2.out),HL2,HLN2,HS7,by omega⟩
        case measure=>simp [intOf];omega
     | some d=>
       have hdn:d≠x:=fun e=>hdx (by rw [hd,e])
       have hdb:(d == x)=false:=by simp [hdn]
       rw [hd] at HDJ;unfold dfV at HDJ;go_wp2_with (first | (go_at_call 15;refine (HUJ.out _ HS2.out.low).mono ?_;rintro e' w3 ⟨A3,c3,rfl,hs3,hb3⟩;have HS3:=aF (HS2.out.keep hb3);have H3:=aF hs3;have hl3:=HS3.out.row.lt;clear hb3 hs3 hsc hsf t0;clear y0 y1 y2 y3 y4 y5 y6;have y0:=HS3.out.box 0 _ rfl;have y1:=HS3.out.box 1 _ rfl;have y2:=HS3.out.box 2 _ rfl;have y3:=HS3.out.box 3 _ rfl;have y4:=HS3.out.box 4 _ rfl;have y5:=HS3.out.box 5 _ rfl;have y6:=HS3.out.box 6 _ rfl) | (go_at_call 57;refine (zP _ x A3 c3 _ H3.out).mono ?_;rintro e' w4 ⟨rfl,rfl⟩) | (go_at_call 12;refine (HDJ.out _ HS3.out.low).mono ?_;rintro e' w5 ⟨rfl,hb5⟩;have HS5:=aF (HS3.out.keep hb5);have hl5:=HS5.out.row.lt;clear hb5;clear y0 y1 y2 y3 y4 y5 y6;have y0:=HS5.out.box 0 _ rfl;have y1:=HS5.out.box 1 _ rfl;have y2:=HS5.out.box 2 _ rfl;have y3:=HS5.out.box 3 _ rfl;have y4:=HS5.out.box 4 _ rfl;have y5:=HS5.out.box 5 _ rfl;have y6:=HS5.out.box 6 _ rfl) | (go_at_call 23;refine (HNJ.out _ HS5.out.low).mono ?_;rintro e' w6 ⟨A6,c6,s6,rfl,hsr,hs6,-,hc6,hb6⟩;have HS6:=aF (HS5.out.keep hb6);have hl6:=HS6.out.row.lt;have hn6:s6.length<=cn:=(hsr.len fun z hz=>⟨(HFL.out z hz).2.2.1,(HFL.out z hz).2.2.2⟩);have HR6:=aF hsr;have H6:=aF hs6;have HC6:=aF hc6;clear hb6 hs6 hsr hc6;clear y0 y1 y2 y3 y4 y5 y6;rcases A6 with _ | a6;obtain ⟨rfl,rfl⟩:s6=[]/\c6=0:=⟨xGW H6.out,HC6.out rfl⟩) | (at_builtin;refine wpList_append_own_none rfl _ _ 34 rfl (w1.heap.size+1) 3 i0 1 Tryz.underlying34 hi0 _ _ _ rfl HS6.out.own rfl ?_) | (at_builtin;refine wpList_append_own _ rfl _ _ 34 rfl (w1.heap.size+1) 3 i0 (.int .i64 0) 1 8 Tryz.underlying34 hi0 hz0 hz1 hz2 rfl (by decide) _ _ _ rfl (HS6.out.own) a6 s6.length c6 (s6.map (Value.int .i64)) rfl (by simp) (xGK H6.out) (fun u hu=>by rw [xFI] at hu;obtain ⟨z,_,rfl⟩:=hu;rfl) (by unfold maxLen;omega) (by omega) (by omega) ?_;intro v7 w7 hown7 hgrow7 _))
       ·go_roundw
        case rel=>exact ⟨i+1,l,(j:Int) :: sl,by go_num,hlM,aF (by have:=HMO.out hux (by rw [hd];simp [hdn]) [] HR6.out.2;rwa [List.append_nil] at this),aF (by have:=HLN.out;simp only [bK];rw [Nat.succ_mul];omega),HS6,by omega⟩
        case measure=>simp [intOf];omega
       ·have HL2:=aF (HMO.out hux (by rw [hd];simp [hdn]) s6 HR6.out.2);have HLN2:Hid ((l ++ s6).length<=1+((j:Int) :: sl).length * cn):=aF (by have:=HLN.out;simp only [bK,bB];rw [Nat.succ_mul];omega);have HS7:=aF (HS6.out.grow hgrow7 hown7);go_roundw
        case rel=>exact ⟨i+1,l ++ s6,(j:Int) :: sl,by go_num,by rw [<- HM.out,<- HCE.out];exact xHM HL2.out (by rw [HCE.out];exact HLN2.out),HL2,HLN2,HS7,by omega⟩
        case measure=>simp [intOf];omega
theorem xHH {w:World} {base n:Nat} {A:Option Addr} {c:Nat} {l:List Int} (h:w.ownsRow base 3 1 (.slice A l.length c) n (l.map (Value.int .i64))) (hn:l.length=n):Slc 1 RInt w A c l:=by
 obtain ⟨A',c',hv,hs,_⟩:=fD (R:=RInt) (fun _ _ _ _ _ h=>h) h hn;subst hn;injection hv with e1 e2 e3
 rw [e1,e3];exact hs
theorem xHE {w:World} {base base':Nat} {e:TypeId} {k n:Nat} {v:Value} {xs:List Value} (h:w.ownsRow base e k v n xs) (hb:base'<=base):w.ownsRow base' e k v n xs:=
 ⟨h.1,h.2.imp id (fun ⟨g,cap,cur,h1,h2,h3⟩=>⟨g,cap,cur,h1,bX hb h2,h3⟩)⟩
theorem xGV (b:Bdy) (bh:BH) (w:World) (H:BdAt w b bh) (hc:cntB b.blocks<=1000000) (hu:∀p,∀z∈usP b.blocks p,0<=z/\z<((1000000:Nat):Int)) (hin:∀p z,Lv b.blocks z p->0<=z/\z<(b.locals.length:Int)) (hl:b.locals.length<=1000000):
 Calls Tryz.prog 26 #[.agg (bdC b bh).toArray] w fun e' w'=>∃A c ll,e' = .returned (.slice A ll.length c)/\ll.length=cntB b.blocks/\(∀(k:Nat) (l:List Int),ll[k]?=some l->Srt l (fun z=>Lv b.blocks z (k:Int)))/\Slc 1 (RSl 1 RInt) w' A c ll/\Below w.heap.size w w':=by
 have HC:=aF (fun (W:World) (hb:Below w.heap.size w W)=>xGJ b bh W (H.keep hb) (by omega));have HL:=aF (fun (W:World) (hb:Below w.heap.size w W) (x p:Int) hp=>xHC b bh x p W (H.keep hb) hc hp hu);have HY:=aF (cQ w [Value.string b.name,.slice bh.A1 b.regions.length bh.c1,.slice bh.A2 b.outl.length bh.c2,.slice bh.A3 b.types.length bh.c3,.slice bh.A4 b.locals.length bh.c4,.int .i64 b.args,.slice bh.A5 b.blocks.length bh.c5] 28);obtain ⟨i0,hi0,hz0,hz1,hz2⟩:=info_parts dU;obtain ⟨j0,hj0,hy0,hy1,hy2⟩:=info_parts xFB;have HIN:=aF hin;clear H hu hin;unfold bdC at *;obtain ⟨cn,hcn⟩:∃cn,cntB b.blocks=cn:=⟨_,rfl⟩;have HCE:=aF hcn;rw [hcn] at hc;rw [hcn] at HC HL ⊢;clear hcn;go_enter Tryz.func26,Tryz.ntmps26
 go_wp2_with fail
 go_loopw [3,4,5,6] (fun v q _ _ wr=>∃(m:Nat) (tr:List Tr),q = .int .i64 m/\m<=cn/\Hid (RcW b bh w m tr v wr)) (fun _ q _ _ _=>cn - (intOf q).toNat)
 case atStart=>exact ⟨0,[],rfl,by omega,aF ⟨HY.out,World.ownsRow_nil _ _ _ _,fun t ht=>(by cases ht),rfl,(aX _ _).alloc (aY _) _,by simp,fun k t h=>(by cases h)⟩⟩
 case round=>
  clear HY;obtain ⟨m,tr,rfl,hm,HS⟩:=hrel;have y0:=HS.out.box 0 _ rfl;have y1:=HS.out.box 1 _ rfl;have y2:=HS.out.box 2 _ rfl;have y3:=HS.out.box 3 _ rfl;have y4:=HS.out.box 4 _ rfl;have y5:=HS.out.box 5 _ rfl;have y6:=HS.out.box 6 _ rfl;by_cases hlt:m<cn
  case neg=>
   have hme:m=cn:=by omega
   subst hme;obtain ⟨A,c,rfl,hs,-⟩:=fD (R:=RTr) (fun _ _ _ _ _ h=>h) HS.out.own HS.out.len;have hs2:=zH hs (fun t ht=>xHH (HS.out.rows t ht) rfl);have HS2:=aF hs2;have HLE:=aF HS.out.len;clear hs hs2;go_wp2_with (go_at_call 17;refine (HC.out _ HS.out.low).mono ?_;rintro e' w3 ⟨rfl,hb3⟩)
   go_ret
   exact ⟨A,c,tr.map (·.2.1),by rw [cF,HLE.out];rfl,by rw [cF,HLE.out],fun k l h=>by
    rw [cN] at h;cases e:tr[k]? with
    | none=>rw [e] at h;cases h
    | some t=>rw [e] at h;injection h with h;subst h;exact HS.out.srt k t e,HS2.out.keep (RSl.keeps RInt.keeps) hb3,HS.out.low.trans (hb3.mono HS.out.low.size)⟩
  case pos=>
  obtain ⟨VA,vc,rfl⟩:=dE HS.out.own;go_wp2_with (go_at_call 17;refine (HC.out _ HS.out.low).mono ?_;rintro e' w2 ⟨rfl,hb2⟩;have HS2:=aF (HS.out.keep hb2);clear hb2;clear y0 y1 y2 y3 y4 y5 y6)
  go_loopw [5,6] (fun v q wr=>∃(k:Nat) (s:List Int),q = .int .i64 k/\k<=b.locals.length/\Hid (wr.ownsRow w2.heap.size 3 1 v s.length (s.map (Value.int .i64)))/\Hid (Srt s (fun z=>Lv b.blocks z (m:Int)/\0<=z/\z<(k:Int)))/\Hid (Below w2.heap.size w2 wr)) (fun _ q _=>b.locals.length - (intOf q).toNat)
  case atStart=>exact ⟨0,[],rfl,by omega,aF (World.ownsRow_nil _ _ _ _),aF Srt.zero,aF (aX _ _)⟩
  case round=>
   obtain ⟨k,s,rfl,hk,HO,HR,HB⟩:=hrel;have HS3:=aF (HS2.out.keep HB.out);have hsl:=HR.out.len (n:=k) (fun z hz=>hz.2);have hl3:=HB.out.size;have y0:=HS3.out.box 0 _ rfl;have y1:=HS3.out.box 1 _ rfl;have y2:=HS3.out.box 2 _ rfl;have y3:=HS3.out.box 3 _ rfl;have y4:=HS3.out.box 4 _ rfl;have y5:=HS3.out.box 5 _ rfl;have y6:=HS3.out.box 6 _ rfl;by_cases hkl:k<b.locals.length
   case neg=>
    have hke:k=b.locals.length:=(by omega);subst hke;have HSS:Hid (Srt s (fun z=>Lv b.blocks z (m:Int))):=aF (HR.out.iff fun z=>⟨fun h=>h.1,fun h=>⟨h,HIN.out _ _ h⟩⟩);obtain ⟨A5,c5,rfl⟩:=dE HO.out;have hlt3:=HS3.out.lt;go_wp2_with (at_builtin;refine wpList_append_own _ rfl _ _ 45 rfl (w.heap.size+1) 34 j0 (.slice none 0 0) 1 24 Tryz.underlying45 hj0 hy0 hy1 hy2 rfl (by decide) _ _ _ rfl (HS3.out.own.alloc (.cells #[.slice A5 s.length c5] 34)) ⟨wr.heap.size,0,none⟩ 1 1 [.slice A5 s.length c5] rfl rfl (cell_one_new _ _ _) (fun u hu=>by simp at hu;subst hu;rfl) (by unfold maxLen;omega) (by omega) (by simp;omega) ?_;intro v7 w7 hown7 hgrow7 _)
    have hb:Below wr.heap.size wr (wr.alloc (.cells #[.slice A5 s.length c5] 34)):=(aX _ _).alloc (aY _) _;have HS7:=aF ((HS3.out.keep hb).grow (A5,s,c5) (xHE (HO.out.alloc _) (by have:=HS2.out.lt;omega)) hgrow7 hown7 HSS.out);go_roundw
    case rel=>exact ⟨m+1,tr ++ [(A5,s,c5)],by go_num,by omega,HS7⟩
    case measure=>simp [intOf];omega
   case pos=>
   obtain ⟨A5,c5,rfl⟩:=dE HO.out
   go_wp2_with (first
    | (go_at_call 56;refine (HL.out _ HS3.out.low (k:Int) (m:Int) ⟨by omega,by omega⟩).mono ?_;rintro e' w4 ⟨r,rfl,hr,hb4⟩;have HR4:=aF hr;have HO4:=aF (dG HO.out hb4);have HB4:=aF (HB.out.trans (hb4.mono HB.out.size));have hl4:=HB4.out.size;clear y0 y1 y2 y3 y4 y5 y6 hr hb4;cases r)
    | (at_builtin;refine wpList_append_own _ rfl _ _ 34 rfl w2.heap.size 3 i0 (.int .i64 0) 1 8 Tryz.underlying34 hi0 hz0 hz1 hz2 rfl (by decide) _ _ _ rfl (HO4.out.alloc (.cells #[.int .i64 (k:Int)] 3)) ⟨w4.heap.size,0,none⟩ 1 1 [.int .i64 (k:Int)] rfl rfl (cell_one_new _ _ _) (fun u hu=>by simp at hu;subst hu;rfl) (by unfold maxLen;omega) (by omega) (by simp;omega) ?_;intro v5 w5 hown5 hgrow5 _))
   ·have HR2:=aF (HR.out.skip_ (fun h=>by have:=HR4.out.2 h;cases this));go_roundw
    case rel=>exact ⟨k+1,s,by go_num,by omega,HO4,HR2,HB4⟩
    case measure=>simp [intOf];omega
   ·have HR2:=aF (HR.out.take_ (by omega) (HR4.out.1 (by simp)));have HB5:=aF (fS HB4.out HO4.out hgrow5);go_roundw
    case rel=>exact ⟨k+1,s ++ [(k:Int)],by go_num,by omega,aF (gP hown5),HR2,HB5⟩
    case measure=>simp [intOf];omega
end
section
open Go Go.RowKit
theorem xFJ {a b:Bool} (ha:a=true) (hb:b=true):(a && b)=true:=by rw [ha,hb];rfl
theorem xGU:(Rows.livenessLocalsRow.wf (OpenSpec.ofChange Rows.livenessLocalsSpec))=true:=by kernel_rfl
theorem xGT:(laidOutB Tryz.prog)=true:=by kernel_rfl
theorem xGS:(mapsRowed Tryz.prog)=true:=by kernel_rfl
theorem xGR:(Tryz.f7.params.all (Tryz.prog.readableRec ·))=true:=by kernel_rfl
theorem xGQ:(namedTie Tryz.prog Rows.livenessLocalsRow.named Rows.livenessLocalsSpec.vars)=true:=by kernel_rfl
theorem xGP:((Rows.livenessLocalsRow.stops == []))=true:=by kernel_rfl
theorem xGO:((Tryz.prog.stops == []))=true:=by kernel_rfl
theorem xGN:((Rows.livenessLocalsRow.knobs == []))=true:=by kernel_rfl
theorem xGM:((Tryz.prog.stopKnobs == []))=true:=by kernel_rfl
theorem xGL:((Rows.livenessLocalsRow.inPlace == Tryz.prog.inPlace 7))=true:=by kernel_rfl
theorem xGI:((Rows.livenessLocalsRow.unfollowed == Tryz.prog.unfollowed 7))=true:=by kernel_rfl
theorem xGH:((Rows.livenessLocalsRow.recurses == Tryz.prog.recurses 7))=true:=by kernel_rfl
theorem xGG:((Rows.livenessLocalsRow.named == Tryz.prog.varsNamed 7))=true:=by kernel_rfl
theorem xGF:((Rows.livenessLocalsRow.maps == (Tryz.f7.params.toList ++ Rows.livenessLocalsSpec.plain.varTypes Tryz.prog).any (Tryz.prog.mapsRec ·)))=true:=by kernel_rfl
theorem xGE:((Rows.livenessLocalsRow.ifaces == (Tryz.f7.params.toList ++ Rows.livenessLocalsSpec.plain.varTypes Tryz.prog).any (Tryz.prog.ifacesRec ·)))=true:=by kernel_rfl
theorem xGD:((Rows.livenessLocalsRow.mapsOut == Tryz.prog.mapsAmong Tryz.f7.resultTypes.toList))=true:=by kernel_rfl
theorem xGC:((Rows.livenessLocalsRow.loops == (Tryz.f7.params.toList ++ Rows.livenessLocalsSpec.plain.varTypes Tryz.prog).any (Tryz.prog.loopsFrom ·)))=true:=by kernel_rfl
theorem xGB:((Rows.livenessLocalsRow.wideKeys == (Tryz.f7.params.toList ++ Rows.livenessLocalsSpec.plain.varTypes Tryz.prog ++ Tryz.f7.resultTypes.toList).any (Tryz.prog.wideKeysFrom ·)))=true:=by kernel_rfl
theorem xGA:(Rows.livenessLocalsSpec.vars.all (Tryz.prog.varReadable ·))=true:=by kernel_rfl
theorem xFZ:(Tryz.f7.resultTypes.all (fun t=>Tryz.prog.readableRec t && decide (t<Tryz.prog.types.size)))=true:=by kernel_rfl
theorem xFY:((Rows.livenessLocalsRow.ifacesOut == Tryz.f7.resultTypes.toList.any (Tryz.prog.ifacesRec ·)))=true:=by kernel_rfl
theorem xFX:((Rows.livenessLocalsRow.loopsOut == Tryz.f7.resultTypes.toList.any (Tryz.prog.loopsFrom ·)))=true:=by kernel_rfl
theorem xFW:((Rows.livenessLocalsRow.plainKeys == Tryz.prog.plainKeys))=true:=by kernel_rfl
theorem xFV:(Rows.livenessLocalsRow.shortTexts.isNone)=true:=by kernel_rfl
theorem xFU:(Tryz.prog.stopsHeard)=true:=by kernel_rfl
theorem xFT:(Tryz.prog.mayEnter)=true:=by kernel_rfl
theorem xFS:((Rows.livenessLocalsRow.lifted == Tryz.prog.liftsFinal))=true:=by kernel_rfl
theorem xFR:((Tryz.prog.make == some Rows.livenessLocalsRow.make))=true:=by kernel_rfl
theorem xFQ:((Rows.livenessLocalsRow.kinds == (if Rows.livenessLocalsRow.domain.isEmpty then [] else Tryz.f7.params.toList.map fun t=>match Tryz.prog.underlying t with | some (.int k)=>some k | _=>none)))=true:=by kernel_rfl
theorem xFP:((Rows.livenessLocalsRow.pinned == Rows.livenessLocalsRow.pinnedBy))=true:=by kernel_rfl
theorem xFO:((Rows.livenessLocalsRow.veiled == (Tryz.f7.params.toList ++ Rows.livenessLocalsSpec.plain.varTypes Tryz.prog ++ Tryz.f7.resultTypes.toList).any (Tryz.prog.veiledRec ·)))=true:=by kernel_rfl
theorem xFN:(Rows.livenessLocalsRow.veiledFits Tryz.prog Tryz.f7.params.toList (Tryz.f7.params.toList ++ Rows.livenessLocalsSpec.plain.varTypes Tryz.prog ++ Tryz.f7.resultTypes.toList))=true:=by kernel_rfl
theorem xFL:joinedFacts Tryz.prog 7 Tryz.f7 Rows.livenessLocalsSpec Rows.livenessLocalsRow=true:=(xFJ (xFJ (xFJ (xFJ (xFJ (xFJ (xFJ (xFJ (xFJ (xFJ (xFJ (xFJ (xFJ (xFJ (xFJ (xFJ (xFJ (xFJ (xFJ (xFJ (xFJ (xFJ (xFJ (xFJ (xFJ (xFJ (xFJ (xFJ (xFJ (xFJ (xFJ xGU xGT) xGS) xGR) xGQ) xGP) xGO) xGN) xGM) xGL) xGI) xGH) xGG) xGF) xGE) xGD) xGC) xGB) xGA) xFZ) xFY) xFX) xFW) xFV) xFU) xFT) xFS) xFR) xFQ) xFP) xFO) xFN)
end
section
open Go Go.RowKit
attribute [local irreducible] Calls
def locU (b:Bdy):List Int:=(List.range b.locals.length).map (fun (i:Nat)=>(i:Int))
theorem xHI {b:Bdy} {z:Int} (h:LocIn b z):z∈locU b:=by
 unfold LocIn at h;unfold locU;rw [xFI];exact ⟨z.toNat,List.mem_range.2 (by omega),by omega⟩
theorem Ok12.targets {b:Bdy} (h:Ok12 b):∀x∈b.blocks,x.term.targets.length<=1000000000000:=fun x hx=>by
 have:=(xR h.chk).blks x hx;omega
theorem Ok12.uses {b:Bdy} (h:Ok12 b):∀p,∀z∈usP b.blocks p,z∈locU b/\Sml z:=fun _ _ hz=>⟨xHI (xEG h.chk hz),h.sml hz⟩
theorem Ok12.ulen {b:Bdy} (h:Ok12 b):(locU b).length<=1000:=by
 have:=h.loc;unfold locU;simp;omega
def LocQ (b:Bdy) (w:World) (e':Ending) (w':World):Prop:=∃A c ll,e' = .returned (.slice A ll.length c)/\ll.length=cntB b.blocks/\(∀(k:Nat) (l:List Int),ll[k]?=some l->Srt l (fun z=>Lv b.blocks z (k:Int)))/\Slc 1 (RSl 1 RInt) w' A c ll/\Below w.heap.size w w'
theorem xGZ (b:Bdy) (bh:BH) (w:World) (H:BdAt w b bh) (h:Ok12 b):Calls Tryz.prog 21 #[.agg (bdC b bh).toArray] w (LocQ b w):=
 qA b bh w (locU b) H (by have:=h.cnt;omega) (by have:=h.ns.blk;omega) h.targets h.uses h.ulen
theorem xGY (b:Bdy) (bh:BH) (w:World) (H:BdAt w b bh) (h:Ok12 b):Calls Tryz.prog 26 #[.agg (bdC b bh).toArray] w (LocQ b w):=
 xGV b bh w H (by have:=h.cnt;omega) (fun p z hz=>h.sml hz) (fun p z hz=>lv_in h.chk hz) (by have:=h.loc;omega)
theorem xHL (A B:Option Addr) (c d:Nat) (xs ys:List Int) (w:World) (h1:Slc 1 RInt w A c xs) (h2:Slc 1 RInt w B d ys):
 Calls Tryz.prog 27 #[.slice A xs.length c,.slice B ys.length d] w fun e w'=>e = .returned (.bool (decide (xs=ys)))/\Below w.heap.size w w':=by
 have HE:=aF (kL A B c d xs ys w h1 h2);clear h1 h2;generalize decide (xs=ys)=q at *;go_enter Tryz.func27,Tryz.ntmps27
 go_wp2_with (go_at_call 13;refine HE.out.mono ?_;rintro e' w1 ⟨rfl,k,rfl⟩)
 go_ret;exact ⟨rfl,aG (aX _ _) _⟩
theorem xHP (A B:Option Addr) (c d:Nat) (ll:List (List Int)) (w:World) (h1:Slc 1 (RSl 1 RInt) w A c ll) (h2:Slc 1 (RSl 1 RInt) w B d ll):
 Calls Tryz.prog 25 #[.slice A ll.length c,.slice B ll.length d,.func (.func 27) #[] #[]] w fun e w'=>e = .returned (.bool true)/\Below w.heap.size w w':=by
 have H1:=aF h1;have H2:=aF h2;have n1:=h1.le;have n2:=h1.big;have n3:=h2.le;have n4:=h2.big;clear h1 h2;go_enter Tryz.func25,Tryz.ntmps25
 go_wp2_with fail
 go_loopw [6,7,8,9,17] (fun _ _ _ _ i wr=>∃k:Nat,i = .int .i64 k/\k<=ll.length/\Hid (Below w.heap.size w wr)) (fun _ _ _ _ i _=>ll.length - (intOf i).toNat)
 case atStart=>exact ⟨0,rfl,by omega,aF (aX _ _)⟩
 case round=>
  obtain ⟨k,rfl,hk,HB⟩:=hrel;by_cases hlt:k<ll.length
  case pos=>
   obtain ⟨b1,o1,rfl,hb1,hx1⟩:=(H1.out.keep (RSl.keeps RInt.keeps) HB.out).sl.at_ hlt;obtain ⟨b2,o2,rfl,hb2,hx2⟩:=(H2.out.keep (RSl.keeps RInt.keeps) HB.out).sl.at_ hlt;generalize ll[k]=l at *;obtain ⟨P1,e1,q1,q2,q3,q4⟩:=hx1;obtain ⟨P2,e2,r1,r2,r3,r4⟩:=hx2;rw [Nat.mul_one] at q1 r1;have HE:=aF (xHL P1 P2 e1 e2 l l wr ⟨q4,q2,q3⟩ ⟨r4,r2,r3⟩);rw [decide_eq_true rfl] at HE;clear q4 r4;go_wp2_with (go_at_call 27;refine HE.out.mono ?_;rintro e' w1 ⟨rfl,hw1⟩)
   have HB1:=aF (HB.out.trans (hw1.mono HB.out.size));go_roundw
   case rel=>exact ⟨k+1,by go_num,by omega,HB1⟩
   case measure=>simp [intOf];omega
  case neg=>
   go_wp2_with fail
   go_ret;exact ⟨rfl,HB.out⟩
theorem xHG (b:Bdy) (bh:BH) (w:World) (hT:TabsOk w) (H:BdAt w b bh) (hz:NmOk b):
 Calls Tryz.prog 7 #[.agg (bdC b bh).toArray] w fun e' w'=>e' = .returned (.bool true)/\Below w.heap.size w w':=by
 have HAL:=aF (fun (W:World) (hb:Below w.heap.size w W)=>qQ W (hT.keep hb));have HSK:=aF (fun (W:World) (hb:Below w.heap.size w W)=>oO b bh W (H.keep hb) hz);have HLO:=aF (fun (W:World) (hb:Below w.heap.size w W) (ho:Ok12 b)=>xGZ b bh W (H.keep hb) ho);have HRL:=aF (fun (W:World) (hb:Below w.heap.size w W) (ho:Ok12 b)=>xGY b bh W (H.keep hb) ho);obtain ⟨A1,c1,A2,c2,A3,c3,A4,c4,A5,c5⟩:=bh;unfold bdC at *;simp only at *;obtain ⟨W0,hW0⟩:∃W,w.alloc (.cells ([Value.string b.name,.slice A1 b.regions.length c1,.slice A2 b.outl.length c2,.slice A3 b.types.length c3,.slice A4 b.locals.length c4,.int .i64 b.args,.slice A5 b.blocks.length c5]).toArray 28)=W:=⟨_,rfl⟩;have hb0:Below w.heap.size w W0:=by rw [<- hW0];exact (aX _ _).alloc (aY _) _
 have HB0:=aF hb0;have hcx:=cQ w [Value.string b.name,.slice A1 b.regions.length c1,.slice A2 b.outl.length c2,.slice A3 b.types.length c3,.slice A4 b.locals.length c4,.int .i64 b.args,.slice A5 b.blocks.length c5] 28;rw [hW0] at hcx;have HX:=aF (fun (W:World) (hb:Below W0.heap.size W0 W) i v h=>cO hb (hcx i v h));have hX:=hcx;obtain ⟨y0,y1,y2,y3,y4,y5,y6⟩:=aS hX;clear hX hcx hb0 hT H hz;go_enter Tryz.func7,Tryz.ntmps7
 go_wp2_with fail
 go_at_call 9
 refine (HSK.out W0 HB0.out).mono ?_;rintro e' w1 ⟨⟨q,rfl,hq⟩,hw1⟩;clear y0 y1 y2 y3 y4 y5 y6;have HW1:=aF hw1;have HB1:=aF (HB0.out.trans (hw1.mono HB0.out.size));clear hw1;by_cases hq0:0<q
 ·clear hq;go_wp2_with (go_at_call 10;refine (HAL.out _ HB1.out).mono ?_;rintro e' w2 ⟨rfl,hw2⟩)
  go_ret;exact ⟨rfl,HB1.out.trans (hw2.mono HB1.out.size)⟩
 ·have HOK:=aF (hq (by omega));clear hq;go_wp2_with fail
  have hS:Below W0.heap.size W0 w1.drew:=HW1.out.drew;have HD3:=aF HB1.out.drew;refine cT (S:=fun X=>Below W0.heap.size W0 X) [0,1,2,4,3,5,6,7,8] (by kernel_rfl) ?_;(refine cY (fun K1 hK1=>?_);simp only [aM];rw [bA (by rfl)];go_simp);refine (HAL.out _ HD3.out).mono ?_;rintro e' w5 ⟨rfl,hw5⟩;have HB5:=aF (HD3.out.trans (hw5.mono HD3.out.size));have hS5:=hS.trans (hw5.mono hS.size);refine hK1.out _ _ (fun _=>hS5) ?_;clear hS hw5;have hS:=hS5;(iterate 3 (refine cR (v:=?_) ?_ hS ?_;rotate_left;(next=>(rintro X hx;have hX:=HX.out X hx;obtain ⟨y0,y1,y2,y3,y4,y5,y6⟩:=aS hX;(try simp only [aI]);go_simp;rfl));simp only [aM]));(refine cY (fun K1 hK1=>?_);simp only [aM];rw [bA (by rfl)];go_simp);refine (HLO.out _ HB5.out HOK.out).mono ?_;rintro e' w6 ⟨A6,c6,ll,rfl,l1,l2,h6,hw6⟩;have L1:=aF l1;clear l1;have HB6:=aF (HB5.out.trans (hw6.mono HB5.out.size));have hS6:=hS.trans (hw6.mono hS.size);refine hK1.out _ _ (fun _=>hS6) ?_;(refine cY (fun K1 hK1=>?_);simp only [aM];rw [bA (by rfl)];go_simp);refine (HRL.out _ HB6.out HOK.out).mono ?_;rintro e' w7 ⟨A7,c7,mm,rfl,m1,m2,h7,hw7⟩;obtain rfl:=xHJ L1.out m1 l2 m2;clear m1 m2;have HB7:=aF (HB6.out.trans (hw7.mono HB6.out.size));have hS7:=hS6.trans (hw7.mono hS6.size);have h6':=h6.keep (RSl.keeps RInt.keeps) hw7;refine hK1.out _ _ (fun _=>hS7) ?_;(refine cY (fun K1 hK1=>?_);simp only [aM];rw [bA (by rfl)];go_simp);refine (xHP A6 A7 c6 c7 ll _ h6' h7).mono ?_;rintro e' w8 ⟨rfl,hw8⟩;have HB8:=aF (HB7.out.trans (hw8.mono HB7.out.size));have hS8:=hS7.trans (hw8.mono hS7.size);refine hK1.out _ _ (fun _=>hS8) ?_;clear hS;have hS:=hS8;(iterate 2 (refine cR (v:=?_) ?_ hS ?_;rotate_left;(next=>(rintro X -;(try simp only [aI]);go_simp;rfl));simp only [aM]));refine cZ ?_;go_wp2_with fail
  go_ret;exact ⟨rfl,HB8.out⟩
end
section
open Go Go.ChangeShapes Go.WideShapes Go.ChangeAt Go.RowKit
theorem xFK (os:Os) (started:os.Started) (H:Type) (enc:TypeId × Value->H):
 ReturnsInHanded {} Tryz.checked os 7 .any (fun w args=>(Rows.livenessLocalsSpec.pre enc Tryz.prog Tryz.f7 [] false w args/\laidMetH Tryz.prog Rows.livenessLocalsRow.laid w)/\sizedMet enc Tryz.prog Tryz.f7 (OpenSpec.ofChange Rows.livenessLocalsSpec) false w args)
  (Rows.livenessLocalsSpec.post enc Tryz.prog Tryz.f7 false true false false):=by
 refine returnsInHanded_of_change_and (C:=Tryz.checked) (X:=fun w _=>laidMetH Tryz.prog Rows.livenessLocalsRow.laid w) (fun _ _ _ hh h=>h.of_heap hh) Tryz.own started (by kernel_rfl) Tryz.func7
  (ChangeSpec.witness_shaped (enc:=enc) (C:=Tryz.checked) (os:=os) (X:=fun w _=>laidMetH Tryz.prog Rows.livenessLocalsRow.laid w) false (World.laidAll Tryz.prog os Rows.livenessLocalsRow.laid) #[.agg #[.string ⟨#[]⟩,.slice none 0 0,.slice none 0 0,.slice none 0 0,.slice none 0 0,.int .i64 0,.slice none 0 0]] 8 (World.laidAll_os _ _ _) (World.shaped_of_ZipB (by kernel_rfl) (by kernel_rfl)) (by kernel_rfl) (by kernel_rfl) (by kernel_rfl)
    (by rw [MakeChecks.laidMetH_plain _ _ _ (by kernel_rfl)];exact laidMet_laidAll _ (by kernel_rfl) (by kernel_rfl))) ?_
 intro W base args ds gs before hval0 hW _ hwt hL _;have hval:∀(j:Nat) t v,Tryz.f7.params[j]?=some t->args[j]?=some v->Value.okWide Tryz.prog W .any base t v:=hval0;have hW':=hW;obtain ⟨p,q,hA0,hV,rfl,hfz,hnd⟩:=hW;have hA:DataW.TrodAll enc Tryz.prog W 0 (fun _=>true) true Tryz.f7.params.toList args.toList ds p:=hA0;rw [Tryz.params7] at hA hval;obtain ⟨v0,d0,rfl,rfl,h0⟩:=trodAll_one hA;obtain ⟨rfl,rfl⟩:=trodVars_none hV;obtain ⟨bb,bh,rfl,hbd,hnm⟩:=wI (hval 0 _ v0 rfl rfl) h0;have hTT:=xEF hL;clear hA0 hval0;refine (xHG bb bh W hTT hbd hnm).mono fun e W' ⟨he,hb⟩=>?_
 exact ⟨_,he,xAN Tryz.laidOut rfl (by kernel_rfl) Tryz.underlying4 rfl (by rw [Tryz.params7];intro t ht;simp at ht;subst ht;exact ⟨by kernel_rfl,of_decide_eq_true (by kernel_rfl)⟩) hW' hb⟩
theorem xFM:Rows.LivenessLocalsSaid:=
 OpenClaim.holds_of_wide 7 Tryz.f7 rfl rfl rfl rfl rfl rfl rfl ⟨rfl,rfl,rfl,rfl,rfl⟩ rfl rfl rfl rfl rfl (by kernel_rfl) Tryz.func7 xFL
  (of_decide_eq_true (by kernel_rfl)) (by unfold Func.isWrapper;first | (rw [bA (by decide +kernel)];kernel_rfl) | (rw [aZ (by decide +kernel)];exact ⟨rfl,rfl⟩))
  (fun os started H enc _=>xFK os started H enc)
theorem LivenessLocals_holds:Rows.LivenessLocalsCardSaid:=
 Claim7.holds_tied_plain_at .later [] [.data, .widerDeep, .widerDeep, .pinned] true (true, "c508f7b79725eb36423e68c36a915c820725776de7feaa7e39e53a602ed9389b") false
  xFM (fun _ h=>by cases h) (by kernel_rfl) (fun _ h=>by cases h) livenessLocals_row_tie rfl ⟨rfl,rfl⟩ (by kernel_rfl) rfl
  (fun f fn hf hfn=>by
    obtain rfl:f=7:=Option.some.inj ((show Tryz.prog.funcNamed Rows.livenessLocalsRow.func=some 7 by kernel_rfl).symm.trans hf) |>.symm;obtain rfl:fn=Tryz.f7:=(Option.some.inj (Tryz.func7.symm.trans hfn)).symm
    exact ⟨by kernel_rfl,fun j t ht=>by
     rw [Tryz.params7] at ht;have hm:t∈[28]:=(by simpa using Array.mem_of_getElem? ht);have hall:([28].all fun u=> !Tryz.prog.wantsStandIn u)=true:=by kernel_rfl
     exact (show Tryz.prog.wantsStandIn t=false by simpa using List.all_eq_true.1 hall t hm)⟩)
  (by kernel_rfl)
end
end Go.Proofs.YtcfchohkmkilpaaGreatDoor
