/-
  BindeclRoundTrip: a statement of Bindecl (part 2)
-/
import Derived.Test.YtbnljlpefpllcaaGreatDoorNR1
import Derived.Lib.Hide
import Derived.Below
import Derived.WalkSmall
import Derived.Laws.World
import Derived.Test.YtbnljlpefpllcaaGreatDoorProg
import Derived.WalkKit
import Derived.WalkSpells
import Derived.WalkLawsBesides
import Derived.Deep.RegionHeld3
import Derived.Deep.DeepFit
import Derived.Deep.QuietTactic
import Derived.BigQuiet
import Derived.OwnWalk
import Derived.Maps.AppendAt
import Derived.Deep.DeepCutAuto
import Derived.StillTailTactics
import Derived.RangeFuncNested
import Derived.RangeFuncBound
import Derived.RangeFuncCalls
import Derived.RangeFuncLeaves
import Derived.OwnWalkIn
import Derived.TacticsInMore
import Derived.LoopNIn
import Derived.LoopIn
import Derived.Laws.Bits64b
import Derived.Shelf.Abstract
import Derived.OrdersHeld
import Derived.Deep.RegionHeld
import Derived.Lib.SliceRun
import Derived.Test.YtbnljlpefpllcaaGreatDoorSg
import Derived.Deep.AppendSrc
import Derived.Maps.OwnSet
import Derived.Maps.OwnOps
import Derived.StringKeys
import Derived.Laws.MathBits
import Derived.Test.YtbnljlpefpllcaaGreatDoorSh
import Derived.WideKeyPair
import Derived.WideKeyArr
import Derived.Deep.MidRow
import Derived.Lib.SlicesCompact
import Derived.Sort.Walk0
import Derived.Deep.LoopGhost
import Derived.ChangeKeysEq
import Derived.Sort.OwnSorted
import Derived.Test.YtbnljlpefpllcaaGreatDoorRows
import Derived.ProofKit
import Derived.Deep.Slices
import Derived.Deep.Fields
import Derived.Lib.SmallJoins
import Derived.OpenShut
import Derived.LaidMore
import Derived.Stop.Joined
import Derived.Stop.LaidErr
import Derived.Lay
import Derived.SevenTiedAt
import Derived.JoinedOf
import Derived.Test.YtbnljlpefpllcaaGreatDoorTie
import Derived.Test.YtbnljlpefpllcaaGreatDoorCards
import Derived.SizedLaws
namespace Go.Proofs.YtbnljlpefpllcaaGreatDoor
set_option maxRecDepth 100000
set_option maxHeartbeats 16000000
section
open Go Go.RowKit
theorem xKH (b:Bdy) (bh:BH) (w:World) (H:BdAt w b bh) (h1:b.regions.length≤100000) (h2:b.locals.length≤100000) (h3:b.blocks.length≤100000):
 Calls Tryz.prog 64 #[.agg (bdC b bh).toArray] w fun e' w'=>(∃A c,e' = .returned (.slice A (allN b).length c)∧Slc 1 RN w' A c (allN b))∧Below w.heap.size w w':=by
 obtain ⟨A1,c1,A2,c2,A3,c3,A4,c4,A5,c5⟩:=bh
 obtain ⟨iS,iS0,iS1,iS2,iS3⟩:=info_parts oP
 have HH:=aF H
 obtain ⟨hr,r1,r2⟩:=H.reg
 have l1:=H.loc.le
 have l2:=H.loc.big
 have b1:=H.blk.le
 have b2:=H.blk.big
 simp only at hr r1 r2 l1 l2 b1 b2
 have hA1:A1=none→b.regions.length=0:=fun h=>by
  rcases Nat.eq_zero_or_pos b.regions.length with h0 | h0
  ·exact h0
  ·obtain ⟨b0,o0,e,_⟩:=hr h0
   rw [h] at e;cases e
 have hcl:∀W,Below w.heap.size w W→∀ad,A1=some ad→∀j u,(b.regions.map Value.string)[j]?=some u→W.cell? (ad.add j)=some u:=fun W hb ad had j u hj=>by
  have hjl:j<b.regions.length:=by
   have:=(List.getElem?_eq_some_iff.1 hj).1
   simpa using this
  obtain ⟨b0,o0,e,hb0,hx⟩:=hr (by omega)
  rw [had] at e
  cases e
  rw [xHQ]
  have:=hx j _ (bB hjl)
  rw [Nat.mul_one] at this
  rw [cO,bB hjl] at hj
  cases hj
  exact cell_keep hb this
 have HA1:=aF hA1
 have HCL:=aF hcl
 clear H hr hA1 hcl
 unfold bdC
 simp only
 change Calls _ _ #[.agg #[Value.string b.name,.slice A1 b.regions.length c1,.slice A2 b.outl.length c2,.slice A3 b.types.length c3,.slice A4 b.locals.length c4,.int .i64 b.args,.slice A5 b.blocks.length c5]] _ _
 obtain ⟨W,hW⟩:∃W,w.alloc (.cells #[Value.string b.name,.slice A1 b.regions.length c1,.slice A2 b.outl.length c2,.slice A3 b.types.length c3,.slice A4 b.locals.length c4,.int .i64 b.args,.slice A5 b.blocks.length c5] 28)=W:=⟨_,rfl⟩
 have hWs:w.heap.size<W.heap.size:=by rw [← hW];simp
 have HCW:Hid (aA (bdM b A1 c1 A2 c2 A3 c3 A4 c4 A5 c5 []) W w.heap.size):=aF (by rw [← hW];exact cW w [Value.string b.name,.slice A1 b.regions.length c1,.slice A2 b.outl.length c2,.slice A3 b.types.length c3,.slice A4 b.locals.length c4,.int .i64 b.args,.slice A5 b.blocks.length c5] 28)
 have HBW:Hid (Below w.heap.size w W):=aF (by rw [← hW];exact alF _ _)
 have y0:=HCW.out 0 _ rfl
 have y1:=HCW.out 1 _ rfl
 have hown0:=sF W (.string b.name) 9 W.heap.size (aW _)
 have HBW2:=aF (HBW.out.alloc (Nat.le_of_lt hWs) (.cells #[.string b.name] 9))
 go_enter Tryz.func64,Tryz.ntmps64
 go_wp2_with (at_builtin;refine fX _ rfl _ _ 22 rfl W.heap.size 9 iS (.string { data:= #[] }) 1 16 Tryz.underlying22 iS0 iS1 iS2 iS3 rfl (by decide) _ _ _ rfl hown0 (by omega) A1 b.regions.length c1 (b.regions.map Value.string) rfl HA1.out (by simp) (HCL.out _ HBW2.out) (fun u hu=>by obtain ⟨s,_,rfl⟩:=List.mem_map.1 hu;rfl) (by unfold maxLen;omega) (by omega) (by simp) ?_;intro v1 w1 hown1 hgrow1)
 have HO1:Hid (w1.ownsRow W.heap.size 9 1 v1 ((b.name :: b.regions) ++ (b.locals.take 0).map (·.name)).length (((b.name :: b.regions) ++ (b.locals.take 0).map (·.name)).map Value.string)):=aF (by
  simp only [List.take_zero,cM,List.append_nil,bJ,cK]
  rw [Nat.add_comm]
  exact hown1)
 have HB1:Hid (Below W.heap.size W w1):=aF ((alF W _).grown hgrow1 (by simp) (fun g hg=>(hown0.lt g hg).1))
 clear hown1 hgrow1 hown0 y0 y1
 go_wp2_with fail
 go_loopw [3,4] (fun v i wr=>∃(k:Nat) (acc:List ByteArray),k≤b.locals.length∧i = .int .i64 k∧acc.length=1+b.regions.length+k∧Hid (acc=(b.name :: b.regions) ++ (b.locals.take k).map (·.name))∧Hid (wr.ownsRow W.heap.size 9 1 v acc.length (acc.map Value.string))∧Hid (Below W.heap.size W wr)) (fun _ i _=>b.locals.length - (intOf i).toNat)
 case atStart=>exact ⟨0,_,by omega,rfl,by simp;omega,aF rfl,HO1,HB1⟩
 case round=>
  clear HO1 HB1
  obtain ⟨k,acc,hk,rfl,hal,HA,HO,HB⟩:=hrel
  have hsz:=HB.out.size
  have HCC:=aF (cells_kept HCW.out HB.out)
  obtain ⟨y0,y1,y2,y3,y4,y5,y6⟩:=aQ HCC.out
  by_cases hlt:k<b.locals.length
  ·obtain ⟨b5,o5,rfl,hb5,y⟩:=HH.out.loc.sl.at_ hlt
   have HTK:=aF (gF hlt)
   obtain ⟨p0,p1⟩:=RLc.keeps _ _ _ w.heap.size _ _ _ (aW _) hb5 (keep0 HB.out HBW.out) y
   generalize b.locals[k]=xx at *
   obtain ⟨x,xt⟩:=xx
   simp only at p0 p1
   have HA2:Hid (acc ++ [x]=(b.name :: b.regions) ++ (b.locals.take (k+1)).map (·.name)):=aF (by rw [HTK.out,HA.out];simp)
   clear y
   have hown2:=HO.out.alloc (.cells #[.string x] 9)
   go_wp2_with (at_builtin;refine wpList_append_own _ rfl _ _ 22 rfl W.heap.size 9 iS (.string { data:= #[] }) 1 16 Tryz.underlying22 iS0 iS1 iS2 iS3 rfl (by decide) _ _ _ rfl hown2 ⟨wr.heap.size,0,none⟩ 1 1 [.string x] rfl rfl (kC _ _) (kB _) (by unfold maxLen;omega) (by omega) (by simp;omega) ?_)
   intro v' w2 hown' hgrow _
   have HO2:Hid (w2.ownsRow W.heap.size 9 1 v' (acc ++ [x]).length ((acc ++ [x]).map Value.string)):=aF (by rw [bS,aZ,hal];exact hown')
   have HB2:Hid (Below W.heap.size W w2):=aF ((HB.out.alloc hsz _).grown hgrow (by simp;omega) (fun g hg=>(hown2.lt g hg).1))
   clear hown' hgrow hown2
   go_wp2_with fail
   go_roundw
   case rel=>exact ⟨k+1,acc ++ [x],by omega,by go_num,by simp;omega,HA2,HO2,HB2⟩
   case measure=>simp [intOf];omega
  ·have hkl:k=b.locals.length:=by omega
   have HA2:Hid (acc=(b.name :: b.regions) ++ b.locals.map (·.name) ++ ((b.blocks.take 0).filter (fun x=>decide (x.term.kind=3))).map (·.term.name)):=aF (by rw [HA.out,hkl,bZ];simp)
   clear HA hlt hk
   subst hkl
   go_wp2_with fail
   clear y0 y1 y2 y3 y4 y5 y6
   go_loopw [3,5] (fun v i wr=>∃(k n:Nat) (acc:List ByteArray),k≤b.blocks.length∧i = .int .i64 k∧acc.length=n∧n≤1+b.regions.length+b.locals.length+k∧Hid (acc=(b.name :: b.regions) ++ b.locals.map (·.name) ++ ((b.blocks.take k).filter (fun x=>decide (x.term.kind=3))).map (·.term.name))∧Hid (wr.ownsRow W.heap.size 9 1 v n (acc.map Value.string))∧Hid (Below W.heap.size W wr)) (fun _ i _=>b.blocks.length - (intOf i).toNat)
   case atStart=>exact ⟨0,_,acc,by omega,rfl,rfl,by omega,HA2,HO,HB⟩
   case round=>
    clear HO HB HCC HA2 hal
    obtain ⟨k,n,acc,hk,rfl,hal,hn,HA,HO,HB⟩:=hrel
    have hsz:=HB.out.size
    have HCC:=aF (cells_kept HCW.out HB.out)
    obtain ⟨y0,y1,y2,y3,y4,y5,y6⟩:=aQ HCC.out
    by_cases hlt:k<b.blocks.length
    ·obtain ⟨b5,o5,rfl,hb5,y⟩:=HH.out.blk.sl.at_ hlt
     have HTK:=aF (gF hlt)
     generalize b.blocks[k]=xx at *
     obtain ⟨B1,d1,B2,d2,B3,d3,B4,d4,p0,p1,p2,p3,p4,p5,p6,_,_,_,_⟩:=sX y
     have hbk:=keep0 HB.out HBW.out
     replace p1:=cell_keep hbk p1
     replace p6:=cell_keep hbk p6
     obtain ⟨x,hx⟩:∃x,xx.term.name=x:=⟨_,rfl⟩
     rw [hx] at p6
     clear y p0 p2 p3 p4 p5 hbk
     by_cases hk3:xx.term.kind=3
     ·rw [hk3] at p1
      have HA2:Hid (acc ++ [x]=(b.name :: b.regions) ++ b.locals.map (·.name) ++ ((b.blocks.take (k+1)).filter (fun x=>decide (x.term.kind=3))).map (·.term.name)):=aF (by rw [HTK.out,HA.out];simp [List.filter_append,hk3,hx])
      clear hk3 hx
      have hown2:=HO.out.alloc (.cells #[.string x] 9)
      go_wp2_with (at_builtin;refine wpList_append_own _ rfl _ _ 22 rfl W.heap.size 9 iS (.string { data:= #[] }) 1 16 Tryz.underlying22 iS0 iS1 iS2 iS3 rfl (by decide) _ _ _ rfl hown2 ⟨wr.heap.size,0,none⟩ 1 1 [.string x] rfl rfl (kC _ _) (kB _) (by unfold maxLen;omega) (by omega) (by simp;omega) ?_)
      intro v' w2 hown' hgrow _
      have HO2:Hid (w2.ownsRow W.heap.size 9 1 v' (n+1) ((acc ++ [x]).map Value.string)):=aF (by rw [bS];exact hown')
      have HB2:Hid (Below W.heap.size W w2):=aF ((HB.out.alloc hsz _).grown hgrow (by simp;omega) (fun g hg=>(hown2.lt g hg).1))
      clear hown' hgrow hown2
      go_wp2_with fail
      go_roundw
      case rel=>exact ⟨k+1,n+1,acc ++ [x],by omega,by go_num,by simp;omega,by omega,HA2,HO2,HB2⟩
      case measure=>simp [intOf];omega
     ·have HA2:Hid (acc=(b.name :: b.regions) ++ b.locals.map (·.name) ++ ((b.blocks.take (k+1)).filter (fun x=>decide (x.term.kind=3))).map (·.term.name)):=aF (by rw [HTK.out,HA.out];simp [List.filter_append,hk3])
      have e1:(xx.term.kind == 3)=false:=by simp [hk3]
      clear hk3
      go_wp2_with fail
      go_roundw
      case rel=>exact ⟨k+1,n,acc,by omega,by go_num,hal,by omega,HA2,HO,HB⟩
      case measure=>simp [intOf];omega
    ·have hkl:k=b.blocks.length:=by omega
     have HAF:Hid (acc=allN b):=aF (by rw [HA.out,hkl,bZ];rfl)
     obtain ⟨A',c',hv⟩:=gR HO.out
     subst hv
     obtain ⟨A2,d2,hv,hsl,_⟩:=eW (R:=RN) (enc:=Value.string) (fun w B b o x h=>h) HO.out hal
     injection hv with hv1 _ hv2
     subst hv1 hv2
     have HSL:=aF hsl
     clear hsl
     go_wp2_with fail
     go_ret
     rw [← HAF.out,hal]
     exact ⟨⟨A',c',rfl,HSL.out⟩,keep0 HB.out HBW.out⟩
theorem xJT (b:Bdy) (bh:BH) (w:World) (H:BdAt w b bh) (h1:b.regions.length≤100000) (h2:b.locals.length≤100000) (h3:b.blocks.length≤100000):
 Calls Tryz.prog 18 #[.agg (bdC b bh).toArray] w fun e' w'=>(∃A c,e' = .returned (.slice A (tabB [] (allN b)).length c)∧Slc 1 RN w' A c (tabB [] (allN b)))∧Below w.heap.size w w':=by
 obtain ⟨A1,c1,A2,c2,A3,c3,A4,c4,A5,c5⟩:=bh
 have hall:(allN b).length≤300001:=by
  unfold allN
  simp only [aZ,bJ,cF]
  have:=List.length_filter_le (fun x:Blk=>decide (x.term.kind=3)) b.blocks
  omega
 obtain ⟨W,hW⟩:∃W,w.alloc (.cells #[Value.string b.name,.slice A1 b.regions.length c1,.slice A2 b.outl.length c2,.slice A3 b.types.length c3,.slice A4 b.locals.length c4,.int .i64 b.args,.slice A5 b.blocks.length c5] 28)=W:=⟨_,rfl⟩
 have hb0:Below w.heap.size w W:=by rw [← hW];exact alF _ _
 have HL:Hid (Calls Tryz.prog 64 #[.agg #[Value.string b.name,.slice A1 b.regions.length c1,.slice A2 b.outl.length c2,.slice A3 b.types.length c3,.slice A4 b.locals.length c4,.int .i64 b.args,.slice A5 b.blocks.length c5]] W fun e' w'=>(∃A c,e' = .returned (.slice A (allN b).length c)∧Slc 1 RN w' A c (allN b))∧Below W.heap.size W w'):=aF (xKH b ⟨A1,c1,A2,c2,A3,c3,A4,c4,A5,c5⟩ W (H.keep hb0) h1 h2 h3)
 have HB0:=aF hb0
 have HC0:=aF (by rw [← hW];exact cW w [Value.string b.name,.slice A1 b.regions.length c1,.slice A2 b.outl.length c2,.slice A3 b.types.length c3,.slice A4 b.locals.length c4,.int .i64 b.args,.slice A5 b.blocks.length c5] 28:∀i v,[Value.string b.name,.slice A1 b.regions.length c1,.slice A2 b.outl.length c2,.slice A3 b.types.length c3,.slice A4 b.locals.length c4,.int .i64 b.args,.slice A5 b.blocks.length c5][i]?=some v→W.cell? ⟨w.heap.size,i,none⟩=some v)
 have y0:=HC0.out 0 _ rfl
 have y1:=HC0.out 1 _ rfl
 have y2:=HC0.out 2 _ rfl
 have y3:=HC0.out 3 _ rfl
 have y4:=HC0.out 4 _ rfl
 have y5:=HC0.out 5 _ rfl
 have y6:=HC0.out 6 _ rfl
 generalize allN b=l at *
 clear H hb0 h1 h2 h3
 unfold bdC
 simp only
 change Calls _ _ #[.agg #[Value.string b.name,.slice A1 b.regions.length c1,.slice A2 b.outl.length c2,.slice A3 b.types.length c3,.slice A4 b.locals.length c4,.int .i64 b.args,.slice A5 b.blocks.length c5]] _ _
 go_enter Tryz.func18,Tryz.ntmps18
 go_wp2_with fail
 go_at_call 64
 refine HL.out.mono ?_
 rintro e' w1 ⟨⟨C,d,rfl,hs⟩,hb⟩
 have HS:=aF hs
 have HB1:=aF (keep0 hb HB0.out)
 clear hs hb HL HC0 HB0 y0 y1 y2 y3 y4 y5 y6
 go_wp2_with fail
 go_loopw [3,5] (fun v i wr=>∃(k n:Nat) (B:Option Addr) (c:Nat),k≤l.length∧i = .int .i64 k∧v = .slice B n c∧n=(tabB [] (l.take k)).length∧n≤k∧Hid (Slc 1 RN wr B c (tabB [] (l.take k)))∧Hid (Below w1.heap.size w1 wr)) (fun _ i _=>l.length - (intOf i).toNat)
 case atStart=>exact ⟨0,0,none,0,by omega,rfl,rfl,rfl,by omega,aF ⟨Sl.nil,by simp [tabB],by simp⟩,aF (aV _ _)⟩
 case round=>
  obtain ⟨k,n,B,c,hk,rfl,rfl,hn,hnk,HT,HB⟩:=hrel
  by_cases hlt:k<l.length
  ·obtain ⟨b5,o5,rfl,hb5,y⟩:=(HS.out.keep RN.keeps HB.out).sl.at_ hlt
   have HTK:=aF (gF hlt)
   generalize l[k]=x at *
   have p0:wr.cell? ⟨b5,o5+k,none⟩=some (.string x):=by simpa [RN] using y
   have HINS:=aF (rS (tabB [] (l.take k)) x B c wr HT.out (by omega))
   rw [← hn] at HINS
   have HTS:Hid (tabB [] (l.take (k+1))=insB x (tabB [] (l.take k))):=aF (by rw [HTK.out,pL])
   have hil:=oO x (tabB [] (l.take k))
   rw [← hn] at hil
   clear y hn
   go_wp2_with (go_at_call 65;refine HINS.out.mono ?_;rintro e' w2 ⟨A',c',rfl,hown,hb2⟩;have HO:=aF hown;have HB2:=aF hb2;clear hown hb2)
   go_roundw
   case rel=>
    refine ⟨k+1,_,A',c',by omega,by go_num,rfl,by rw [HTS.out],by omega,aF ?_,aF (keep0 HB2.out HB.out)⟩
    obtain ⟨A2,c2,hv,h1,h2⟩:=eW (R:=RN) (fun w B b o x h=>h) HO.out rfl
    injection hv with hv1 _ hv2
    subst hv1 hv2
    rw [HTS.out]
    exact h1
   case measure=>simp [intOf];omega
  ·have hke:k=l.length:=by omega
   have HN:Hid (n=(tabB [] l).length∧Slc 1 RN wr B c (tabB [] l)):=aF (by
    have h1:=HT.out
    rw [hke,bZ] at h1 hn
    exact ⟨hn,h1⟩)
   clear hn hke
   go_wp2_with fail
   go_ret
   rw [← HN.out.1]
   exact ⟨⟨B,c,rfl,HN.out.2⟩,keep0 HB.out HB1.out⟩
theorem xJX (b:Bdy) (bh:BH) (w:World):
 Calls Tryz.prog 19 #[.agg (bdC b bh).toArray] w fun e' w'=>e' = .returned (.agg (bdC { b with blocks:=[] } { bh with A5:=none,c5:=0 }).toArray)∧Below w.heap.size w w':=by
 obtain ⟨A1,c1,A2,c2,A3,c3,A4,c4,A5,c5⟩:=bh
 change Calls _ _ #[.agg #[.string b.name,.slice A1 b.regions.length c1,.slice A2 b.outl.length c2,.slice A3 b.types.length c3,.slice A4 b.locals.length c4,.int .i64 b.args,.slice A5 b.blocks.length c5]] _ _
 go_enter Tryz.func19,Tryz.ntmps19
 go_wp2_with fail
 obtain ⟨W,hW⟩:∃W,(w.alloc (.cells #[.string b.name,.slice A1 b.regions.length c1,.slice A2 b.outl.length c2,.slice A3 b.types.length c3,.slice A4 b.locals.length c4,.int .i64 b.args,.slice none 0 0] 28)).alloc (.cells #[.string b.name,.slice A1 b.regions.length c1,.slice A2 b.outl.length c2,.slice A3 b.types.length c3,.slice A4 b.locals.length c4,.int .i64 b.args,.slice none 0 0] 28)=W:=⟨_,rfl⟩
 have hk:W.heap[w.heap.size+1]?=some (.cells #[.string b.name,.slice A1 b.regions.length c1,.slice A2 b.outl.length c2,.slice A3 b.types.length c3,.slice A4 b.locals.length c4,.int .i64 b.args,.slice none 0 0] 28 (0,0)):=by
  rw [← hW]
  have:=heap_alloc_new (w.alloc (.cells #[.string b.name,.slice A1 b.regions.length c1,.slice A2 b.outl.length c2,.slice A3 b.types.length c3,.slice A4 b.locals.length c4,.int .i64 b.args,.slice none 0 0] 28)) (.cells #[.string b.name,.slice A1 b.regions.length c1,.slice A2 b.outl.length c2,.slice A3 b.types.length c3,.slice A4 b.locals.length c4,.int .i64 b.args,.slice none 0 0] 28)
  rwa [bH] at this
 have hb:Below w.heap.size w W:=by rw [← hW];exact ((aV _ _).alloc (aW _) _).alloc (by simp) _
 rw [hW]
 obtain ⟨u0,u1,u2,u3,u4,u5,u6,_⟩:=blk7 hk
 exact bodyPost_ret (v:= .agg #[.string b.name,.slice A1 b.regions.length c1,.slice A2 b.outl.length c2,.slice A3 b.types.length c3,.slice A4 b.locals.length c4,.int .i64 b.args,.slice none 0 0]) (by simp [results,Tryz.results19,go_sem,u0,u1,u2,u3,u4,u5,u6] <;> rfl) rfl ⟨rfl,hb⟩
end
section
open Go Go.RowKit
theorem cL {a b:Bool} (ha:a=true) (hb:b=true):(a && b)=true:=by rw [ha,hb];rfl
theorem xJB:(Rows.bindeclRoundTripRow.wf (OpenSpec.ofChange Rows.bindeclRoundTripSpec))=true:=by kernel_rfl
theorem xJA:(laidOutB Tryz.prog)=true:=by kernel_rfl
theorem xIZ:(mapsRowed Tryz.prog)=true:=by kernel_rfl
theorem xIY:(Tryz.f5.params.all (Tryz.prog.readableRec ·))=true:=by kernel_rfl
theorem xIX:(namedTie Tryz.prog Rows.bindeclRoundTripRow.named Rows.bindeclRoundTripSpec.vars)=true:=by kernel_rfl
theorem xIW:((Rows.bindeclRoundTripRow.stops == []))=true:=by kernel_rfl
theorem xIV:((Tryz.prog.stops == []))=true:=by kernel_rfl
theorem xIU:((Rows.bindeclRoundTripRow.knobs == []))=true:=by kernel_rfl
theorem xIT:((Tryz.prog.stopKnobs == []))=true:=by kernel_rfl
theorem xIS:((Rows.bindeclRoundTripRow.inPlace == Tryz.prog.inPlace 5))=true:=by kernel_rfl
theorem xIQ:((Rows.bindeclRoundTripRow.unfollowed == Tryz.prog.unfollowed 5))=true:=by kernel_rfl
theorem xIP:((Rows.bindeclRoundTripRow.recurses == Tryz.prog.recurses 5))=true:=by kernel_rfl
theorem xIO:((Rows.bindeclRoundTripRow.named == Tryz.prog.varsNamed 5))=true:=by kernel_rfl
theorem xIN:((Rows.bindeclRoundTripRow.maps == (Tryz.f5.params.toList ++ Rows.bindeclRoundTripSpec.plain.varTypes Tryz.prog).any (Tryz.prog.mapsRec ·)))=true:=by kernel_rfl
theorem xIM:((Rows.bindeclRoundTripRow.ifaces == (Tryz.f5.params.toList ++ Rows.bindeclRoundTripSpec.plain.varTypes Tryz.prog).any (Tryz.prog.ifacesRec ·)))=true:=by kernel_rfl
theorem xIL:((Rows.bindeclRoundTripRow.mapsOut == Tryz.prog.mapsAmong Tryz.f5.resultTypes.toList))=true:=by kernel_rfl
theorem xIK:((Rows.bindeclRoundTripRow.loops == (Tryz.f5.params.toList ++ Rows.bindeclRoundTripSpec.plain.varTypes Tryz.prog).any (Tryz.prog.loopsFrom ·)))=true:=by kernel_rfl
theorem xIJ:((Rows.bindeclRoundTripRow.wideKeys == (Tryz.f5.params.toList ++ Rows.bindeclRoundTripSpec.plain.varTypes Tryz.prog ++ Tryz.f5.resultTypes.toList).any (Tryz.prog.wideKeysFrom ·)))=true:=by kernel_rfl
theorem xII:(Rows.bindeclRoundTripSpec.vars.all (Tryz.prog.varReadable ·))=true:=by kernel_rfl
theorem xIH:(Tryz.f5.resultTypes.all (fun t=>Tryz.prog.readableRec t && decide (t<Tryz.prog.types.size)))=true:=by kernel_rfl
theorem xIG:((Rows.bindeclRoundTripRow.ifacesOut == Tryz.f5.resultTypes.toList.any (Tryz.prog.ifacesRec ·)))=true:=by kernel_rfl
theorem xIF:((Rows.bindeclRoundTripRow.loopsOut == Tryz.f5.resultTypes.toList.any (Tryz.prog.loopsFrom ·)))=true:=by kernel_rfl
theorem xIE:((Rows.bindeclRoundTripRow.plainKeys == Tryz.prog.plainKeys))=true:=by kernel_rfl
theorem xID:(Rows.bindeclRoundTripRow.shortTexts.isNone)=true:=by kernel_rfl
theorem xIC:(Tryz.prog.stopsHeard)=true:=by kernel_rfl
theorem xIB:(Tryz.prog.mayEnter)=true:=by kernel_rfl
theorem xIA:((Rows.bindeclRoundTripRow.lifted == Tryz.prog.liftsFinal))=true:=by kernel_rfl
theorem xHZ:((Tryz.prog.make == some Rows.bindeclRoundTripRow.make))=true:=by kernel_rfl
theorem xHY:((Rows.bindeclRoundTripRow.kinds == (if Rows.bindeclRoundTripRow.domain.isEmpty then [] else Tryz.f5.params.toList.map fun t=>match Tryz.prog.underlying t with | some (.int k)=>some k | _=>none)))=true:=by kernel_rfl
theorem xHX:((Rows.bindeclRoundTripRow.pinned == Rows.bindeclRoundTripRow.pinnedBy))=true:=by kernel_rfl
theorem xHW:((Rows.bindeclRoundTripRow.veiled == (Tryz.f5.params.toList ++ Rows.bindeclRoundTripSpec.plain.varTypes Tryz.prog ++ Tryz.f5.resultTypes.toList).any (Tryz.prog.veiledRec ·)))=true:=by kernel_rfl
theorem xHV:(Rows.bindeclRoundTripRow.veiledFits Tryz.prog Tryz.f5.params.toList (Tryz.f5.params.toList ++ Rows.bindeclRoundTripSpec.plain.varTypes Tryz.prog ++ Tryz.f5.resultTypes.toList))=true:=by kernel_rfl
theorem xHS:joinedFacts Tryz.prog 5 Tryz.f5 Rows.bindeclRoundTripSpec Rows.bindeclRoundTripRow=true:=(cL (cL (cL (cL (cL (cL (cL (cL (cL (cL (cL (cL (cL (cL (cL (cL (cL (cL (cL (cL (cL (cL (cL (cL (cL (cL (cL (cL (cL (cL (cL xJB xJA) xIZ) xIY) xIX) xIW) xIV) xIU) xIT) xIS) xIQ) xIP) xIO) xIN) xIM) xIL) xIK) xIJ) xII) xIH) xIG) xIF) xIE) xID) xIC) xIB) xIA) xHZ) xHY) xHX) xHW) xHV)
end
end Go.Proofs.YtbnljlpefpllcaaGreatDoor
