/-
  BindeclPrefixes: a statement of Bindecl (part 2)
-/
import Derived.Test.YtbnljlpefpllcaaGreatDoorNP1
import Derived.Lib.Hide
import Derived.Below
import Derived.WalkSmall
import Derived.Laws.World
import Derived.Test.YtbnljlpefpllcaaGreatDoorProg
import Derived.WalkKit
import Derived.WalkSpells
import Derived.WalkLawsBesides
import Derived.Deep.RegionHeld3
import Derived.Deep.DeepFit
import Derived.Deep.QuietTactic
import Derived.BigQuiet
import Derived.OwnWalk
import Derived.Maps.AppendAt
import Derived.Deep.DeepCutAuto
import Derived.StillTailTactics
import Derived.RangeFuncNested
import Derived.RangeFuncBound
import Derived.RangeFuncCalls
import Derived.RangeFuncLeaves
import Derived.OwnWalkIn
import Derived.TacticsInMore
import Derived.LoopNIn
import Derived.LoopIn
import Derived.Laws.Bits64b
import Derived.Shelf.Abstract
import Derived.OrdersHeld
import Derived.Deep.RegionHeld
import Derived.Lib.SliceRun
import Derived.Test.YtbnljlpefpllcaaGreatDoorSg
import Derived.Deep.AppendSrc
import Derived.Maps.OwnSet
import Derived.Maps.OwnOps
import Derived.StringKeys
import Derived.Laws.MathBits
import Derived.Test.YtbnljlpefpllcaaGreatDoorSh
import Derived.Deep.LoopGhost
import Derived.Deep.MidRow
import Derived.Lib.SlicesCompact
import Derived.WideKeyPair
import Derived.WideKeyArr
import Derived.Sort.Walk0
import Derived.Sort.OwnSorted
import Derived.Test.YtbnljlpefpllcaaGreatDoorRows
import Derived.ProofKit
import Derived.Deep.Slices
import Derived.Deep.Fields
import Derived.Lib.SmallJoins
import Derived.OpenShut
import Derived.LaidMore
import Derived.Stop.Joined
import Derived.Stop.LaidErr
import Derived.Lay
import Derived.SevenTiedAt
import Derived.ChangeKeysEq
import Derived.JoinedOf
import Derived.Test.YtbnljlpefpllcaaGreatDoorTie
import Derived.Test.YtbnljlpefpllcaaGreatDoorCards
import Derived.SizedLaws
namespace Go.Proofs.YtbnljlpefpllcaaGreatDoor
set_option maxRecDepth 100000
set_option maxHeartbeats 16000000
section
open Go Go.RowKit
theorem xKV (b:Bdy) (bh:BH) (w:World) (H:BdAt w b bh) (h1:b.regions.length≤100000) (h2:b.locals.length≤100000) (h3:b.blocks.length≤100000):
 Calls Tryz.prog 64 #[.agg (bdC b bh).toArray] w fun e' w'=>(∃A c,e' = .returned (.slice A (allN b).length c)∧Slc 1 RN w' A c (allN b))∧Below w.heap.size w w':=by
 obtain ⟨A1,c1,A2,c2,A3,c3,A4,c4,A5,c5⟩:=bh
 obtain ⟨iS,iS0,iS1,iS2,iS3⟩:=info_parts oP
 have HH:=aF H
 obtain ⟨hr,r1,r2⟩:=H.reg
 have l1:=H.loc.le
 have l2:=H.loc.big
 have b1:=H.blk.le
 have b2:=H.blk.big
 simp only at hr r1 r2 l1 l2 b1 b2
 have hA1:A1=none→b.regions.length=0:=fun h=>by
  rcases Nat.eq_zero_or_pos b.regions.length with h0 | h0
  ·exact h0
  ·obtain ⟨b0,o0,e,_⟩:=hr h0
   rw [h] at e;cases e
 have hcl:∀W,Below w.heap.size w W→∀ad,A1=some ad→∀j u,(b.regions.map Value.string)[j]?=some u→W.cell? (ad.add j)=some u:=fun W hb ad had j u hj=>by
  have hjl:j<b.regions.length:=by
   have:=(List.getElem?_eq_some_iff.1 hj).1
   simpa using this
  obtain ⟨b0,o0,e,hb0,hx⟩:=hr (by omega)
  rw [had] at e
  cases e
  rw [xHQ]
  have:=hx j _ (bB hjl)
  rw [Nat.mul_one] at this
  rw [cO,bB hjl] at hj
  cases hj
  exact cell_keep hb this
 have HA1:=aF hA1
 have HCL:=aF hcl
 clear H hr hA1 hcl
 unfold bdC
 simp only
 change Calls _ _ #[.agg #[Value.string b.name,.slice A1 b.regions.length c1,.slice A2 b.outl.length c2,.slice A3 b.types.length c3,.slice A4 b.locals.length c4,.int .i64 b.args,.slice A5 b.blocks.length c5]] _ _
 obtain ⟨W,hW⟩:∃W,w.alloc (.cells #[Value.string b.name,.slice A1 b.regions.length c1,.slice A2 b.outl.length c2,.slice A3 b.types.length c3,.slice A4 b.locals.length c4,.int .i64 b.args,.slice A5 b.blocks.length c5] 28)=W:=⟨_,rfl⟩
 have hWs:w.heap.size<W.heap.size:=by rw [← hW];simp
 have HCW:Hid (aA (bdM b A1 c1 A2 c2 A3 c3 A4 c4 A5 c5 []) W w.heap.size):=aF (by rw [← hW];exact cW w [Value.string b.name,.slice A1 b.regions.length c1,.slice A2 b.outl.length c2,.slice A3 b.types.length c3,.slice A4 b.locals.length c4,.int .i64 b.args,.slice A5 b.blocks.length c5] 28)
 have HBW:Hid (Below w.heap.size w W):=aF (by rw [← hW];exact alF _ _)
 have y0:=HCW.out 0 _ rfl
 have y1:=HCW.out 1 _ rfl
 have hown0:=sF W (.string b.name) 9 W.heap.size (aW _)
 have HBW2:=aF (HBW.out.alloc (Nat.le_of_lt hWs) (.cells #[.string b.name] 9))
 go_enter Tryz.func64,Tryz.ntmps64
 go_wp2_with (at_builtin;refine fX _ rfl _ _ 22 rfl W.heap.size 9 iS (.string { data:= #[] }) 1 16 Tryz.underlying22 iS0 iS1 iS2 iS3 rfl (by decide) _ _ _ rfl hown0 (by omega) A1 b.regions.length c1 (b.regions.map Value.string) rfl HA1.out (by simp) (HCL.out _ HBW2.out) (fun u hu=>by obtain ⟨s,_,rfl⟩:=List.mem_map.1 hu;rfl) (by unfold maxLen;omega) (by omega) (by simp) ?_;intro v1 w1 hown1 hgrow1)
 have HO1:Hid (w1.ownsRow W.heap.size 9 1 v1 ((b.name :: b.regions) ++ (b.locals.take 0).map (·.name)).length (((b.name :: b.regions) ++ (b.locals.take 0).map (·.name)).map Value.string)):=aF (by
  simp only [List.take_zero,cM,List.append_nil,bJ,cK]
  rw [Nat.add_comm]
  exact hown1)
 have HB1:Hid (Below W.heap.size W w1):=aF ((alF W _).grown hgrow1 (by simp) (fun g hg=>(hown0.lt g hg).1))
 clear hown1 hgrow1 hown0 y0 y1
 go_wp2_with fail
 go_loopw [3,4] (fun v i wr=>∃(k:Nat) (acc:List ByteArray),k≤b.locals.length∧i = .int .i64 k∧acc.length=1+b.regions.length+k∧Hid (acc=(b.name :: b.regions) ++ (b.locals.take k).map (·.name))∧Hid (wr.ownsRow W.heap.size 9 1 v acc.length (acc.map Value.string))∧Hid (Below W.heap.size W wr)) (fun _ i _=>b.locals.length - (intOf i).toNat)
 case atStart=>exact ⟨0,_,by omega,rfl,by simp;omega,aF rfl,HO1,HB1⟩
 case round=>
  clear HO1 HB1
  obtain ⟨k,acc,hk,rfl,hal,HA,HO,HB⟩:=hrel
  have hsz:=HB.out.size
  have HCC:=aF (cells_kept HCW.out HB.out)
  obtain ⟨y0,y1,y2,y3,y4,y5,y6⟩:=aQ HCC.out
  by_cases hlt:k<b.locals.length
  ·obtain ⟨b5,o5,rfl,hb5,y⟩:=HH.out.loc.sl.at_ hlt
   have HTK:=aF (gF hlt)
   obtain ⟨p0,p1⟩:=RLc.keeps _ _ _ w.heap.size _ _ _ (aW _) hb5 (keep0 HB.out HBW.out) y
   generalize b.locals[k]=xx at *
   obtain ⟨x,xt⟩:=xx
   simp only at p0 p1
   have HA2:Hid (acc ++ [x]=(b.name :: b.regions) ++ (b.locals.take (k+1)).map (·.name)):=aF (by rw [HTK.out,HA.out];simp)
   clear y
   have hown2:=HO.out.alloc (.cells #[.string x] 9)
   go_wp2_with (at_builtin;refine wpList_append_own _ rfl _ _ 22 rfl W.heap.size 9 iS (.string { data:= #[] }) 1 16 Tryz.underlying22 iS0 iS1 iS2 iS3 rfl (by decide) _ _ _ rfl hown2 ⟨wr.heap.size,0,none⟩ 1 1 [.string x] rfl rfl (kC _ _) (kB _) (by unfold maxLen;omega) (by omega) (by simp;omega) ?_)
   intro v' w2 hown' hgrow _
   have HO2:Hid (w2.ownsRow W.heap.size 9 1 v' (acc ++ [x]).length ((acc ++ [x]).map Value.string)):=aF (by rw [bS,aZ,hal];exact hown')
   have HB2:Hid (Below W.heap.size W w2):=aF ((HB.out.alloc hsz _).grown hgrow (by simp;omega) (fun g hg=>(hown2.lt g hg).1))
   clear hown' hgrow hown2
   go_wp2_with fail
   go_roundw
   case rel=>exact ⟨k+1,acc ++ [x],by omega,by go_num,by simp;omega,HA2,HO2,HB2⟩
   case measure=>simp [intOf];omega
  ·have hkl:k=b.locals.length:=by omega
   have HA2:Hid (acc=(b.name :: b.regions) ++ b.locals.map (·.name) ++ ((b.blocks.take 0).filter (fun x=>decide (x.term.kind=3))).map (·.term.name)):=aF (by rw [HA.out,hkl,bZ];simp)
   clear HA hlt hk
   subst hkl
   go_wp2_with fail
   clear y0 y1 y2 y3 y4 y5 y6
   go_loopw [3,5] (fun v i wr=>∃(k n:Nat) (acc:List ByteArray),k≤b.blocks.length∧i = .int .i64 k∧acc.length=n∧n≤1+b.regions.length+b.locals.length+k∧Hid (acc=(b.name :: b.regions) ++ b.locals.map (·.name) ++ ((b.blocks.take k).filter (fun x=>decide (x.term.kind=3))).map (·.term.name))∧Hid (wr.ownsRow W.heap.size 9 1 v n (acc.map Value.string))∧Hid (Below W.heap.size W wr)) (fun _ i _=>b.blocks.length - (intOf i).toNat)
   case atStart=>exact ⟨0,_,acc,by omega,rfl,rfl,by omega,HA2,HO,HB⟩
   case round=>
    clear HO HB HCC HA2 hal
    obtain ⟨k,n,acc,hk,rfl,hal,hn,HA,HO,HB⟩:=hrel
    have hsz:=HB.out.size
    have HCC:=aF (cells_kept HCW.out HB.out)
    obtain ⟨y0,y1,y2,y3,y4,y5,y6⟩:=aQ HCC.out
    by_cases hlt:k<b.blocks.length
    ·obtain ⟨b5,o5,rfl,hb5,y⟩:=HH.out.blk.sl.at_ hlt
     have HTK:=aF (gF hlt)
     generalize b.blocks[k]=xx at *
     obtain ⟨B1,d1,B2,d2,B3,d3,B4,d4,p0,p1,p2,p3,p4,p5,p6,_,_,_,_⟩:=sX y
     have hbk:=keep0 HB.out HBW.out
     replace p1:=cell_keep hbk p1
     replace p6:=cell_keep hbk p6
     obtain ⟨x,hx⟩:∃x,xx.term.name=x:=⟨_,rfl⟩
     rw [hx] at p6
     clear y p0 p2 p3 p4 p5 hbk
     by_cases hk3:xx.term.kind=3
     ·rw [hk3] at p1
      have HA2:Hid (acc ++ [x]=(b.name :: b.regions) ++ b.locals.map (·.name) ++ ((b.blocks.take (k+1)).filter (fun x=>decide (x.term.kind=3))).map (·.term.name)):=aF (by rw [HTK.out,HA.out];simp [List.filter_append,hk3,hx])
      clear hk3 hx
      have hown2:=HO.out.alloc (.cells #[.string x] 9)
      go_wp2_with (at_builtin;refine wpList_append_own _ rfl _ _ 22 rfl W.heap.size 9 iS (.string { data:= #[] }) 1 16 Tryz.underlying22 iS0 iS1 iS2 iS3 rfl (by decide) _ _ _ rfl hown2 ⟨wr.heap.size,0,none⟩ 1 1 [.string x] rfl rfl (kC _ _) (kB _) (by unfold maxLen;omega) (by omega) (by simp;omega) ?_)
      intro v' w2 hown' hgrow _
      have HO2:Hid (w2.ownsRow W.heap.size 9 1 v' (n+1) ((acc ++ [x]).map Value.string)):=aF (by rw [bS];exact hown')
      have HB2:Hid (Below W.heap.size W w2):=aF ((HB.out.alloc hsz _).grown hgrow (by simp;omega) (fun g hg=>(hown2.lt g hg).1))
      clear hown' hgrow hown2
      go_wp2_with fail
      go_roundw
      case rel=>exact ⟨k+1,n+1,acc ++ [x],by omega,by go_num,by simp;omega,by omega,HA2,HO2,HB2⟩
      case measure=>simp [intOf];omega
     ·have HA2:Hid (acc=(b.name :: b.regions) ++ b.locals.map (·.name) ++ ((b.blocks.take (k+1)).filter (fun x=>decide (x.term.kind=3))).map (·.term.name)):=aF (by rw [HTK.out,HA.out];simp [List.filter_append,hk3])
      have e1:(xx.term.kind == 3)=false:=by simp [hk3]
      clear hk3
      go_wp2_with fail
      go_roundw
      case rel=>exact ⟨k+1,n,acc,by omega,by go_num,hal,by omega,HA2,HO,HB⟩
      case measure=>simp [intOf];omega
    ·have hkl:k=b.blocks.length:=by omega
     have HAF:Hid (acc=allN b):=aF (by rw [HA.out,hkl,bZ];rfl)
     obtain ⟨A',c',hv⟩:=gR HO.out
     subst hv
     obtain ⟨A2,d2,hv,hsl,_⟩:=eW (R:=RN) (enc:=Value.string) (fun w B b o x h=>h) HO.out hal
     injection hv with hv1 _ hv2
     subst hv1 hv2
     have HSL:=aF hsl
     clear hsl
     go_wp2_with fail
     go_ret
     rw [← HAF.out,hal]
     exact ⟨⟨A',c',rfl,HSL.out⟩,keep0 HB.out HBW.out⟩
theorem xKF (b:Bdy) (bh:BH) (w:World) (H:BdAt w b bh) (h1:b.regions.length≤100000) (h2:b.locals.length≤100000) (h3:b.blocks.length≤100000):
 Calls Tryz.prog 18 #[.agg (bdC b bh).toArray] w fun e' w'=>(∃A c,e' = .returned (.slice A (tabB [] (allN b)).length c)∧Slc 1 RN w' A c (tabB [] (allN b)))∧Below w.heap.size w w':=by
 obtain ⟨A1,c1,A2,c2,A3,c3,A4,c4,A5,c5⟩:=bh
 have hall:(allN b).length≤300001:=by
  unfold allN
  simp only [aZ,bJ,cF]
  have:=List.length_filter_le (fun x:Blk=>decide (x.term.kind=3)) b.blocks
  omega
 obtain ⟨W,hW⟩:∃W,w.alloc (.cells #[Value.string b.name,.slice A1 b.regions.length c1,.slice A2 b.outl.length c2,.slice A3 b.types.length c3,.slice A4 b.locals.length c4,.int .i64 b.args,.slice A5 b.blocks.length c5] 28)=W:=⟨_,rfl⟩
 have hb0:Below w.heap.size w W:=by rw [← hW];exact alF _ _
 have HL:Hid (Calls Tryz.prog 64 #[.agg #[Value.string b.name,.slice A1 b.regions.length c1,.slice A2 b.outl.length c2,.slice A3 b.types.length c3,.slice A4 b.locals.length c4,.int .i64 b.args,.slice A5 b.blocks.length c5]] W fun e' w'=>(∃A c,e' = .returned (.slice A (allN b).length c)∧Slc 1 RN w' A c (allN b))∧Below W.heap.size W w'):=aF (xKV b ⟨A1,c1,A2,c2,A3,c3,A4,c4,A5,c5⟩ W (H.keep hb0) h1 h2 h3)
 have HB0:=aF hb0
 have HC0:=aF (by rw [← hW];exact cW w [Value.string b.name,.slice A1 b.regions.length c1,.slice A2 b.outl.length c2,.slice A3 b.types.length c3,.slice A4 b.locals.length c4,.int .i64 b.args,.slice A5 b.blocks.length c5] 28:∀i v,[Value.string b.name,.slice A1 b.regions.length c1,.slice A2 b.outl.length c2,.slice A3 b.types.length c3,.slice A4 b.locals.length c4,.int .i64 b.args,.slice A5 b.blocks.length c5][i]?=some v→W.cell? ⟨w.heap.size,i,none⟩=some v)
 have y0:=HC0.out 0 _ rfl
 have y1:=HC0.out 1 _ rfl
 have y2:=HC0.out 2 _ rfl
 have y3:=HC0.out 3 _ rfl
 have y4:=HC0.out 4 _ rfl
 have y5:=HC0.out 5 _ rfl
 have y6:=HC0.out 6 _ rfl
 generalize allN b=l at *
 clear H hb0 h1 h2 h3
 unfold bdC
 simp only
 change Calls _ _ #[.agg #[Value.string b.name,.slice A1 b.regions.length c1,.slice A2 b.outl.length c2,.slice A3 b.types.length c3,.slice A4 b.locals.length c4,.int .i64 b.args,.slice A5 b.blocks.length c5]] _ _
 go_enter Tryz.func18,Tryz.ntmps18
 go_wp2_with fail
 go_at_call 64
 refine HL.out.mono ?_
 rintro e' w1 ⟨⟨C,d,rfl,hs⟩,hb⟩
 have HS:=aF hs
 have HB1:=aF (keep0 hb HB0.out)
 clear hs hb HL HC0 HB0 y0 y1 y2 y3 y4 y5 y6
 go_wp2_with fail
 go_loopw [3,5] (fun v i wr=>∃(k n:Nat) (B:Option Addr) (c:Nat),k≤l.length∧i = .int .i64 k∧v = .slice B n c∧n=(tabB [] (l.take k)).length∧n≤k∧Hid (Slc 1 RN wr B c (tabB [] (l.take k)))∧Hid (Below w1.heap.size w1 wr)) (fun _ i _=>l.length - (intOf i).toNat)
 case atStart=>exact ⟨0,0,none,0,by omega,rfl,rfl,rfl,by omega,aF ⟨Sl.nil,by simp [tabB],by simp⟩,aF (aV _ _)⟩
 case round=>
  obtain ⟨k,n,B,c,hk,rfl,rfl,hn,hnk,HT,HB⟩:=hrel
  by_cases hlt:k<l.length
  ·obtain ⟨b5,o5,rfl,hb5,y⟩:=(HS.out.keep RN.keeps HB.out).sl.at_ hlt
   have HTK:=aF (gF hlt)
   generalize l[k]=x at *
   have p0:wr.cell? ⟨b5,o5+k,none⟩=some (.string x):=by simpa [RN] using y
   have HINS:=aF (rS (tabB [] (l.take k)) x B c wr HT.out (by omega))
   rw [← hn] at HINS
   have HTS:Hid (tabB [] (l.take (k+1))=insB x (tabB [] (l.take k))):=aF (by rw [HTK.out,pL])
   have hil:=oO x (tabB [] (l.take k))
   rw [← hn] at hil
   clear y hn
   go_wp2_with (go_at_call 65;refine HINS.out.mono ?_;rintro e' w2 ⟨A',c',rfl,hown,hb2⟩;have HO:=aF hown;have HB2:=aF hb2;clear hown hb2)
   go_roundw
   case rel=>
    refine ⟨k+1,_,A',c',by omega,by go_num,rfl,by rw [HTS.out],by omega,aF ?_,aF (keep0 HB2.out HB.out)⟩
    obtain ⟨A2,c2,hv,h1,h2⟩:=eW (R:=RN) (fun w B b o x h=>h) HO.out rfl
    injection hv with hv1 _ hv2
    subst hv1 hv2
    rw [HTS.out]
    exact h1
   case measure=>simp [intOf];omega
  ·have hke:k=l.length:=by omega
   have HN:Hid (n=(tabB [] l).length∧Slc 1 RN wr B c (tabB [] l)):=aF (by
    have h1:=HT.out
    rw [hke,bZ] at h1 hn
    exact ⟨hn,h1⟩)
   clear hn hke
   go_wp2_with fail
   go_ret
   rw [← HN.out.1]
   exact ⟨⟨B,c,rfl,HN.out.2⟩,keep0 HB.out HB1.out⟩
end
section
open Go Go.RowKit
def Lit2 (b:Bdy) (er:Int) (w:World) (e':Ending) (w':World):Prop:=
 ∃A1 a1 A2 a2 A3 a3 A4 a4 A5 a5,e' = .returned (.tuple #[.agg #[.string b.name,.slice A1 b.regions.length a1,.slice A2 b.outl.length a2,.slice A3 b.types.length a3,.slice A4 b.locals.length a4,.int .i64 b.args,.slice A5 b.blocks.length a5],.int .i64 er])∧BdAt w' b ⟨A1,a1,A2,a2,A3,a3,A4,a4,A5,a5⟩∧Below w.heap.size w w'
theorem Lit2.of {b:Bdy} {er:Int} {w:World} (e':Ending) (w':World) (h:∃bh,e' = .returned (.tuple #[.agg (bdC b bh).toArray,.int .i64 er])∧BdAt w' b bh∧Below w.heap.size w w'):Lit2 b er w e' w':=by
 obtain ⟨⟨A1,a1,A2,a2,A3,a3,A4,a4,A5,a5⟩,h1,h2,h3⟩:=h
 exact ⟨A1,a1,A2,a2,A3,a3,A4,a4,A5,a5,h1,h2,h3⟩
theorem xJP:∀{l m:List ByteArray},l.Pairwise (fun a b=>bl a<bl b)→m.Pairwise (fun a b=>bl a<bl b)→(∀x,x∈l↔x∈m)→l=m
 | [],[],_,_,_=>rfl
 | [],y :: m,_,_,h=>by have:=(h y).2 (by simp);cases this
 | x :: l,[],_,_,h=>by have:=(h x).1 (by simp);cases this
 | x :: l,y :: m,h1,h2,h=>by
   rw [List.pairwise_cons] at h1 h2
   have hxy:x=y:=by
    have a1:=(h x).1 (by simp)
    have a2:=(h y).2 (by simp)
    rcases List.mem_cons.1 a1 with e | e
    ·exact e
    ·rcases List.mem_cons.1 a2 with e2 | e2
     ·exact e2.symm
     ·exact absurd (lt_trans' (h1.1 y e2) (h2.1 x e)) (iD _)
   subst hxy
   rw [xJP h1.2 h2.2 (fun z=>⟨fun hz=>by
    rcases List.mem_cons.1 ((h z).1 (by simp [hz])) with e | e
    ·subst e;exact absurd (h1.1 z hz) (iD _)
    ·exact e,fun hz=>by
    rcases List.mem_cons.1 ((h z).2 (by simp [hz])) with e | e
    ·subst e;exact absurd (h2.1 z hz) (iD _)
    ·exact e⟩)]
theorem xKL (l:List ByteArray):tabB [] (tabB [] l)=tabB [] l:=
 xJP (kP _) (kP _) (fun x=>xJC _ _)
theorem xKI {t:List ByteArray} {b:Bdy} (h:namesZ b≤3000):(declW t b).length≤900000:=by
 unfold namesZ at h
 have c1:=gX b.regions
 have c2:=gX (b.locals.map (·.name))
 rw [cF] at c2
 have g1:=dW (idxN b.name 0 t)
 have g2:=fS (f:=nameW t) (k:=11) (l:=b.regions) (fun s _=>dW _)
 have g3:=fS (f:=pairW) (k:=22) (l:=b.outl) (fun p _=>by have h1:=dW p.1;have h2:=dW p.2;unfold pairW;rw [aZ];omega)
 have g4:(listW typeW b.types).length≤11+34 * 3000:=by
  unfold listW
  have h1:=oH b.types.length
  have h2:=kK (l:=b.types) (by omega)
  rw [aZ]
  omega
 have g5:=fS (f:=localW t) (k:=22) (l:=b.locals) (fun x _=>by have h1:=dW (idxN x.name 0 t);have h2:=dW x.type;unfold localW nameW;rw [aZ];omega)
 have g6:=dW b.args
 have e:declW t b=putI (idxN b.name 0 t) ++ (listW (nameW t) b.regions ++ (listW pairW b.outl ++ (listW typeW b.types ++ (listW (localW t) b.locals ++ putI b.args)))):=rfl
 rw [e]
 simp only [aZ]
 omega
theorem xKP (t:List ByteArray) (b:Bdy):0<(declW t b).length:=by
 have e:declW t b=putI (idxN b.name 0 t) ++ (listW (nameW t) b.regions ++ (listW pairW b.outl ++ (listW typeW b.types ++ (listW (localW t) b.locals ++ putI b.args)))):=rfl
 have h:0<(putI (idxN b.name 0 t)).length:=tP 10 _
 rw [e,aZ]
 omega
theorem xKN (w:World) (e:TypeId) (base:Nat) (hb:base≤w.heap.size):(w.alloc (.cells #[] e)).ownsRow base e 1 (.slice (some ⟨w.heap.size,0,none⟩) 0 0) 0 []:=
 ⟨rfl,.inr ⟨w.heap.size,0,#[],rfl,hb,heap_alloc_new w _,aW _,by decide,rfl,rfl⟩⟩
def NoRes (er:Int) (w:World) (e':Ending) (w':World):Prop:=
 ∃E1 e1 E2 e2 E3 e3 E4 e4 E5 e5,e' = .returned (.tuple #[.agg #[.string ⟨#[]⟩,.slice E1 0 e1,.slice E2 0 e2,.slice E3 0 e3,.slice E4 0 e4,.int .i64 0,.slice E5 0 e5],.int .i64 er])∧Below w.heap.size w w'
theorem NoRes.of {er:Int} {w:World} (e':Ending) (w':World) (h:∃bh,e' = .returned (.tuple #[.agg (bdC jZ bh).toArray,.int .i64 er])∧BdAt w' jZ bh∧Below w.heap.size w w'):NoRes er w e' w':=by
 obtain ⟨⟨A1,a1,A2,a2,A3,a3,A4,a4,A5,a5⟩,h1,_,h3⟩:=h
 exact ⟨A1,a1,A2,a2,A3,a3,A4,a4,A5,a5,h1,h3⟩
theorem xKO (b:Bdy) (bh:BH) (c:UInt8) (w:World) (hT:TabsOk w) (H:BdAt w b bh) (hz:NmOk b):
 Calls Tryz.prog 7 #[.agg (bdC b bh).toArray,.int .u8 c.toNat] w (fun e' w'=>e' = .returned (.bool true)∧Below w.heap.size w w'):=by
 obtain ⟨i0,hi,hz0,hz1,hz2⟩:=info_parts lM
 obtain ⟨A1,c1,A2,c2,A3,c3,A4,c4,A5,c5⟩:=bh
 obtain ⟨W,hW⟩:∃W,w.alloc (.cells #[Value.string b.name,.slice A1 b.regions.length c1,.slice A2 b.outl.length c2,.slice A3 b.types.length c3,.slice A4 b.locals.length c4,.int .i64 b.args,.slice A5 b.blocks.length c5] 28)=W:=⟨_,rfl⟩
 have hbw:Below w.heap.size w W:=by rw [← hW];exact alF _ _
 have hlW:w.heap.size<W.heap.size:=by rw [← hW];simp
 have HCC:Hid (aA (bdM b A1 c1 A2 c2 A3 c3 A4 c4 A5 c5 []) W w.heap.size):=aF (by rw [← hW];exact cW w [Value.string b.name,.slice A1 b.regions.length c1,.slice A2 b.outl.length c2,.slice A3 b.types.length c3,.slice A4 b.locals.length c4,.int .i64 b.args,.slice A5 b.blocks.length c5] 28)
 have HB:=aF hbw
 have HT:=aF (fun W' hb=>hT.keep (w':=W') hb)
 have HZ:=aF hz
 have HH:=aF H
 have HL:=aF (fun W' hb=>xAS W' (hT.keep hb))
 have HS:Hid (∀W',Below w.heap.size w W'→Calls Tryz.prog 9 #[.agg #[Value.string b.name,.slice A1 b.regions.length c1,.slice A2 b.outl.length c2,.slice A3 b.types.length c3,.slice A4 b.locals.length c4,.int .i64 b.args,.slice A5 b.blocks.length c5]] W' fun e' w'=>(∃q:Int,e' = .returned (.int .i64 q)∧(q≤0→NotSkip b))∧Below W'.heap.size W' w'):=aF (fun W' hb=>xBV b ⟨A1,c1,A2,c2,A3,c3,A4,c4,A5,c5⟩ W' (H.keep hb) hz)
 have HK:Hid (∀W',Below w.heap.size w W'→Calls Tryz.prog 17 #[.agg #[Value.string b.name,.slice A1 b.regions.length c1,.slice A2 b.outl.length c2,.slice A3 b.types.length c3,.slice A4 b.locals.length c4,.int .i64 b.args,.slice A5 b.blocks.length c5]] W' fun e' w'=>e' = .returned (.int .i64 (chkB b))∧Below W'.heap.size W' w'):=aF (fun W' hb=>rY b ⟨A1,c1,A2,c2,A3,c3,A4,c4,A5,c5⟩ W' (H.keep hb) hz)
 clear hT H hz hbw
 unfold bdC
 simp only
 obtain ⟨y0,y1,y2,y3,y4,y5,y6⟩:=aQ HCC.out
 change Calls _ _ #[.agg #[Value.string b.name,.slice A1 b.regions.length c1,.slice A2 b.outl.length c2,.slice A3 b.types.length c3,.slice A4 b.locals.length c4,.int .i64 b.args,.slice A5 b.blocks.length c5],_] _ _
 go_enter Tryz.func7,Tryz.ntmps7
 go_wp2_with fail
 go_at_call 9
 refine (HS.out W HB.out).mono ?_
 rintro e' w1 ⟨⟨q,rfl,hq⟩,hb1⟩
 replace HCC:=aF (cells_kept HCC.out hb1)
 replace HB:=aF (keep0 hb1 HB.out)
 have hlw:w.heap.size<w1.heap.size:=bN hlW hb1.size
 have HQ:=aF hq
 clear hb1 HS hq
 clear y0 y1 y2 y3 y4 y5 y6
 by_cases hq0:0<q
 ·go_wp2_with fail
  go_at_call 10
  refine (HL.out w1 HB.out).mono ?_
  rintro e' w3 ⟨rfl,hb3⟩
  have HB3:=aF (keep0 hb3 HB.out)
  clear hb3
  go_wp2_with fail
  go_ret
  exact ⟨rfl,HB3.out⟩
 have hq1:q≤0:=by omega
 have HNS:=aF (HQ.out hq1)
 clear HQ
 obtain ⟨y0,y1,y2,y3,y4,y5,y6⟩:=aQ HCC.out
 go_wp2_with fail
 go_at_call 17
 refine (HK.out w1 HB.out).mono ?_
 rintro e' w2 ⟨rfl,hb2⟩
 replace HCC:=aF (cells_kept HCC.out hb2)
 replace HB:=aF (keep0 hb2 HB.out)
 have hlw2:w.heap.size<w2.heap.size:=bN hlw hb2.size
 clear hb2 HK
 clear y0 y1 y2 y3 y4 y5 y6
 by_cases hc:chkB b=0
 case neg=>
  generalize chkB b=ch at *
  have e1:(ch != 0)=true:=by simp [hc]
  clear hc
  go_wp2_with fail
  go_at_call 10
  refine (HL.out w2 HB.out).mono ?_
  rintro e' w3 ⟨rfl,hb3⟩
  have HB3:=aF (keep0 hb3 HB.out)
  clear hb3
  go_wp2_with fail
  go_ret
  exact ⟨rfl,HB3.out⟩
 have hnz:=HNS.out.nm (rA hc)
 have HDC:=aF (iB hc)
 have HCH:=aF hc
 have HLEN:Hid (∀t,(declW t b).length≤900000):=aF (fun t=>xKI hnz)
 have HSUM:Hid (sumN (tabB [] (allN b))≤8000):=aF (xKU hnz)
 have HIDN:Hid (∀s∈tabB [] (allN b),isIdent s=true):=aF (xJV hc)
 have hD:=dY (iB hc)
 have HN:Hid (∀W',Below w.heap.size w W'→Calls Tryz.prog 18 #[.agg #[Value.string b.name,.slice A1 b.regions.length c1,.slice A2 b.outl.length c2,.slice A3 b.types.length c3,.slice A4 b.locals.length c4,.int .i64 b.args,.slice A5 b.blocks.length c5]] W' fun e' w'=>(∃A c,e' = .returned (.slice A (tabB [] (allN b)).length c)∧Slc 1 RN w' A c (tabB [] (allN b)))∧Below W'.heap.size W' w'):=aF (fun W' hb=>xKF b ⟨A1,c1,A2,c2,A3,c3,A4,c4,A5,c5⟩ W' (HH.out.keep hb) (by have:=hD.nreg;omega) (by have:=hD.nloc;omega) (by have:=HNS.out.blk;omega))
 rw [hc]
 clear hD hnz hc HNS
 obtain ⟨y0,y1,y2,y3,y4,y5,y6⟩:=aQ HCC.out
 go_wp2_with fail
 go_at_call 18
 refine (HN.out w2 HB.out).mono ?_
 rintro e' w3 ⟨⟨C,d,rfl,hs3⟩,hb3⟩
 replace HCC:=aF (cells_kept HCC.out hb3)
 replace HB:=aF (keep0 hb3 HB.out)
 have HS3:=aF hs3
 clear hb3 hs3 HN
 clear y0 y1 y2 y3 y4 y5 y6
 obtain ⟨nms,hnm⟩:∃l,tabB [] (allN b)=l:=⟨_,rfl⟩
 have HMEM:Hid (∀s∈allN b,s∈nms):=aF (fun s hs=>by rw [← hnm];exact (xJC _ _).2 hs)
 have HIDM:Hid (tabB [] nms=nms):=aF (by rw [← hnm,xKL])
 rw [hnm] at HS3 HSUM HIDN ⊢
 clear hnm
 go_wp2_with fail
 go_at_call 8
 refine (uY nms C d w3 HS3.out).mono ?_
 rintro e' w4 ⟨hb4,h4⟩
 replace HCC:=aF (cells_kept HCC.out hb4)
 replace HB:=aF (keep0 hb4 HB.out)
 have HS4:=aF (HS3.out.keep RN.keeps hb4)
 clear hb4
 rw [HIDM.out] at h4
 rcases h4 with ⟨rfl,h4⟩ | ⟨_,hxl,t,B1,d1,T,d2,rfl,ht,-,-⟩
 ·exfalso
  rcases h4 with h4 | ⟨s,hs,h4⟩
  ·have:=HSUM.out;omega
  ·have:=HIDN.out s hs;rw [h4] at this;cases this
 have hnl:nms.length≤8000:=hxl
 have HGD:=aF (xKM HDC.out (by omega) HMEM.out)
 have HTT:=aF ht
 have HR:Hid (Calls Tryz.prog 20 #[.agg #[Value.string b.name,.slice A1 b.regions.length c1,.slice A2 b.outl.length c2,.slice A3 b.types.length c3,.slice A4 b.locals.length c4,.int .i64 b.args,.slice A5 b.blocks.length c5],.slice C nms.length d] w4 fun e' w'=>(∃A c,e' = .returned (.slice A (declW nms b).length c)∧w'.ownsRow w4.heap.size 5 1 (.slice A (declW nms b).length c) (declW nms b).length ((declW nms b).map encB))∧Below w4.heap.size w4 w'):=aF (vM b ⟨A1,c1,A2,c2,A3,c3,A4,c4,A5,c5⟩ C d nms w4 (HH.out.keep HB.out) HS4.out HGD.out (by have:=HLEN.out nms;omega))
 have HLN:=aF (HLEN.out nms)
 have HCUT:Hid (∀k,k<(declW nms b).length→decS nms ((declW nms b).take k)=(jZ,4)):=aF (fun k hk=>xKT HGD.out (cG k _).symm (fun h=>by
  have:=congrArg List.length h
  simp at this
  omega))
 have HMORE:=aF (xKQ HGD.out c [])
 have hpos:=xKP nms b
 clear ht hxl HSUM HIDN HMEM HLEN HS3 HS4 HIDM
 obtain ⟨y0,y1,y2,y3,y4,y5,y6⟩:=aQ HCC.out
 go_wp2_with fail
 go_at_call 20
 refine HR.out.mono ?_
 rintro e' w5 ⟨⟨P,p,rfl,hown⟩,hb5⟩
 obtain ⟨P2,p2,hv,hs5,-⟩:=eW (R:=RB) (enc:=encB) (fun w B b o x h=>h) hown rfl
 injection hv with hv1 _ hv2
 subst hv1 hv2
 have HTT5:=aF (HTT.out.keep hb5)
 have HS5:=aF hs5
 have HB5:=aF (keep0 hb5 HB.out)
 have hle5:=hs5.le
 clear hb5 hs5 hown HR HTT HCC HGD
 clear y0 y1 y2 y3 y4 y5 y6
 generalize declW nms b=out at *
 have hlo:=HLN.out
 obtain ⟨M,hM⟩:∃M:Nat,min out.length 300=M:=⟨_,rfl⟩
 have hmin:min (out.length:Int) 300=(M:Int):=by omega
 have hM1:M≤out.length:=by omega
 go_wp2_with fail
 clear hmin hM
 go_loopw [41] (fun i wr=>∃k:Nat,k≤M∧i = .int .i64 k∧Hid (Below w5.heap.size w5 wr)) (fun i _=>M - (intOf i).toNat)
 case atStart=>exact ⟨0,by omega,rfl,aF (aV _ _)⟩
 case round=>
  obtain ⟨k,hk,rfl,HW⟩:=hrel
  by_cases hlt:k<M
  ·have HD:=aF ((sE (out.take k) P p t B1 d1 nms wr ((HS5.out.keep RB.keeps HW.out).takeN k) (by rw [cN];omega) (HTT5.out.keep HW.out)).mono (fun e' w' h=>h))
   rw [HCUT.out k (by omega)] at HD
   have HD2:=aF (HD.out.mono NoRes.of)
   rw [show (out.take k).length=k by rw [cN];omega] at HD2
   have hcut:∀X,(Instr.slice 34 (.slice P out.length p) none (some (.int .i64 (k:Int))) none).run Tryz.prog X = .ok (.slice P k p) X:=fun X=>by
    have:=nI (P:=Tryz.prog) 34 5 P out.length p k 1 Tryz.underlying34 Tryz.sizeOf5 (by omega) hle5 X
    rwa [show cutA P p 0 1=P by cases P <;> simp [cutA,Addr.add]] at this
   clear HD
   go_wp2_with fail
   go_at_call 14
   refine HD2.out.mono ?_
   rintro e' w6 ⟨E1,e1,E2,e2,E3,e3,E4,e4,E5,e5,rfl,hb6⟩
   have HB6:=aF (fun o=>keep0 (alF w6 o) (keep0 hb6 HW.out))
   clear hb6 hcut
   go_wp2_with fail
   go_roundw
   case rel=>exact ⟨k+1,by omega,by go_num,aF (HB6.out _)⟩
   case measure=>simp [intOf];omega
  ·have hx:=HS5.out.keep RB.keeps HW.out
   obtain ⟨b7,o7,rfl,hb7,-⟩:=hx.sl.at_ hpos
   have hcells:∀j u,(out.map encB)[j]?=some u→(wr.alloc (.cells #[] 5)).cell? ((⟨b7,o7,none⟩:Addr).add j)=some u:=fun j u hj=>by
    have hjl:j<out.length:=by
     have:=(List.getElem?_eq_some_iff.1 hj).1
     simpa using this
    obtain ⟨b8,o8,e,hb8,hy⟩:=hx.sl.at_ hjl
    cases e
    rw [xHQ]
    rw [cO,bB hjl] at hj
    cases hj
    exact cell_keep (alF _ _) (by simpa [RB,encB] using hy)
   have hown0:=xKN wr 5 wr.heap.size (aW _)
   have HMR:=aF (fun X (Q:Option Addr) (q:Nat) (hs:Slc 1 RB X Q q (out ++ [c])) (hb:Below wr.heap.size wr X)=>(sE (out ++ [c]) Q q t B1 d1 nms X hs (by rw [aZ,cH];omega) (HTT5.out.keep (keep0 hb HW.out))))
   rw [HMORE.out] at HMR
   clear hx
   go_wp2_with (at_builtin;refine wpList_append_own _ rfl _ _ 34 rfl wr.heap.size 5 i0 (.int .u8 0) 1 1 Tryz.underlying34 hi hz0 hz1 hz2 rfl (by decide) _ _ _ rfl hown0 ⟨b7,o7,none⟩ out.length p (out.map encB) rfl (by simp) hcells (fun u hu=>by obtain ⟨y,_,rfl⟩:=List.mem_map.1 hu;rfl) (by unfold maxLen;omega) (by omega) (by simp) ?_)
   intro v1 w1 hown1 hgrow1 _
   have HO1:Hid (w1.ownsRow wr.heap.size 5 1 v1 out.length (out.map encB)):=aF (by simpa using hown1)
   have HB1:=aF ((alF wr (.cells #[] 5)).grown hgrow1 (by simp) (fun g hg=>(hown0.lt g hg).1))
   clear hown1 hgrow1 hown0 hcells
   have hown1:=HO1.out.alloc (.cells #[.int .u8 c.toNat] 5)
   have hs1:=HB1.out.size
   go_wp2_with (at_builtin;refine wpList_append_own _ rfl _ _ 34 rfl wr.heap.size 5 i0 (.int .u8 0) 1 1 Tryz.underlying34 hi hz0 hz1 hz2 rfl (by decide) _ _ _ rfl hown1 ⟨w1.heap.size,0,none⟩ 1 1 [.int .u8 c.toNat] rfl rfl (fun j u hj=>by rw [add0];exact dZ w1 [.int .u8 c.toNat] 5 j u hj) (fun u hu=>by simp at hu;subst hu;rfl) (by unfold maxLen;omega) (by omega) (by simp;omega) ?_)
   intro v2 w2 hown2 hgrow2 _
   have hb2:Below wr.heap.size wr w2:=(HB1.out.alloc hs1 _).grown hgrow2 (by simp;omega) (fun g hg=>(hown1.lt g hg).1)
   have ho2:w2.ownsRow wr.heap.size 5 1 v2 (out.length+1) ((out ++ [c]).map encB):=by rw [bS];exact hown2
   obtain ⟨Q2,q2,hv,hs2,-⟩:=eW (R:=RB) (enc:=encB) (fun w B b o x h=>h) ho2 (by simp)
   subst hv
   have HD2:=aF ((HMR.out w2 Q2 q2 hs2 hb2).mono NoRes.of)
   rw [aZ,cH] at HD2
   have HB2:=aF (keep0 (keep0 hb2 HW.out) HB5.out)
   clear hb2 ho2 hs2 hown2 hgrow2 hown1 HMR
   go_wp2_with fail
   go_at_call 14
   refine HD2.out.mono ?_
   rintro e' w6 ⟨E1,e1,E2,e2,E3,e3,E4,e4,E5,e5,rfl,hb6⟩
   obtain ⟨W6,hW6⟩:∃W6,w6.alloc (.cells #[.string ⟨#[]⟩,.slice E1 0 e1,.slice E2 0 e2,.slice E3 0 e3,.slice E4 0 e4,.int .i64 0,.slice E5 0 e5] 28)=W6:=⟨_,rfl⟩
   have hb66:Below w2.heap.size w2 W6:=by rw [← hW6];exact keep0 (alF _ _) hb6
   have HB6:=aF (keep0 hb66 HB2.out)
   clear hb6 hb66
   go_wp2_with fail
   go_at_call 10
   refine (HL.out _ HB6.out).mono ?_
   rintro e' w7 ⟨rfl,hb7'⟩
   have HB7:=aF (keep0 hb7' HB6.out)
   clear hb7'
   go_wp2_with fail
   go_ret
   exact ⟨rfl,HB7.out⟩
end
section
open Go Go.ChangeShapes Go.WideShapes Go.ChangeAt Go.RowKit Go.Joins Go.Deep
variable {H:Type} {enc:TypeId × Value→H} {w:World} {base:Nat} {spare:Nat→Bool} {held:Bool}
theorem xKS {r:Reach} {b0:Nat} {v:Value} {d:DataW H} {p:List MemPlace} (hv:Value.okWide Tryz.prog w r b0 5 v) (h:DataW.Trod enc Tryz.prog w base spare held 5 v d p):∃c:UInt8,v = .int .u8 c.toNat:=by
 obtain ⟨x,rfl,-,-,hw⟩:=open_int Tryz.underlying5 hv h
 have hb:0≤x∧x≤255:=by
  simp [Lit.wf,IntKind.min,IntKind.max,IntKind.signed,IntKind.bits] at hw
  omega
 refine ⟨UInt8.ofNat x.toNat,?_⟩
 rw [UInt8.toNat_ofNat']
 congr 1
 omega
end
end Go.Proofs.YtbnljlpefpllcaaGreatDoor
