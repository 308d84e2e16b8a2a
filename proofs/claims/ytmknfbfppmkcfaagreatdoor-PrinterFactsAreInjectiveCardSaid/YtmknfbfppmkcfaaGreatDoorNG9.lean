/-
  PrinterFactsAreInjective: the texts that this claim has beyond those of PrinterPlaces. (part 9)
-/
import Derived.Test.YtmknfbfppmkcfaaGreatDoorNG8
import Derived.Lib.Hide
import Derived.Below
import Derived.WalkSmall
import Derived.Laws.World
import Derived.Test.YtmknfbfppmkcfaaGreatDoorProg
import Derived.WalkKit
import Derived.WalkSpells
import Derived.WalkLawsBesides
import Derived.Deep.RegionHeld3
import Derived.Deep.DeepFit
import Derived.Deep.QuietTactic
import Derived.BigQuiet
import Derived.OwnWalk
import Derived.Maps.AppendAt
import Derived.Deep.DeepCutAuto
import Derived.StillTailTactics
import Derived.Lib.ItoaNum
import Derived.Lib.Join
import Derived.RangeFuncNested
import Derived.RangeFuncBound
import Derived.RangeFuncCalls
import Derived.RangeFuncLeaves
import Derived.OwnWalkIn
import Derived.TacticsInMore
import Derived.LoopNIn
import Derived.LoopIn
import Derived.Lib.ItoaLen
import Derived.Laws.IdiomStrings
import Derived.Shelf.Abstract
import Derived.OrdersHeld
import Derived.Deep.RegionHeld
import Derived.Test.YtmknfbfppmkcfaaGreatDoorSg
import Derived.Maps.OwnSet
import Derived.Maps.OwnOps
import Derived.StringKeys
import Derived.Deep.MidRow
import Derived.Deep.LoopGhost
import Derived.WideKeyPair
import Derived.WideKeyArr
import Derived.Test.YtmknfbfppmkcfaaGreatDoorSj
import Derived.Lib.AppendIntMem
import Derived.Test.YtmknfbfppmkcfaaGreatDoorSh
import Derived.RangeFuncBox
import Derived.Lib.AppendStr
import Derived.Lib.Builder
import Derived.WalkMore
import Derived.ChangeKeysEq
import Derived.Deep.CutBlock
import Derived.Test.YtmknfbfppmkcfaaGreatDoorRows
import Derived.ProofKit
import Derived.Deep.Slices
import Derived.Deep.Fields
import Derived.Lib.SmallJoins
import Derived.OpenShut
import Derived.LaidMore
import Derived.Stop.Joined
import Derived.Stop.LaidErr
import Derived.Lay
import Derived.SevenTiedAt
import Derived.Lib.LaidTab
import Derived.Test.YtmknfbfppmkcfaaGreatDoorTie
import Derived.Test.YtmknfbfppmkcfaaGreatDoorCards
import Derived.JoinedOf
import Derived.SizedLaws
namespace Go.Proofs.YtmknfbfppmkcfaaGreatDoor
set_option maxRecDepth 100000
set_option maxHeartbeats 16000000
section
open Go Go.RowKit Go.Maps
theorem blk7v {w:World} {k:Nat} {a b c d e f z:Value} {t:TypeId} (h:w.heap[k]?=some (.cells #[a,b,c,d,e,f,z] t (0,0))):
 w.cell? ⟨k,0,none⟩=some a/\w.cell? ⟨k,1,none⟩=some b/\w.cell? ⟨k,2,none⟩=some c/\w.cell? ⟨k,3,none⟩=some d/\w.cell? ⟨k,4,none⟩=some e/\w.cell? ⟨k,5,none⟩=some f/\w.cell? ⟨k,6,none⟩=some z/\(∀i,w.frozen? ⟨k,i,none⟩=false):=
 ⟨by rw [cell_of_row w _ 0 _ _ _ h];rfl,by rw [cell_of_row w _ 1 _ _ _ h];rfl,by rw [cell_of_row w _ 2 _ _ _ h];rfl,by rw [cell_of_row w _ 3 _ _ _ h];rfl,by rw [cell_of_row w _ 4 _ _ _ h];rfl,by rw [cell_of_row w _ 5 _ _ _ h];rfl,by rw [cell_of_row w _ 6 _ _ _ h];rfl,fun i=>by simp [World.frozen?,h]⟩
theorem xEG (b:Bdy) (bh:BH) (w:World) (H:BdAt w b bh) (hz:NmOk b):
 Calls Tryz.prog 17 #[.agg (bdC b bh).toArray] w fun e' w'=>e' = .returned (.int .i64 (chkB b))/\Below w.heap.size w w':=
 xEE b bh w H hz.blks (fun W hb=>xFY b bh W (H.keep hb) hz)
  (fun hd W hb s A0 A B c0 c d h0 h1 h2=>xHS ⟨H.keep hb,eK hd⟩ s A0 A B c0 c d (h0.keep RPj.keeps hb) (h1.keep RPj.keeps hb) (h2.keep ROp.keeps hb))
  (fun hd W hb t A B C c d f h0 h1 h2 h3=>xFS ⟨H.keep hb,eK hd⟩ t A B C c d f (h0.keep RInt.keeps hb) (h1.keep ROp.keeps hb) (h2.keep RPj.keeps hb) h3)
theorem xFQ (ts:List Ty) (A:Option Addr) (c:Nat) (w:World) (hs:Slc 5 RTy w A c ts):
 Calls Tryz.prog 24 #[.slice A ts.length c] w fun e' w'=>(∃q,e' = .returned (.int .i64 q)/\(q<=0->ts.length<=200))/\Below w.heap.size w w':=by
 have HL:=aF (xGC ts A c w hs);have HW:=aF (fun W (hb:Below w.heap.size w W) (hl:ts.length<=200)=>xGM ts A c W (hs.keep RTy.keeps hb) hl);clear hs;obtain ⟨n,hn⟩:∃n,ts.length=n:=⟨_,rfl⟩;rw [hn] at HL HW ⊢;go_enter Tryz.func24,Tryz.ntmps24
 go_wp2_with (first | (go_at_call 66;refine (HW.out _ HB.out (HQ.out (by omega))).mono ?_;rintro e' w2 ⟨⟨q2,rfl⟩,hb2⟩;have HB2:=aF (HB.out.trans (hb2.mono HB.out.size));clear hb2;cases q2) | (go_at_call 65;refine HL.out.mono ?_;rintro e' w1 ⟨⟨q,rfl,hq⟩,hb⟩;have HB:=aF hb;have HQ:=aF hq;clear hb hq))
 all_goals
  go_ret
  first
   | exact ⟨⟨_,rfl,fun h=>absurd h (by omega)⟩,HB2.out⟩
   | exact ⟨⟨_,rfl,fun h=>absurd h (by omega)⟩,HB.out⟩
   | exact ⟨⟨_,rfl,fun _=>HQ.out (by omega)⟩,HB2.out⟩
structure NotSkip (b:Bdy):Prop where
 nm:ShortB b->namesZ b<=3000
 typ:b.types.length<=200
 out:b.outl.length<=200
 reg:b.regions.length<=200
 blk:b.blocks.length<=200
theorem xGQ (b:Bdy) (bh:BH) (w:World) (H:BdAt w b bh) (hz:NmOk b):
 Calls Tryz.prog 8 #[.agg (bdC b bh).toArray] w fun e' w'=>(∃q:Int,e' = .returned (.int .i64 q)/\(q<=0->NotSkip b))/\Below w.heap.size w w':=by
 obtain ⟨A1,c1,A2,c2,A3,c3,A4,c4,A5,c5⟩:=bh;have r1:=H.reg.le;have r2:=H.reg.big;have o1:=H.out.le;have o2:=H.out.big;have t1:=H.typ.le;have t2:=H.typ.big;have b1:=H.blk.le;have b2:=H.blk.big;simp only at r1 r2 o1 o2 t1 t2 b1 b2;have HL:Hid (∀W,Below w.heap.size w W->Calls Tryz.prog 23 #[.agg #[Value.string b.name,.slice A1 b.regions.length c1,.slice A2 b.outl.length c2,.slice A3 b.types.length c3,.slice A4 b.locals.length c4,.int .i64 b.args,.slice A5 b.blocks.length c5]] W fun e' w'=>(∃q:Int,e' = .returned (.int .i64 q)/\(q<=0->ShortB b->namesZ b<=3000))/\Below W.heap.size W w'):=aF (fun W hb=>xDR b ⟨A1,c1,A2,c2,A3,c3,A4,c4,A5,c5⟩ W (H.keep hb) hz);have HT:=aF (fun W hb=>xFQ b.types A3 c3 W (H.typ.keep RTy.keeps hb));have HK:=aF (fun W hb=>xCQ b.types (b.regions.length:Int) A3 c3 W (H.typ.keep RTy.keeps hb));have HD:=aF (fun W hb i hi h64 hok=>xFI b.types i A3 c3 W (H.typ.keep RTy.keeps hb) hi h64 hok);have HOK:=aF (fun h=>xET (n:=(b.regions.length:Int)) (ts:=b.types) h);clear H;unfold bdC;simp only;obtain ⟨W,hW⟩:∃W,w.alloc (.cells #[Value.string b.name,.slice A1 b.regions.length c1,.slice A2 b.outl.length c2,.slice A3 b.types.length c3,.slice A4 b.locals.length c4,.int .i64 b.args,.slice A5 b.blocks.length c5] 28)=W:=⟨_,rfl⟩;have HC0:Hid (aA (bdM b A1 c1 A2 c2 A3 c3 A4 c4 A5 c5 []) W w.heap.size):=aF (by rw [<- hW];exact cP w [Value.string b.name,.slice A1 b.regions.length c1,.slice A2 b.outl.length c2,.slice A3 b.types.length c3,.slice A4 b.locals.length c4,.int .i64 b.args,.slice A5 b.blocks.length c5] 28);have HB0:Hid (Below w.heap.size w W):=aF (by rw [<- hW];exact alF _ _);have HK7:Hid (W.heap[w.heap.size]?=some (.cells #[Value.string b.name,.slice A1 b.regions.length c1,.slice A2 b.outl.length c2,.slice A3 b.types.length c3,.slice A4 b.locals.length c4,.int .i64 b.args,.slice A5 b.blocks.length c5] 28 (0,0))):=aF (by rw [<- hW];exact heap_alloc_new w _);obtain ⟨x0,x1,x2,x3,x4,x5,x6,_⟩:=blk7v HK7.out;change Calls _ _ #[.agg #[Value.string b.name,.slice A1 b.regions.length c1,.slice A2 b.outl.length c2,.slice A3 b.types.length c3,.slice A4 b.locals.length c4,.int .i64 b.args,.slice A5 b.blocks.length c5]] _ _;go_enter Tryz.func8,Tryz.ntmps8
 go_wp2_with fail
 go_at_call 23
 refine (HL.out W HB0.out).mono ?_;rintro e' w1 ⟨⟨q,rfl,hq⟩,hb⟩;have HCC:=aF (cK HC0.out hb);have HB:=aF (keep0 hb HB0.out);have HQ:=aF hq;clear hb hq HC0 HB0 HL x0 x1 x2 x3 x4 x5 x6;by_cases hq1:0<q
 ·go_wp2_with fail
  all_goals (go_ret;exact ⟨⟨_,rfl,fun h=>absurd h (by omega)⟩,HB.out⟩)
 have hq2:q<=0:=by omega
 have HN:=aF (HQ.out hq2);obtain ⟨y0,y1,y2,y3,y4,y5,y6⟩:=aS HCC.out;go_wp2_with fail
 go_at_call 24
 refine (HT.out w1 HB.out).mono ?_;rintro e' w2 ⟨⟨p,rfl,hp⟩,hb⟩;replace HCC:=aF (cK HCC.out hb);replace HB:=aF (keep0 hb HB.out);have HP:=aF hp;clear hb hp HT HQ hq1 y0 y1 y2 y3 y4 y5 y6;by_cases hq1:0<p
 ·go_wp2_with fail
  all_goals (go_ret;exact ⟨⟨_,rfl,fun h=>absurd h (by omega)⟩,HB.out⟩)
 have hp2:p<=0:=by omega
 have HTL:=aF (HP.out hp2);obtain ⟨y0,y1,y2,y3,y4,y5,y6⟩:=aS HCC.out;by_cases g1:200<b.outl.length
 ·go_wp2_with fail
  all_goals (go_ret;exact ⟨⟨_,rfl,fun h=>absurd h (by omega)⟩,HB.out⟩)
 by_cases g2:200<b.regions.length
 ·go_wp2_with fail
  all_goals (go_ret;exact ⟨⟨_,rfl,fun h=>absurd h (by omega)⟩,HB.out⟩)
 by_cases g3:200<b.blocks.length
 ·go_wp2_with fail
  all_goals (go_ret;exact ⟨⟨_,rfl,fun h=>absurd h (by omega)⟩,HB.out⟩)
 have HNS:Hid (NotSkip b):=aF ⟨HN.out,HTL.out,by omega,by omega,by omega⟩;go_wp2_with fail
 go_at_call 25
 refine (HK.out w2 HB.out).mono ?_;rintro e' w3 ⟨rfl,hb⟩;replace HCC:=aF (cK HCC.out hb);replace HB:=aF (keep0 hb HB.out);clear hb y0 y1 y2 y3 y4 y5 y6;by_cases hty:typesC (b.regions.length:Int) b.types=0
 case neg=>
  generalize typesC (b.regions.length:Int) b.types=ty at *;go_wp2_with fail
  all_goals (go_ret;exact ⟨⟨_,rfl,fun _=>HNS.out⟩,HB.out⟩)
 rw [hty];have HDP:=aF (HOK.out hty);have HTL2:=HTL.out;clear hty HK HOK;obtain ⟨y0,y1,y2,y3,y4,y5,y6⟩:=aS HCC.out;go_wp2_with fail
 clear y0 y1 y2 y3 y4 y5 y6;go_loopw [41] (fun i wr=>∃k:Nat,k<=b.types.length/\i = .int .i64 k/\Hid (aA (bdM b A1 c1 A2 c2 A3 c3 A4 c4 A5 c5 []) wr w.heap.size)/\Hid (Below w.heap.size w wr)) (fun i _=>b.types.length - (intOf i).toNat)
 case atStart=>exact ⟨0,by omega,rfl,HCC,HB⟩
 case round=>
  clear HCC HB;obtain ⟨k,hk,rfl,HCC,HB⟩:=hrel;by_cases hlt:k<b.types.length
  ·obtain ⟨y0,y1,y2,y3,y4,y5,y6⟩:=aS HCC.out;go_wp2_with fail
   go_at_call 26
   refine (HD.out wr HB.out k hlt (by omega) HDP.out).mono ?_;rintro e' w4 ⟨⟨d,rfl⟩,hb⟩;have HC4:=aF (cK HCC.out hb);have HB4:=aF (keep0 hb HB.out);clear hb;by_cases hd:8<d
   ·go_wp2_with fail
    go_ret;exact ⟨⟨_,rfl,fun h=>absurd h (by omega)⟩,HB4.out⟩
   ·go_wp2_with fail
    go_roundw
    case rel=>exact ⟨k+1,by omega,by go_num,HC4,HB4⟩
    case measure=>simp [intOf];omega
  ·go_wp2_with fail
   go_ret;exact ⟨⟨_,rfl,fun _=>HNS.out⟩,HB.out⟩
end
section
open Go Go.RowKit
theorem xGE {n:ByteArray} (h:isIdent n=true):(bl n).length<=255:=by
 unfold isIdent at h;unfold bl;generalize n.data.toList=l at h;cases l with
 | nil=>simp
 | cons c r=>
   simp only [sM,bQ,decide_eq_true_eq] at h;simp only [bK];omega
theorem xHE {rs:List ByteArray} (h:∀r∈rs,isIdent r=true) (i:Int):(rgP rs i).length<=255:=by
 unfold rgP;cases e:rs[i.toNat]? with
 | none=>simp
 | some x=>exact xGE (h x (List.mem_of_getElem? e))
theorem xIG {ls:List Lc} (h:∀l∈ls,isIdent l.name=true) (i:Int):(nmP ls i).length<=255:=by
 unfold nmP;cases e:ls[i.toNat]? with
 | none=>simp
 | some x=>exact xGE (h x (List.mem_of_getElem? e))
theorem xIE {ls:List Lc} {p:Plc} (hl:∀l∈ls,isIdent l.name=true) (hp:p.proj.length<=32) (hf:∀x∈p.proj,fitJ x):(placeP ls p).length<=960:=by
 have h1:=xIG hl p.loc;have h2:=xS hf;unfold placeP;rw [bK,bB];omega
end
section
open Go Go.RowKit
attribute [local irreducible] Calls
theorem xEU (b:Bdy) (bh:BH) (w:World) (H:BdAt w b bh) (hz:NmOk b):
 Calls Tryz.prog 20 #[.agg (bdC b bh).toArray] w fun e' w'=>(∃q:Int,e' = .returned (.int .i64 q)/\(q<=0->NotSkip b/\chkB b=0))/\Below w.heap.size w w':=by
 have HSK:=aF (fun (W:World) (hb:Below w.heap.size w W)=>xGQ b bh W (H.keep hb) hz);have HCK:=aF (fun (W:World) (hb:Below w.heap.size w W)=>xEG b bh W (H.keep hb) hz);have HRC:=aF (fun (W:World) (hb:Below w.heap.size w W)=>rcount_any' b bh W (H.keep hb));have n1:=H.loc.le;have n2:=H.loc.big;have n3:=H.reg.le;have n4:=H.reg.big;obtain ⟨A1,c1,A2,c2,A3,c3,A4,c4,A5,c5⟩:=bh;unfold bdC at *;simp only at *;obtain ⟨W0,hW0⟩:∃W,w.alloc (.cells ([Value.string b.name,.slice A1 b.regions.length c1,.slice A2 b.outl.length c2,.slice A3 b.types.length c3,.slice A4 b.locals.length c4,.int .i64 b.args,.slice A5 b.blocks.length c5]).toArray 28)=W:=⟨_,rfl⟩;have hb0:Below w.heap.size w W0:=by rw [<- hW0];exact (aX _ _).alloc (aY _) _
 have HB0:=aF hb0;have hcx:=cP w [Value.string b.name,.slice A1 b.regions.length c1,.slice A2 b.outl.length c2,.slice A3 b.types.length c3,.slice A4 b.locals.length c4,.int .i64 b.args,.slice A5 b.blocks.length c5] 28;rw [hW0] at hcx;have HX:=aF (fun (W:World) (hb:Below W0.heap.size W0 W) i v h=>cJ hb (hcx i v h));clear hcx hb0 H hz;have hX:=HX.out W0 (aX _ _);obtain ⟨y0,y1,y2,y3,y4,y5,y6⟩:=aS hX;clear hX;go_enter Tryz.func20,Tryz.ntmps20
 go_wp2_with fail
 first | refine (HSK.out _ HB0.out).mono ?_ | (go_at_call 8;refine (HSK.out _ HB0.out).mono ?_)
 rintro e' w1 ⟨⟨q,rfl,hq⟩,hw1⟩;clear y0 y1 y2 y3 y4 y5 y6;have hX:=HX.out w1 hw1;obtain ⟨y0,y1,y2,y3,y4,y5,y6⟩:=aS hX;clear hX;have HW1:=aF hw1;have HB1:=aF (HB0.out.trans (hw1.mono HB0.out.size));clear hw1;by_cases hq0:0<q
 case pos=>
  clear hq;go_wp2_with fail
  go_ret;exact ⟨⟨1,rfl,fun h=>absurd h (by decide)⟩,HB1.out⟩
 have HN:=aF (hq (by omega));clear hq;go_wp2_with fail
 first | refine (HRC.out _ HB1.out).mono ?_ | (go_at_call 19;refine (HRC.out _ HB1.out).mono ?_)
 rintro e' w2 ⟨⟨p,rfl,-⟩,hw2⟩;clear y0 y1 y2 y3 y4 y5 y6;have HW2:=aF (HW1.out.trans (hw2.mono HW1.out.size));have hX:=HX.out w2 HW2.out;obtain ⟨y0,y1,y2,y3,y4,y5,y6⟩:=aS hX;clear hX;have HB2:=aF (HB1.out.trans (hw2.mono HB1.out.size));clear hw2;by_cases h1:(60:Int)<p
 case pos=>
  go_wp2_with fail
  go_ret;exact ⟨⟨1,rfl,fun h=>absurd h (by decide)⟩,HB2.out⟩
 by_cases h2:(20:Int)<b.locals.length
 case pos=>
  go_wp2_with fail
  go_ret;exact ⟨⟨1,rfl,fun h=>absurd h (by decide)⟩,HB2.out⟩
 by_cases h3:(10:Int)<b.regions.length
 case pos=>
  go_wp2_with fail
  go_ret;exact ⟨⟨1,rfl,fun h=>absurd h (by decide)⟩,HB2.out⟩
 by_cases hc:chkB b=0
 case neg=>
  have e0:(chkB b != 0)=true:=by simp [hc]
  go_wp2_with fail
  first | refine (HCK.out _ HB2.out).mono ?_ | (go_at_call 17;refine (HCK.out _ HB2.out).mono ?_)
  rintro e' w3 ⟨rfl,hw3⟩;go_wp2_with fail
  go_ret;exact ⟨⟨1,rfl,fun h=>absurd h (by decide)⟩,HB2.out.trans (hw3.mono HB2.out.size)⟩
 have HF:=aF hc;rw [hc] at HCK;clear hc;go_wp2_with fail
 first | refine (HCK.out _ HB2.out).mono ?_ | (go_at_call 17;refine (HCK.out _ HB2.out).mono ?_)
 rintro e' w3 ⟨rfl,hw3⟩;go_wp2_with fail
 go_ret;exact ⟨⟨0,rfl,fun _=>⟨HN.out,HF.out⟩⟩,HB2.out.trans (hw3.mono HB2.out.size)⟩
end
section
open Go Go.RowKit
attribute [local irreducible] Calls
theorem xCP (f:Fct) (fh:FH) (p r:Int) (w:World) (H:FcAt w f fh):
 Calls Tryz.prog 21 #[.agg (fcC f fh).toArray,.int .i64 p,.int .i64 r] w fun e' w'=>e' = .returned (.int .i64 (fctE f p r))/\Below w.heap.size w w':=by
 obtain ⟨A0,c0,A1,c1,A2,c2,A3,c3,A4,c4⟩:=fh;have HH:=aF H;obtain ⟨R,hR⟩:∃R,fctE f p r=R:=⟨_,rfl⟩;rw [hR];have HR:=aF hR;have l0:=H.ln.le;have l1:=H.ed.le;have l2:=H.ki.le;have l3:=H.iv.le;have l4:=H.li.le;have m0:=H.ln.big;have m1:=H.ed.big;have m2:=H.ki.big;have m3:=H.iv.big;have m4:=H.li.big;simp only at l0 l1 l2 l3 l4 m0 m1 m2 m3 m4;obtain ⟨W0,hW0⟩:∃W,w.alloc (.cells ([Value.slice A0 f.loans.length c0,.slice A1 f.edges.length c1,.slice A2 f.killed.length c2,.slice A3 f.inval.length c3,.slice A4 f.live.length c4]).toArray 39)=W:=⟨_,rfl⟩;have hB0:Below w.heap.size w W0:=by rw [<- hW0];exact (aX _ _).alloc (aY _) _
 have HB0:=aF hB0;have hcx:=cP w [Value.slice A0 f.loans.length c0,.slice A1 f.edges.length c1,.slice A2 f.killed.length c2,.slice A3 f.inval.length c3,.slice A4 f.live.length c4] 39;rw [hW0] at hcx;have HX:=aF hcx;obtain ⟨x0,x1,x2,x3,x4⟩:=aQ HX.out;clear hR H hB0 hcx;unfold fcC;simp only;by_cases hb:fcBig f
 case pos=>
  have HF:Hid (R=15):=aF (by rw [<- HR.out];unfold fctE;rw [bA hb]);unfold fcBig at hb;clear HR;go_enter Tryz.func21,Tryz.ntmps21
  go_wp2_with fail
  all_goals first
   | (exfalso;omega)
   | (go_ret;exact ⟨by rw [HF.out];rfl,HB0.out⟩)
 case neg=>
 have HL:Hid (R=if losE p r none f.loans≠0 then losE p r none f.loans
  else if prsE p p none f.edges≠0 then prsE p p none f.edges
  else if prsE f.loans.length p none f.killed≠0 then prsE f.loans.length p none f.killed
  else if prsE f.loans.length p none f.inval≠0 then prsE f.loans.length p none f.inval
  else prsE r p none f.live):=aF (by rw [<- HR.out];unfold fctE;rw [aZ hb])
 unfold fcBig at hb;have b0:¬(16777216:Int)<f.loans.length:=by omega
 have b1:¬(16777216:Int)<f.edges.length:=by omega
 have b2:¬(16777216:Int)<f.killed.length:=by omega
 have b3:¬(16777216:Int)<f.inval.length:=by omega
 have b4:¬(16777216:Int)<f.live.length:=by omega
 clear HR hb;go_enter Tryz.func21,Tryz.ntmps21
 go_wp2_with fail
 go_loopw [8] (fun v wr=>∃k:Nat,k<=f.loans.length/\v = .int .i64 k/\Hid (Below W0.heap.size W0 wr)/\Hid (losE p r none f.loans=losE p r (prevL f.loans k) (f.loans.drop k))) (fun v _=>f.loans.length - (intOf v).toNat)
 case atStart=>exact ⟨0,by omega,rfl,aF (aX _ _),aF rfl⟩
 case round=>
  obtain ⟨k,hk,rfl,hB,hr⟩:=hrel;have HBW:=aF (HB0.out.trans (hB.out.mono HB0.out.size));have HXr:=aF (fun i v h=>cJ hB.out (HX.out i v h));clear x0 x1 x2 x3 x4;have y0:=HXr.out 0 _ rfl;have y1:=HXr.out 1 _ rfl;have y2:=HXr.out 2 _ rfl;have y3:=HXr.out 3 _ rfl;have y4:=HXr.out 4 _ rfl;by_cases hlt:k<f.loans.length
  case neg=>
   have HN:Hid (losE p r none f.loans=0):=aF (by rw [hr.out,bE (by omega)];rfl);have HE:=aF (fun (X:World) (hX:X=wr)=>HH.out.ed.keep RPr.keeps HBW.out);have HS1:=aF (HH.out.ed.keep RPr.keeps HBW.out);have HS2:=aF (HH.out.ki.keep RPr.keeps HBW.out);have HS3:=aF (HH.out.iv.keep RPr.keeps HBW.out);have HS4:=aF (HH.out.li.keep RPr.keeps HBW.out);have HP1:=aF (xCH f.edges p p A1 c1 wr HS1.out);have HP2:=aF (xCH f.killed f.loans.length p A2 c2 wr HS2.out);have HP3:=aF (xCH f.inval f.loans.length p A3 c3 wr HS3.out);have HP4:=aF (xCH f.live r p A4 c4 wr HS4.out);have HL2:=aF (HL.out.trans (by rw [aZ (by simp [HN.out])]));clear HL hr HN HE HS1 HS2 HS3 HS4;generalize prsE p p none f.edges=E1 at *;generalize prsE f.loans.length p none f.killed=E2 at *;generalize prsE f.loans.length p none f.inval=E3 at *;generalize prsE r p none f.live=E4 at *;by_cases h1:E1=0
   case neg=>
    have e1:(E1 == 0)=false:=by simp [h1]
    have HF:Hid (R=E1):=aF (by rw [HL2.out,bA h1]);clear HL2 h1;go_wp2_with (go_at_call 62;(first | refine HP1.out.mono ?_ | refine HP2.out.mono ?_ | refine HP3.out.mono ?_ | refine HP4.out.mono ?_);rintro e' w1 ⟨rfl,hw⟩;obtain rfl:=hw.symm)
    go_ret;exact ⟨by rw [HF.out];rfl,HBW.out⟩
   case pos=>
   subst h1;by_cases h2:E2=0
   case neg=>
    have e1:(E2 == 0)=false:=by simp [h2]
    have HF:Hid (R=E2):=aF (by rw [HL2.out,aZ (by simp),bA h2]);clear HL2 h2;go_wp2_with (go_at_call 62;(first | refine HP1.out.mono ?_ | refine HP2.out.mono ?_ | refine HP3.out.mono ?_ | refine HP4.out.mono ?_);rintro e' w1 ⟨rfl,hw⟩;obtain rfl:=hw.symm)
    go_ret;exact ⟨by rw [HF.out];rfl,HBW.out⟩
   case pos=>
   subst h2;by_cases h3:E3=0
   case neg=>
    have e1:(E3 == 0)=false:=by simp [h3]
    have HF:Hid (R=E3):=aF (by rw [HL2.out,aZ (by simp),aZ (by simp),bA h3]);clear HL2 h3;go_wp2_with (go_at_call 62;(first | refine HP1.out.mono ?_ | refine HP2.out.mono ?_ | refine HP3.out.mono ?_ | refine HP4.out.mono ?_);rintro e' w1 ⟨rfl,hw⟩;obtain rfl:=hw.symm)
    go_ret;exact ⟨by rw [HF.out];rfl,HBW.out⟩
   case pos=>
   subst h3;have HF:Hid (R=E4):=aF (by rw [HL2.out,aZ (by simp),aZ (by simp),aZ (by simp)]);clear HL2;go_wp2_with (go_at_call 62;(first | refine HP1.out.mono ?_ | refine HP2.out.mono ?_ | refine HP3.out.mono ?_ | refine HP4.out.mono ?_);rintro e' w1 ⟨rfl,hw⟩;obtain rfl:=hw.symm)
   go_ret;exact ⟨by rw [HF.out];rfl,HBW.out⟩
  case pos=>
  have hsl:=(HH.out.ln.keep RLn.keeps HBW.out).sl;obtain ⟨b,o,rfl,hb,hx⟩:=hsl.at_ hlt;have HPS:Hid (prevL f.loans (k+1)=some f.loans[k]):=aF (by unfold prevL;rw [aZ (by omega)];simp [hlt])
  have HQ:Hid (∀j,k=j+1->∃q,prevL f.loans k=some q/\RLn wr wr.heap.size b (o+j * 5) q):=aF (fun j hj=>by
   obtain ⟨b',o',hbo,_,hz⟩:=hsl.at_ (show j<f.loans.length by omega);obtain ⟨rfl,rfl⟩:b=b'/\o=o':=by simpa using hbo
   exact ⟨f.loans[j],by unfold prevL;rw [aZ (by omega),show k - 1=j by omega];exact bD (by omega),hz⟩)
  have HN:Hid (losE p r none f.loans=if loE p r (prevL f.loans k) f.loans[k]=0 then losE p r (some f.loans[k]) (f.loans.drop (k+1)) else loE p r (prevL f.loans k) f.loans[k]):=aF (by rw [hr.out,cS hlt,lR]);have HRX:Hid (losE p r none f.loans≠0->R=losE p r none f.loans):=aF (fun h=>by rw [HL.out,bA h]);obtain ⟨x,hxe⟩:∃x,f.loans[k]=x:=⟨_,rfl⟩;rw [hxe] at hx HPS HN;obtain ⟨g0,g1,g2,g3,PA,pc,g4,p1,p2,p3⟩:=hx;have HSP:Hid (Slc 2 RPj wr PA pc x.place.proj):=aF ⟨p3,p1,p2⟩;have hsz:=HBW.out.size;have hlw:w.heap.size<wr.heap.size:=cD wr _ y0;obtain ⟨xr,xp,xm,xl,xj⟩:=x;simp only at g0 g1 g2 g3 g4 p1 HSP;obtain ⟨W1,hW1⟩:∃W,wr.alloc (.cells #[.int .i64 xr,.int .i64 xp,.bool xm,.int .i64 xl,.slice PA xj.length pc] 95)=W:=⟨_,rfl⟩;have hbW:Below wr.heap.size wr W1:=by rw [<- hW1];exact (aX _ _).alloc (aY _) _
  have HW0:=aF (hB.out.trans (hbW.mono hB.out.size));have HW:=aF (HBW.out.trans (hbW.mono hsz));have n0:=cP wr [.int .i64 xr,.int .i64 xp,.bool xm,.int .i64 xl,.slice PA xj.length pc] 95;simp only [hW1] at n0;have n0r:=n0 0 _ rfl;have n0p:=n0 1 _ rfl;have n0m:=n0 2 _ rfl;have n0l:=n0 3 _ rfl;have n0j:=n0 4 _ rfl;have HC:=aF (pG xl PA pc xj W1 (HSP.out.keep RPj.keeps hbW));clear HL hr hsl hxe p1 p3 n0;by_cases hrg:xr<0\/r<=xr\/xp<0\/p<=xp
  case pos=>
   have HF:Hid (R=3):=aF (by
    have h3:losE p r none f.loans=3:=by rw [HN.out,lS hrg];rfl
    rw [HRX.out (by rw [h3];decide),h3])
   clear HN HPS HQ HRX;go_wp2_with fail
   all_goals first
    | (exfalso;omega)
    | (go_ret;exact ⟨by rw [HF.out];rfl,HW.out⟩)
  case neg=>
  have q1:¬xr<0:=by omega
  have q2:¬r<=xr:=by omega
  have q3:¬xp<0:=by omega
  have q4:¬p<=xp:=by omega
  by_cases hck:chk xl xj=0
  case neg=>
   have HF:Hid (R=chk xl xj):=aF (by
    have h3:losE p r none f.loans=chk xl xj:=by rw [HN.out,yC hrg hck,aZ hck]
    rw [HRX.out (by rw [h3];exact hck),h3])
   have e3:(chk xl xj != 0)=true:=by simp [hck]
   generalize chk xl xj=ck at *;clear HN HPS HQ HRX hrg hck;go_wp2_with (go_at_call 53;refine HC.out.mono ?_;rintro e' w1 ⟨rfl,hw⟩)
   all_goals first
    | (exfalso;omega)
    | (go_ret;exact ⟨by rw [HF.out];rfl,HW.out.trans (hw.mono HW.out.size)⟩)
  case pos=>
  have e3:(chk xl xj != 0)=false:=by simp [hck]
  rw [hck] at HC e3;rcases (show k=0\/∃j,k=j+1 from by cases k;exact .inl rfl;exact .inr ⟨_,rfl⟩) with rfl | ⟨j,rfl⟩
  ·have HF:Hid (losE p r none f.loans=losE p r (prevL f.loans 1) (f.loans.drop 1)):=aF (by rw [HN.out,show prevL f.loans 0=none from rfl,vI hrg hck,bA rfl,HPS.out]);clear HN HPS HQ HRX hrg hck;simp only [Nat.zero_mul,Nat.add_zero] at g0 g1 g2 g3 g4;go_wp2_with (go_at_call 53;refine HC.out.mono ?_;rintro e' w2 ⟨rfl,hw⟩)
   all_goals first
    | (exfalso;omega)
    | skip
   have hS:True:=trivial;refine eM (S:=fun _=>True) (by kernel_rfl) ?_;(iterate 3 (refine dG (v:=?_) (by kernel_rfl) (fun _ _ _ h=>h) (Or.inl ⟨by rfl,?_⟩) hS ?_;rotate_left;(next=>(rintro X _;(try simp only [aJ]);go_simp;rfl));simp only [aJ,Act.put,aK]));(iterate 10 (refine dG (v:=undef) (by kernel_rfl) (fun _ _ _ h=>h) (Or.inr ⟨by rfl,rfl⟩) hS ?_;simp only [aJ,Act.put,aK]));((refine dG (v:=?_) (by kernel_rfl) (fun _ _ _ h=>h) (Or.inl ⟨by rfl,?_⟩) hS ?_;rotate_left;(next=>(rintro X _;(try simp only [aJ]);go_simp;rfl));simp only [aJ,Act.put,aK]))
   refine eW rfl ?_;go_wp2_with fail
   go_roundw
   case rel=>exact ⟨1,by omega,by go_num,aF (HW0.out.trans (hw.mono HW0.out.size)).drew,HF⟩
   case measure=>simp [intOf];omega
  ·obtain ⟨q,hq,z0,z1,-⟩:=HQ.out j rfl
   have HF:Hid (losE p r none f.loans=if xp<=q.pt then 21 else losE p r (prevL f.loans (j+1+1)) (f.loans.drop (j+1+1))):=aF (by
    rw [HN.out,hq,vH hrg hck,HPS.out]
    split <;> simp)
   have HQ1:Hid (∀W,Below W1.heap.size W1 W->W.cell? ⟨b,o+j * 5+1,none⟩=some (.int .i64 q.pt)):=aF (fun W h=>cJ h ((hbW.cell (p:=⟨b,o+j * 5+1,none⟩) hb).trans z1));have HN1:Hid (∀W,Below W1.heap.size W1 W->W.cell? ⟨wr.heap.size,1,none⟩=some (.int .i64 xp)):=aF (fun W h=>cJ h n0p);have HY0:Hid (∀W,Below W1.heap.size W1 W->W.cell? ⟨w.heap.size,0,none⟩=some (.slice (some ⟨b,o,none⟩) f.loans.length c0)):=aF (fun W h=>cJ h (cJ hbW y0));generalize q.pt=qp at HF HQ1;clear HN HPS HQ hrg hck hq z0 z1;have hwk:IntKind.i64.wrap (j:Int)=(j:Int):=by rw [IntKind.wrap_i64];omega
   have hj1:(j:Int)<(f.loans.length:Int):=by omega
   go_wp2_with (go_at_call 53;refine HC.out.mono ?_;rintro e' w2 ⟨rfl,hw⟩)
   all_goals first
    | (exfalso;omega)
    | skip
   have hS:w2.drew.cell? ⟨b,o+j * 5+1,none⟩=some (.int .i64 qp)/\w2.drew.cell? ⟨wr.heap.size,1,none⟩=some (.int .i64 xp)/\w2.drew.cell? ⟨w.heap.size,0,none⟩=some (.slice (some ⟨b,o,none⟩) f.loans.length c0):=⟨HQ1.out _ hw.drew,HN1.out _ hw.drew,HY0.out _ hw.drew⟩;refine eM (S:=fun X=>X.cell? ⟨b,o+j * 5+1,none⟩=some (.int .i64 qp)/\X.cell? ⟨wr.heap.size,1,none⟩=some (.int .i64 xp)/\X.cell? ⟨w.heap.size,0,none⟩=some (.slice (some ⟨b,o,none⟩) f.loans.length c0)) (by kernel_rfl) ?_;(iterate 14 (refine dG (v:=?_) (by kernel_rfl) (fun _ _ _ h=>h) (Or.inl ⟨by rfl,?_⟩) hS ?_;rotate_left;(next=>(rintro X ⟨s1,s2,s3⟩;(try simp only [aJ]);go_simp;rfl));simp only [aJ,Act.put,aK]));refine eW rfl ?_;by_cases hcm:xp<=qp
   ·have HF':Hid (R=21):=aF (by
     have h3:losE p r none f.loans=21:=by rw [HF.out,bA hcm]
     rw [HRX.out (by rw [h3];decide),h3])
    have hd1:decide (xp<=qp)=true:=decide_eq_true hcm;clear HF HRX;go_wp2_with fail
    go_ret;exact ⟨by rw [HF'.out];rfl,(HW.out.trans (hw.mono HW.out.size)).drew⟩
   ·have HF':Hid (losE p r none f.loans=losE p r (prevL f.loans (j+1+1)) (f.loans.drop (j+1+1))):=aF (by rw [HF.out,aZ hcm]);have hd1:decide (xp<=qp)=false:=decide_eq_false hcm;clear HF;go_wp2_with fail
    go_roundw
    case rel=>exact ⟨j+1+1,by omega,by go_num,aF (HW0.out.trans (hw.mono HW0.out.size)).drew,HF'⟩
    case measure=>simp [intOf];omega
end
section
open Go Go.RowKit
theorem xGR (f g:Fct) (h1 h2:FH) (w:World) (H1:FcAt w f h1) (H2:FcAt w g h2):
 Calls Tryz.prog 22 #[.agg (fcC f h1).toArray,.agg (fcC g h2).toArray] w fun e' w'=>e' = .returned (.bool (decide (f=g)))/\Below w.heap.size w w':=by
 obtain ⟨A0,a0,A1,a1,A2,a2,A3,a3,A4,a4⟩:=h1;obtain ⟨B0,b0,B1,b1,B2,b2,B3,b3,B4,b4⟩:=h2;obtain ⟨p0,p1,p2,p3,p4⟩:=H1;obtain ⟨q0,q1,q2,q3,q4⟩:=H2;obtain ⟨fl,fe,fk,fi,fv⟩:=f;obtain ⟨gl,ge,gk,gi,gv⟩:=g;simp only at *;obtain ⟨W,hW⟩:∃W,(w.alloc (.cells #[.slice A0 fl.length a0,.slice A1 fe.length a1,.slice A2 fk.length a2,.slice A3 fi.length a3,.slice A4 fv.length a4] 39)).alloc (.cells #[.slice B0 gl.length b0,.slice B1 ge.length b1,.slice B2 gk.length b2,.slice B3 gi.length b3,.slice B4 gv.length b4] 39)=W:=⟨_,rfl⟩;have hB:Below w.heap.size w W:=by rw [<- hW];exact aH
 have HB:=aF hB;have HWS:Hid (W.heap.size=w.heap.size+1+1):=aF (by rw [<- hW];simp);have Hx0:=aF (show W.cell? ⟨w.heap.size,0,none⟩=some (.slice A0 fl.length a0) from by rw [<- hW];clear hW;go_simp);have Hx1:=aF (show W.cell? ⟨w.heap.size,1,none⟩=some (.slice A1 fe.length a1) from by rw [<- hW];clear hW;go_simp);have Hx2:=aF (show W.cell? ⟨w.heap.size,2,none⟩=some (.slice A2 fk.length a2) from by rw [<- hW];clear hW;go_simp);have Hx3:=aF (show W.cell? ⟨w.heap.size,3,none⟩=some (.slice A3 fi.length a3) from by rw [<- hW];clear hW;go_simp);have Hx4:=aF (show W.cell? ⟨w.heap.size,4,none⟩=some (.slice A4 fv.length a4) from by rw [<- hW];clear hW;go_simp);have Hy0:=aF (show W.cell? ⟨w.heap.size+1,0,none⟩=some (.slice B0 gl.length b0) from by rw [<- hW];clear hW;go_simp);have Hy1:=aF (show W.cell? ⟨w.heap.size+1,1,none⟩=some (.slice B1 ge.length b1) from by rw [<- hW];clear hW;go_simp);have Hy2:=aF (show W.cell? ⟨w.heap.size+1,2,none⟩=some (.slice B2 gk.length b2) from by rw [<- hW];clear hW;go_simp);have Hy3:=aF (show W.cell? ⟨w.heap.size+1,3,none⟩=some (.slice B3 gi.length b3) from by rw [<- hW];clear hW;go_simp);have Hy4:=aF (show W.cell? ⟨w.heap.size+1,4,none⟩=some (.slice B4 gv.length b4) from by rw [<- hW];clear hW;go_simp);have HP1:=aF (fun X (h:Below w.heap.size w X)=>xBW fe ge A1 B1 a1 b1 X (p1.keep RPr.keeps h) (q1.keep RPr.keeps h));have HP2:=aF (fun X (h:Below w.heap.size w X)=>xBW fk gk A2 B2 a2 b2 X (p2.keep RPr.keeps h) (q2.keep RPr.keeps h));have HP3:=aF (fun X (h:Below w.heap.size w X)=>xBW fi gi A3 B3 a3 b3 X (p3.keep RPr.keeps h) (q3.keep RPr.keeps h));have HP4:=aF (fun X (h:Below w.heap.size w X)=>xBW fv gv A4 B4 a4 b4 X (p4.keep RPr.keeps h) (q4.keep RPr.keeps h));have N1:=aF (p0.keep RLn.keeps hB);have N2:=aF (q0.keep RLn.keeps hB);have n1:=p0.le;have n2:=q0.le;have n3:=p0.big;have n4:=q0.big;clear p0 p1 p2 p3 p4 q0 q1 q2 q3 q4 hB;obtain ⟨v1,e1⟩:∃v,decide (fe=ge)=v:=⟨_,rfl⟩;rw [e1] at HP1;obtain ⟨v2,e2⟩:∃v,decide (fk=gk)=v:=⟨_,rfl⟩;rw [e2] at HP2;obtain ⟨v3,e3⟩:∃v,decide (fi=gi)=v:=⟨_,rfl⟩;rw [e3] at HP3;obtain ⟨v4,e4⟩:∃v,decide (fv=gv)=v:=⟨_,rfl⟩;rw [e4] at HP4;obtain ⟨R,hR⟩:∃R,decide ((⟨fl,fe,fk,fi,fv⟩:Fct)=⟨gl,ge,gk,gi,gv⟩)=R:=⟨_,rfl⟩;rw [hR]
 have HR:Hid (R=(decide (fl=gl) && v1 && v2 && v3 && v4)):=aF (by
  rw [<- hR,<- e1,<- e2,<- e3,<- e4,bR];simp only [bQ,decide_eq_true_eq,Fct.mk.injEq];constructor
  ·rintro ⟨a,b,c,d,e⟩;exact ⟨⟨⟨⟨a,b⟩,c⟩,d⟩,e⟩
  ·rintro ⟨⟨⟨⟨a,b⟩,c⟩,d⟩,e⟩;exact ⟨a,b,c,d,e⟩)
 clear hR e1 e2 e3 e4;change Calls _ _ #[.agg #[.slice A0 fl.length a0,.slice A1 fe.length a1,.slice A2 fk.length a2,.slice A3 fi.length a3,.slice A4 fv.length a4],.agg #[.slice B0 gl.length b0,.slice B1 ge.length b1,.slice B2 gk.length b2,.slice B3 gi.length b3,.slice B4 gv.length b4]] _ _;have x0:=Hx0.out;have y0:=Hy0.out;by_cases hl:fl.length=gl.length
 case neg=>
  have e0:((fl.length:Int) != (gl.length:Int))=true:=by simp;omega
  have hne:¬fl=gl:=fun h=>hl (by rw [h])
  have HF:Hid (R=false):=aF (by rw [HR.out];simp [hne]);clear HR;go_enter Tryz.func22,Tryz.ntmps22
  go_wp2_with fail
  go_ret;exact ⟨by rw [HF.out];rfl,HB.out⟩
 have e0:((fl.length:Int) != (gl.length:Int))=false:=by simp;omega
 have HL:=aF hl;clear hl;go_enter Tryz.func22,Tryz.ntmps22
 go_wp2_with fail
 clear hW x0 y0;go_loopw [5] (fun v wr=>∃i:Nat,i<=fl.length/\v = .int .i64 i/\Hid (fl.take i=gl.take i)/\Hid (Below W.heap.size W wr)) (fun v _=>fl.length - (intOf v).toNat)
 case atStart=>exact ⟨0,by omega,rfl,aF rfl,aF (aX _ _)⟩
 case round=>
  obtain ⟨i,hi,rfl,HE,HQ⟩:=hrel;have x0:=cJ HQ.out Hx0.out;have y0:=cJ HQ.out Hy0.out;by_cases hlt:i<fl.length
  case pos=>
   have hlt2:i<gl.length:=by have:=HL.out;omega
   obtain ⟨b,o,rfl,hb,g0,g1,g2,⟨g3,PA,pc,g4,r2,r3,r4⟩⟩:=(N1.out.keep RLn.keeps HQ.out).sl.at_ hlt;obtain ⟨bb,oo,rfl,hbb,f0,f1,f2,⟨f3,PB,pd,f4,s2,s3,s4⟩⟩:=(N2.out.keep RLn.keeps HQ.out).sl.at_ hlt2;have HC:=aF (fun (X:World) (hw:Below wr.heap.size wr X)=>xFE fl[i].place gl[i].place PA PB pc pd X ((show Slc 2 RPj wr PA pc fl[i].place.proj from ⟨r4,r2,r3⟩).keep RPj.keeps hw) ((show Slc 2 RPj wr PB pd gl[i].place.proj from ⟨s4,s2,s3⟩).keep RPj.keeps hw));have HN:=aF (xFR HE.out hlt hlt2);have HD:Hid (fl[i]≠gl[i]->R=false):=aF (fun h=>by rw [HR.out,show decide (fl=gl)=false by simp only [decide_eq_false_iff_not];intro hh;subst hh;exact h rfl];simp);have hsz0:w.heap.size<wr.heap.size:=by have:=HQ.out.size;have:=HWS.out;omega
   have hsz1:w.heap.size+1<wr.heap.size:=by have:=HQ.out.size;have:=HWS.out;omega
   have hQs:=HQ.out.size;have HQS:=aF hQs;clear HE r2 r3 r4 s2 s3 s4 hQs;generalize fl[i]=x at *;generalize gl[i]=y at *;obtain ⟨xr,xp,xm,xl,xj⟩:=x;obtain ⟨yr,yp,ym,yl,yj⟩:=y;simp only at g0 g1 g2 g3 g4 f0 f1 f2 f3 f4 HC;obtain ⟨V,hV⟩:∃V,(wr.alloc (.cells #[.int .i64 xr,.int .i64 xp,.bool xm,.int .i64 xl,.slice PA xj.length pc] 95)).alloc (.cells #[.int .i64 yr,.int .i64 yp,.bool ym,.int .i64 yl,.slice PB yj.length pd] 95)=V:=⟨_,rfl⟩;have HV:=aF (show Below wr.heap.size wr V from by rw [<- hV];exact aH);have HQV:=aF (HQ.out.trans (HV.out.mono HQ.out.size));have c0:V.cell? ⟨wr.heap.size,0,none⟩=some (.int .i64 xr):=by rw [<- hV];clear hV;go_simp
   have c1:V.cell? ⟨wr.heap.size,1,none⟩=some (.int .i64 xp):=by rw [<- hV];clear hV;go_simp
   have c2:V.cell? ⟨wr.heap.size,2,none⟩=some (.bool xm):=by rw [<- hV];clear hV;go_simp
   have c3:V.cell? ⟨wr.heap.size,3,none⟩=some (.int .i64 xl):=by rw [<- hV];clear hV;go_simp
   have c4:V.cell? ⟨wr.heap.size,4,none⟩=some (.slice PA xj.length pc):=by rw [<- hV];clear hV;go_simp
   have d0:V.cell? ⟨wr.heap.size+1,0,none⟩=some (.int .i64 yr):=by rw [<- hV];clear hV;go_simp
   have d1:V.cell? ⟨wr.heap.size+1,1,none⟩=some (.int .i64 yp):=by rw [<- hV];clear hV;go_simp
   have d2:V.cell? ⟨wr.heap.size+1,2,none⟩=some (.bool ym):=by rw [<- hV];clear hV;go_simp
   have d3:V.cell? ⟨wr.heap.size+1,3,none⟩=some (.int .i64 yl):=by rw [<- hV];clear hV;go_simp
   have d4:V.cell? ⟨wr.heap.size+1,4,none⟩=some (.slice PB yj.length pd):=by rw [<- hV];clear hV;go_simp
   by_cases h1:xr=yr
   case neg=>
    have e1:(xr != yr)=true:=by simp [h1]
    have HF:Hid (R=false):=aF (HD.out (fun h=>h1 (by injection h)));clear HD HC HN HR;go_wp2_with fail
    go_ret;exact ⟨by rw [HF.out];rfl,HB.out.trans (HQV.out.mono HB.out.size)⟩
   subst h1;by_cases h2:xp=yp
   case neg=>
    have e1:(xp != yp)=true:=by simp [h2]
    have HF:Hid (R=false):=aF (HD.out (fun h=>h2 (by injection h)));clear HD HC HN HR;go_wp2_with fail
    go_ret;exact ⟨by rw [HF.out];rfl,HB.out.trans (HQV.out.mono HB.out.size)⟩
   subst h2;by_cases h3:xm=ym
   case neg=>
    have HF:Hid (R=false):=aF (HD.out (fun h=>h3 (by injection h)));have hmm:(xm=true/\ym=false)\/(xm=false/\ym=true):=by revert h3;cases xm <;> cases ym <;> simp
    clear HD HC HN HR h3;rcases hmm with ⟨rfl,rfl⟩ | ⟨rfl,rfl⟩
    all_goals
     go_wp2_with fail
     go_ret;exact ⟨by rw [HF.out];rfl,HB.out.trans (HQV.out.mono HB.out.size)⟩
   subst h3;obtain ⟨be,hbe⟩:∃be,decide ((⟨xl,xj⟩:Plc)=⟨yl,yj⟩)=be:=⟨_,rfl⟩;rw [hbe] at HC;have HBE:=aF hbe;clear hbe;cases be
   case false=>
    have HF:Hid (R=false):=aF (HD.out (fun h=>by have h2:=HBE.out;simp only [decide_eq_false_iff_not] at h2;exact h2 (by injection h)));clear HBE HD HN HR;go_wp2_with fail
    first | refine (HC.out _ HV.out).mono ?_ | (go_at_call 63;refine (HC.out _ HV.out).mono ?_)
    rintro e' w3 ⟨rfl,hb3⟩;have HB3:=aF hb3;clear hb3;go_wp2_with fail
    go_ret;exact ⟨by rw [HF.out];rfl,HB.out.trans ((HQV.out.trans (HB3.out.mono HQV.out.size)).mono HB.out.size)⟩
   case true=>
    have HN2:=aF (HN.out (by have h2:=HBE.out;simp only [decide_eq_true_eq] at h2;rw [h2]));clear HBE HD HN HR;go_wp2_with fail
    first | refine (HC.out _ HV.out).mono ?_ | (go_at_call 63;refine (HC.out _ HV.out).mono ?_)
    rintro e' w3 ⟨rfl,hb3⟩;have HB3:=aF hb3;clear hb3;go_wp2_with fail
    go_roundw
    case rel=>exact ⟨i+1,by omega,by go_num,HN2,aF (HQV.out.trans (HB3.out.mono HQV.out.size))⟩
    case measure=>simp [intOf];omega
  case neg=>
   have HG:Hid (fl=gl):=aF (xEK HE.out (by omega) (by have:=HL.out;omega));have HR2:Hid (R=(v1 && v2 && v3 && v4)):=aF (by rw [HR.out,decide_eq_true HG.out];simp);clear HR HG HE;have HW0:=HQ;have x1:=cJ HQ.out Hx1.out;have y1:=cJ HQ.out Hy1.out;have x2:=cJ HQ.out Hx2.out;have y2:=cJ HQ.out Hy2.out;have x3:=cJ HQ.out Hx3.out;have y3:=cJ HQ.out Hy3.out;have x4:=cJ HQ.out Hx4.out;have y4:=cJ HQ.out Hy4.out;have HS0:=aF (HB.out.trans (HQ.out.mono HB.out.size));cases v1
   case false=>
    have HF:Hid (R=false):=aF (by rw [HR2.out];simp);clear HR2;go_wp2_with fail
    first | refine (HP1.out _ HS0.out).mono ?_ | (go_at_call 58;refine (HP1.out _ HS0.out).mono ?_)
    rintro e' w1 ⟨rfl,hb⟩;have HW1:=aF (HW0.out.trans (hb.mono HW0.out.size));have HS1:=aF (HS0.out.trans (hb.mono HS0.out.size));clear hb;replace x2:=cJ HW1.out Hx2.out;replace y2:=cJ HW1.out Hy2.out;replace x3:=cJ HW1.out Hx3.out;replace y3:=cJ HW1.out Hy3.out;replace x4:=cJ HW1.out Hx4.out;replace y4:=cJ HW1.out Hy4.out;go_wp2_with fail
    go_ret;exact ⟨by rw [HF.out];rfl,HS1.out⟩
   cases v2
   case false=>
    have HF:Hid (R=false):=aF (by rw [HR2.out];simp);clear HR2;go_wp2_with fail
    first | refine (HP1.out _ HS0.out).mono ?_ | (go_at_call 58;refine (HP1.out _ HS0.out).mono ?_)
    rintro e' w1 ⟨rfl,hb⟩;have HW1:=aF (HW0.out.trans (hb.mono HW0.out.size));have HS1:=aF (HS0.out.trans (hb.mono HS0.out.size));clear hb;replace x2:=cJ HW1.out Hx2.out;replace y2:=cJ HW1.out Hy2.out;replace x3:=cJ HW1.out Hx3.out;replace y3:=cJ HW1.out Hy3.out;replace x4:=cJ HW1.out Hx4.out;replace y4:=cJ HW1.out Hy4.out;go_wp2_with fail
    first | refine (HP2.out _ HS1.out).mono ?_ | (go_at_call 58;refine (HP2.out _ HS1.out).mono ?_)
    rintro e' w2 ⟨rfl,hb⟩;have HW2:=aF (HW1.out.trans (hb.mono HW1.out.size));have HS2:=aF (HS1.out.trans (hb.mono HS1.out.size));clear hb;replace x3:=cJ HW2.out Hx3.out;replace y3:=cJ HW2.out Hy3.out;replace x4:=cJ HW2.out Hx4.out;replace y4:=cJ HW2.out Hy4.out;go_wp2_with fail
    go_ret;exact ⟨by rw [HF.out];rfl,HS2.out⟩
   cases v3
   case false=>
    have HF:Hid (R=false):=aF (by rw [HR2.out];simp);clear HR2;go_wp2_with fail
    first | refine (HP1.out _ HS0.out).mono ?_ | (go_at_call 58;refine (HP1.out _ HS0.out).mono ?_)
    rintro e' w1 ⟨rfl,hb⟩;have HW1:=aF (HW0.out.trans (hb.mono HW0.out.size));have HS1:=aF (HS0.out.trans (hb.mono HS0.out.size));clear hb;replace x2:=cJ HW1.out Hx2.out;replace y2:=cJ HW1.out Hy2.out;replace x3:=cJ HW1.out Hx3.out;replace y3:=cJ HW1.out Hy3.out;replace x4:=cJ HW1.out Hx4.out;replace y4:=cJ HW1.out Hy4.out;go_wp2_with fail
    first | refine (HP2.out _ HS1.out).mono ?_ | (go_at_call 58;refine (HP2.out _ HS1.out).mono ?_)
    rintro e' w2 ⟨rfl,hb⟩;have HW2:=aF (HW1.out.trans (hb.mono HW1.out.size));have HS2:=aF (HS1.out.trans (hb.mono HS1.out.size));clear hb;replace x3:=cJ HW2.out Hx3.out;replace y3:=cJ HW2.out Hy3.out;replace x4:=cJ HW2.out Hx4.out;replace y4:=cJ HW2.out Hy4.out;go_wp2_with fail
    first | refine (HP3.out _ HS2.out).mono ?_ | (go_at_call 58;refine (HP3.out _ HS2.out).mono ?_)
    rintro e' w3 ⟨rfl,hb⟩;have HW3:=aF (HW2.out.trans (hb.mono HW2.out.size));have HS3:=aF (HS2.out.trans (hb.mono HS2.out.size));clear hb;replace x4:=cJ HW3.out Hx4.out;replace y4:=cJ HW3.out Hy4.out;go_wp2_with fail
    go_ret;exact ⟨by rw [HF.out];rfl,HS3.out⟩
   have HF:Hid (R=v4):=aF (by rw [HR2.out];simp);clear HR2;go_wp2_with fail
   first | refine (HP1.out _ HS0.out).mono ?_ | (go_at_call 58;refine (HP1.out _ HS0.out).mono ?_)
   rintro e' w1 ⟨rfl,hb⟩;have HW1:=aF (HW0.out.trans (hb.mono HW0.out.size));have HS1:=aF (HS0.out.trans (hb.mono HS0.out.size));clear hb;replace x2:=cJ HW1.out Hx2.out;replace y2:=cJ HW1.out Hy2.out;replace x3:=cJ HW1.out Hx3.out;replace y3:=cJ HW1.out Hy3.out;replace x4:=cJ HW1.out Hx4.out;replace y4:=cJ HW1.out Hy4.out;go_wp2_with fail
   first | refine (HP2.out _ HS1.out).mono ?_ | (go_at_call 58;refine (HP2.out _ HS1.out).mono ?_)
   rintro e' w2 ⟨rfl,hb⟩;have HW2:=aF (HW1.out.trans (hb.mono HW1.out.size));have HS2:=aF (HS1.out.trans (hb.mono HS1.out.size));clear hb;replace x3:=cJ HW2.out Hx3.out;replace y3:=cJ HW2.out Hy3.out;replace x4:=cJ HW2.out Hx4.out;replace y4:=cJ HW2.out Hy4.out;go_wp2_with fail
   first | refine (HP3.out _ HS2.out).mono ?_ | (go_at_call 58;refine (HP3.out _ HS2.out).mono ?_)
   rintro e' w3 ⟨rfl,hb⟩;have HW3:=aF (HW2.out.trans (hb.mono HW2.out.size));have HS3:=aF (HS2.out.trans (hb.mono HS2.out.size));clear hb;replace x4:=cJ HW3.out Hx4.out;replace y4:=cJ HW3.out Hy4.out;go_wp2_with fail
   first | refine (HP4.out _ HS3.out).mono ?_ | (go_at_call 58;refine (HP4.out _ HS3.out).mono ?_)
   rintro e' w4 ⟨rfl,hb⟩;have HW4:=aF (HW3.out.trans (hb.mono HW3.out.size));have HS4:=aF (HS3.out.trans (hb.mono HS3.out.size));clear hb;go_wp2_with fail
   go_ret;exact ⟨by rw [HF.out];rfl,HS4.out⟩
end
section
open Go Go.ChangeShapes Go.WideShapes Go.ChangeAt Go.RowKit Go.Joins Go.Deep
variable {H:Type} {enc:TypeId × Value->H} {w:World} {base:Nat} {spare:Nat->Bool} {held:Bool}
def FitLn (l:Ln):Prop:=fitN l.pt/\∀x∈l.place.proj,fitJ x
theorem xIF:Opn enc w base spare held 95 5 (RZ RLn FitLn):=fun b o n cs y hl hc h=>by
 obtain ⟨x0,h0⟩:=cW (R:=RZ RInt fitN) Tryz.underlying95 h hl hc 0 rfl 0 1 rfl (by kernel_rfl) (by omega) dK;obtain ⟨x1,h1⟩:=cW (R:=RZ RInt fitN) Tryz.underlying95 h hl hc 1 rfl 1 1 rfl (by kernel_rfl) (by omega) dK;obtain ⟨x2,h2⟩:=cW (R:=RBool) Tryz.underlying95 h hl hc 2 rfl 2 1 rfl (by kernel_rfl) (by omega) nZ;obtain ⟨x3,h3⟩:=cW (R:=RZ RPl FitP) Tryz.underlying95 h hl hc 3 rfl 3 2 rfl (by kernel_rfl) (by omega) nY;exact ⟨⟨x0,x1,x2,x3⟩,⟨h0.1,h1.1,h2,h3.1⟩,⟨h1.2,h3.2⟩⟩
theorem xDE {r:Reach} {b0:Nat} {v:Value} {d:DataW H} {p:List MemPlace} (hv:Value.okWide Tryz.prog w r b0 39 v) (h:DataW.Trod enc Tryz.prog w base spare held 39 v d p):
 ∃f fh,v = .agg (fcC f fh).toArray/\FcAt w f fh/\FitF f:=by
 obtain ⟨cs,rfl,hcs⟩:=okWide_struct Tryz.underlying39 hv;have hc5:cs.size=5:=hcs.trans (by kernel_rfl);obtain ⟨fuel,hf⟩:=h;have hl:(Value.agg cs).cells.toList.length=5:=by simpa [Value.cells] using hc5
 have hg:∀i:Nat,(Value.agg cs).cells.toList[i]?=cs[i]?:=fun i=>by simp only [Value.cells];exact Array.getElem?_toList ..
 have F:=fun (j:Nat) (f:Field) hj=>lV (j:=j) (f:=f) Tryz.underlying39 (by kernel_rfl) hf hl hj
 obtain ⟨v0,m0,y0,e0,g0⟩:=F 0 _ rfl;obtain ⟨v1,m1,y1,e1,g1⟩:=F 1 _ rfl;obtain ⟨v2,m2,y2,e2,g2⟩:=F 2 _ rfl;obtain ⟨v3,m3,y3,e3,g3⟩:=F 3 _ rfl;obtain ⟨v4,m4,y4,e4,g4⟩:=F 4 _ rfl;clear F;rw [hg] at e0 e1 e2 e3 e4;obtain ⟨A0,c0,ln,rfl,s0⟩:=iT Tryz.underlying37 (by kernel_rfl) (by omega) xIF g0;obtain ⟨A1,c1,ed,rfl,s1⟩:=iT Tryz.underlying23 (by kernel_rfl) (by omega) zI g1;obtain ⟨A2,c2,ki,rfl,s2⟩:=iT Tryz.underlying23 (by kernel_rfl) (by omega) zI g2;obtain ⟨A3,c3,iv,rfl,s3⟩:=iT Tryz.underlying23 (by kernel_rfl) (by omega) zI g3;obtain ⟨A4,c4,li,rfl,s4⟩:=iT Tryz.underlying23 (by kernel_rfl) (by omega) zI g4;obtain ⟨s0,z0⟩:=gC s0;obtain ⟨s1,z1⟩:=gC s1;obtain ⟨s2,z2⟩:=gC s2;obtain ⟨s3,z3⟩:=gC s3;obtain ⟨s4,z4⟩:=gC s4;refine ⟨⟨ln,ed,ki,iv,li⟩,⟨A0,c0,A1,c1,A2,c2,A3,c3,A4,c4⟩,?_,⟨s0,s1,s2,s3,s4⟩,⟨fun l hl=>(z0 l hl).1,fun l hl=>(z0 l hl).2,z1,z2,z3,z4⟩⟩;congr 1
 apply Array.ext
 ·rw [hc5];rfl
 ·intro i h1 h2;have hi:i<5:=by omega
  rcases (show i=0\/i=1\/i=2\/i=3\/i=4 by omega) with rfl | rfl | rfl | rfl | rfl
  all_goals (apply Option.some.inj;rw [<- Array.getElem?_eq_getElem h1];first | (rw [e0];rfl) | (rw [e1];rfl) | (rw [e2];rfl) | (rw [e3];rfl) | (rw [e4];rfl))
end
section
open Go Go.RowKit
attribute [local irreducible] Calls
theorem xCF (f:Fct) (fh:FH) (w:World) (H:FcAt w f fh):
 Calls Tryz.prog 12 #[.agg (fcC f fh).toArray] w fun e' w'=>(∃q:Int,e' = .returned (.int .i64 q))/\Below w.heap.size w w':=by
 obtain ⟨B0,d0,B1,d1,B2,d2,B3,d3,B4,d4⟩:=fh;have HL:=aF H.ln;have l0:=H.ln.le;have m0:=H.ln.big;simp only at l0 m0 HL;obtain ⟨W0,hW0⟩:∃W,w.alloc (.cells ([Value.slice B0 f.loans.length d0,.slice B1 f.edges.length d1,.slice B2 f.killed.length d2,.slice B3 f.inval.length d3,.slice B4 f.live.length d4]).toArray 39)=W:=⟨_,rfl⟩;have hb0:Below w.heap.size w W0:=by rw [<- hW0];exact (aX _ _).alloc (aY _) _
 have HB0:=aF hb0;have hcx:=cP w [Value.slice B0 f.loans.length d0,.slice B1 f.edges.length d1,.slice B2 f.killed.length d2,.slice B3 f.inval.length d3,.slice B4 f.live.length d4] 39;rw [hW0] at hcx;have x0:=hcx 0 _ rfl;have x1:=hcx 1 _ rfl;have x2:=hcx 2 _ rfl;have x3:=hcx 3 _ rfl;have x4:=hcx 4 _ rfl;clear hcx hb0 H;unfold fcC;simp only;go_enter Tryz.func12,Tryz.ntmps12
 go_upto_region 1 with fail
 go_cut [3] (fun m wx=>(∃z:Int,m = .int .i64 z)/\wx=W0)
 case first=>
  go_wp2_with fail
  go_meet;exact ⟨⟨_,rfl⟩,rfl⟩
 case rest=>
 obtain ⟨⟨z0,rfl⟩,hwc⟩:=hcut;rw [hwc];clear hwc x1 x2 x3 x4;by_cases hz1:2000<z0
 case pos=>
  go_wp2_with fail
  go_ret;exact ⟨⟨_,rfl⟩,HB0.out⟩
 case neg=>
 by_cases hz2:(200:Int)<f.loans.length
 case pos=>
  go_wp2_with fail
  go_ret;exact ⟨⟨_,rfl⟩,HB0.out⟩
 case neg=>
 go_wp2_with fail
 go_loopw [3,32] (fun m i wr=>∃(k:Nat) (z:Int),k<=f.loans.length/\m = .int .i64 z/\i = .int .i64 k/\Hid (Below w.heap.size w wr)) (fun _ i _=>f.loans.length - (intOf i).toNat)
 case atStart=>exact ⟨0,_,by omega,rfl,rfl,HB0⟩
 case round=>
  obtain ⟨k,z,hk,rfl,rfl,HB⟩:=hrel;by_cases hlt:k<f.loans.length
  ·obtain ⟨bb,oo,rfl,hbb,hx⟩:=(HL.out.keep RLn.keeps HB.out).sl.at_ hlt;generalize f.loans[k]=x at *;obtain ⟨g0,g1,g2,g3,PA,pc,g4,p1,p2,p3⟩:=hx;obtain ⟨xr,xp,xm,xl,xj⟩:=x;simp only at g0 g1 g2 g3 g4;have hsz:=HB.out.size;clear p3 x0;go_wp2_with fail
   all_goals first
    | (go_ret;exact ⟨⟨_,rfl⟩,HB.out.alloc (by omega) _⟩)
    | (go_roundw
       case rel=>exact ⟨k+1,_,by omega,rfl,by go_num,aF (HB.out.alloc (by omega) _)⟩
       case measure=>simp [intOf];omega)
  ·go_wp2_with fail
   all_goals first
    | (exfalso;omega)
    | (go_ret;exact ⟨⟨_,rfl⟩,HB.out⟩)
theorem xDD {b:Bdy} {f:Fct} (hc:chkB b=0) (hz:fctE f (cntP b.blocks) b.regions.length=0) (hf:FitF f):(printF b f).length<=100000000000000:=by
 have O:=wS hc;have hr:=O.rs.all;have hl:=O.ls.all;have e0:=xGE O.name;have K:=yH hz
 have hb:¬fcBig f:=fun h=>by
  unfold fctE at hz;rw [bA h] at hz;cases hz
 unfold fcBig at hb
 have pr:∀(wd:List UInt8) (l:List (Int × Int)),wd.length<=10->(∀x∈l,fitN x.1/\fitN x.2)->(l.flatMap (prLine wd)).length<=100 * l.length:=fun wd l hw hx=>lU (fun x hm=>by
  have h1:=wT (hx x hm).1;have h2:=wT (hx x hm).2;unfold prLine prP semP
  simp only [bB,bK,bP];omega)
 have e1:=lU (f:=oH b.locals b.regions) (k:=2000) (l:=f.loans) (fun x hx=>by
  have h1:=xHE hr x.reg;have h2:=xIE hl (p:=x.place) (jW (K.ln x hx).2.2.2).2 (hf.pj x hx);have h3:=wT (hf.pt x hx);have h4:(mutP x.mu).length<=4:=by cases x.mu <;> simp [mutP]
  unfold oH lnP semP
  simp only [bB,bK,bP];omega)
 have e2:=pr wEdge f.edges (by decide) hf.ed;have e3:=pr wKill f.killed (by decide) hf.ki;have e4:=pr wInv f.inval (by decide) hf.iv
 have e5:=lU (f:=oE b.regions) (k:=400) (l:=f.live) (fun x hx=>by
  have h1:=xHE hr x.1;have h2:=wT (hf.li x hx).2;unfold oE lvP semP
  simp only [bB,bK,bP];omega)
 have e6:wFacts.length=5:=rfl;unfold printF headP;simp only [bB,bK,bP];omega
end
end Go.Proofs.YtmknfbfppmkcfaaGreatDoor
