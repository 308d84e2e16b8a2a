/-
  Parts of the proof: V71 KS.
-/
import Derived.Test.YtcfchohkmkilpaaGreatDoorLP0
import Derived.Test.YtcfchohkmkilpaaGreatDoorLP18
import Derived.Test.YtcfchohkmkilpaaGreatDoorLP24
import Derived.Test.YtcfchohkmkilpaaGreatDoorLP16
import Derived.Test.YtcfchohkmkilpaaGreatDoorLP21
import Derived.Test.YtcfchohkmkilpaaGreatDoorLP9
import Derived.Test.YtcfchohkmkilpaaGreatDoorLP12
namespace Go.Proofs.YtcfchohkmkilpaaGreatDoor
set_option maxRecDepth 100000
set_option maxHeartbeats 16000000
section
open Go Go.RowKit Go.Maps
theorem blk7v {w:World} {k:Nat} {a b c d e f z:Value} {t:TypeId} (h:w.heap[k]?=some (.cells #[a,b,c,d,e,f,z] t (0,0))):
 w.cell? ⟨k,0,none⟩=some a/\w.cell? ⟨k,1,none⟩=some b/\w.cell? ⟨k,2,none⟩=some c/\w.cell? ⟨k,3,none⟩=some d/\w.cell? ⟨k,4,none⟩=some e/\w.cell? ⟨k,5,none⟩=some f/\w.cell? ⟨k,6,none⟩=some z/\(∀i,w.frozen? ⟨k,i,none⟩=false):=
 ⟨by rw [cell_of_row w _ 0 _ _ _ h];rfl,by rw [cell_of_row w _ 1 _ _ _ h];rfl,by rw [cell_of_row w _ 2 _ _ _ h];rfl,by rw [cell_of_row w _ 3 _ _ _ h];rfl,by rw [cell_of_row w _ 4 _ _ _ h];rfl,by rw [cell_of_row w _ 5 _ _ _ h];rfl,by rw [cell_of_row w _ 6 _ _ _ h];rfl,fun i=>by simp [World.frozen?,h]⟩
theorem pX (b:Bdy) (bh:BH) (w:World) (H:BdAt w b bh) (hz:NmOk b):
 Calls Tryz.prog 33 #[.agg (bdC b bh).toArray] w fun e' w'=>e' = .returned (.int .i64 (chkB b))/\Below w.heap.size w w':=
 pV b bh w H hz.blks (fun W hb=>vU b bh W (H.keep hb) hz)
  (fun hd _ hb s A0 A B c0 c d h0 h1 h2=>xCY ⟨H.keep hb,eN hd⟩ s A0 A B c0 c d (h0.keep RPj.keeps hb) (h1.keep RPj.keeps hb) (h2.keep ROp.keeps hb))
  (fun hd _ hb t A B C c d f h0 h1 h2 h3=>vN ⟨H.keep hb,eN hd⟩ t A B C c d f (h0.keep RInt.keeps hb) (h1.keep ROp.keeps hb) (h2.keep RPj.keeps hb) h3)
theorem uW (ts:List Ty) (A:Option Addr) (c:Nat) (w:World) (hs:Slc 5 RTy w A c ts):
 Calls Tryz.prog 41 #[.slice A ts.length c] w fun e' w'=>(∃q,e' = .returned (.int .i64 q)/\(q<=0->ts.length<=200))/\Below w.heap.size w w':=by
 have HL:=aF (wT ts A c w hs);have HW:=aF (fun W (hb:Below w.heap.size w W) (hl:ts.length<=200)=>yJ ts A c W (hs.keep RTy.keeps hb) hl);clear hs;obtain ⟨n,hn⟩:∃n,ts.length=n:=⟨_,rfl⟩;rw [hn] at HL HW ⊢;go_enter Tryz.func41,Tryz.ntmps41
 go_wp2_with (first | (go_at_call 70;refine (HW.out _ HB.out (HQ.out (by omega))).mono ?_;rintro e' w2 ⟨⟨q2,rfl⟩,hb2⟩;have HB2:=aF (HB.out.trans (hb2.mono HB.out.size));clear hb2;cases q2) | (go_at_call 69;refine HL.out.mono ?_;rintro e' w1 ⟨⟨q,rfl,hq⟩,hb⟩;have HB:=aF hb;have HQ:=aF hq;clear hb hq))
 all_goals
  go_ret
  first
   | exact ⟨⟨_,rfl,fun h=>absurd h (by omega)⟩,HB2.out⟩
   | exact ⟨⟨_,rfl,fun h=>absurd h (by omega)⟩,HB.out⟩
   | exact ⟨⟨_,rfl,fun _=>HQ.out (by omega)⟩,HB2.out⟩
structure NotSkip (b:Bdy):Prop where
 nm:ShortB b->namesZ b<=3000
 typ:b.types.length<=200
 out:b.outl.length<=200
 reg:b.regions.length<=200
 blk:b.blocks.length<=200
theorem zJ (b:Bdy) (bh:BH) (w:World) (H:BdAt w b bh) (hz:NmOk b):
 Calls Tryz.prog 16 #[.agg (bdC b bh).toArray] w fun e' w'=>(∃q:Int,e' = .returned (.int .i64 q)/\(q<=0->NotSkip b))/\Below w.heap.size w w':=by
 obtain ⟨A1,c1,A2,c2,A3,c3,A4,c4,A5,c5⟩:=bh;have r1:=H.reg.le;have r2:=H.reg.big;have o1:=H.out.le;have o2:=H.out.big;have t1:=H.typ.le;have t2:=H.typ.big;have b1:=H.blk.le;have b2:=H.blk.big;simp only at r1 r2 o1 o2 t1 t2 b1 b2;have HL:Hid (∀W,Below w.heap.size w W->Calls Tryz.prog 40 #[.agg #[Value.string b.name,.slice A1 b.regions.length c1,.slice A2 b.outl.length c2,.slice A3 b.types.length c3,.slice A4 b.locals.length c4,.int .i64 b.args,.slice A5 b.blocks.length c5]] W fun e' w'=>(∃q:Int,e' = .returned (.int .i64 q)/\(q<=0->ShortB b->namesZ b<=3000))/\Below W.heap.size W w'):=aF (fun W hb=>nX b ⟨A1,c1,A2,c2,A3,c3,A4,c4,A5,c5⟩ W (H.keep hb) hz);have HT:=aF (fun W hb=>uW b.types A3 c3 W (H.typ.keep RTy.keeps hb));have HK:=aF (fun W hb=>jU b.types (b.regions.length:Int) A3 c3 W (H.typ.keep RTy.keeps hb));have HD:=aF (fun W hb i hi h64 hok=>tU b.types i A3 c3 W (H.typ.keep RTy.keeps hb) hi h64 hok);have HOK:=aF (fun h=>sU (n:=(b.regions.length:Int)) (ts:=b.types) h);clear H;unfold bdC;simp only;obtain ⟨W,hW⟩:∃W,w.alloc (.cells #[Value.string b.name,.slice A1 b.regions.length c1,.slice A2 b.outl.length c2,.slice A3 b.types.length c3,.slice A4 b.locals.length c4,.int .i64 b.args,.slice A5 b.blocks.length c5] 28)=W:=⟨_,rfl⟩;have HC0:Hid (aA (bdM b A1 c1 A2 c2 A3 c3 A4 c4 A5 c5 []) W w.heap.size):=aF (by rw [<- hW];exact cQ w [Value.string b.name,.slice A1 b.regions.length c1,.slice A2 b.outl.length c2,.slice A3 b.types.length c3,.slice A4 b.locals.length c4,.int .i64 b.args,.slice A5 b.blocks.length c5] 28);have HB0:Hid (Below w.heap.size w W):=aF (by rw [<- hW];exact alF _ _);have HK7:Hid (W.heap[w.heap.size]?=some (.cells #[Value.string b.name,.slice A1 b.regions.length c1,.slice A2 b.outl.length c2,.slice A3 b.types.length c3,.slice A4 b.locals.length c4,.int .i64 b.args,.slice A5 b.blocks.length c5] 28 (0,0))):=aF (by rw [<- hW];exact heap_alloc_new w _);obtain ⟨x0,x1,x2,x3,x4,x5,x6,_⟩:=blk7v HK7.out;change Calls _ _ #[.agg #[Value.string b.name,.slice A1 b.regions.length c1,.slice A2 b.outl.length c2,.slice A3 b.types.length c3,.slice A4 b.locals.length c4,.int .i64 b.args,.slice A5 b.blocks.length c5]] _ _;go_enter Tryz.func16,Tryz.ntmps16
 go_wp2_with fail
 go_at_call 40
 refine (HL.out W HB0.out).mono ?_;rintro e' w1 ⟨⟨q,rfl,hq⟩,hb⟩;have HCC:=aF (cP HC0.out hb);have HB:=aF (keep0 hb HB0.out);have HQ:=aF hq;clear hb hq HC0 HB0 HL x0 x1 x2 x3 x4 x5 x6;by_cases hq1:0<q
 ·go_wp2_with fail
  all_goals (go_ret;exact ⟨⟨_,rfl,fun h=>absurd h (by omega)⟩,HB.out⟩)
 have hq2:q<=0:=by omega
 have HN:=aF (HQ.out hq2);obtain ⟨y0,y1,y2,y3,y4,y5,y6⟩:=aS HCC.out;go_wp2_with fail
 go_at_call 41
 refine (HT.out w1 HB.out).mono ?_;rintro e' w2 ⟨⟨p,rfl,hp⟩,hb⟩;replace HCC:=aF (cP HCC.out hb);replace HB:=aF (keep0 hb HB.out);have HP:=aF hp;clear hb hp HT HQ hq1 y0 y1 y2 y3 y4 y5 y6;by_cases hq1:0<p
 ·go_wp2_with fail
  all_goals (go_ret;exact ⟨⟨_,rfl,fun h=>absurd h (by omega)⟩,HB.out⟩)
 have hp2:p<=0:=by omega
 have HTL:=aF (HP.out hp2);obtain ⟨y0,y1,y2,y3,y4,y5,y6⟩:=aS HCC.out;by_cases g1:200<b.outl.length
 ·go_wp2_with fail
  all_goals (go_ret;exact ⟨⟨_,rfl,fun h=>absurd h (by omega)⟩,HB.out⟩)
 by_cases g2:200<b.regions.length
 ·go_wp2_with fail
  all_goals (go_ret;exact ⟨⟨_,rfl,fun h=>absurd h (by omega)⟩,HB.out⟩)
 by_cases g3:200<b.blocks.length
 ·go_wp2_with fail
  all_goals (go_ret;exact ⟨⟨_,rfl,fun h=>absurd h (by omega)⟩,HB.out⟩)
 have HNS:Hid (NotSkip b):=aF ⟨HN.out,HTL.out,by omega,by omega,by omega⟩;go_wp2_with fail
 go_at_call 42
 refine (HK.out w2 HB.out).mono ?_;rintro e' w3 ⟨rfl,hb⟩;replace HCC:=aF (cP HCC.out hb);replace HB:=aF (keep0 hb HB.out);clear hb y0 y1 y2 y3 y4 y5 y6;by_cases hty:typesC (b.regions.length:Int) b.types=0
 case neg=>
  generalize typesC (b.regions.length:Int) b.types=ty at *;go_wp2_with fail
  all_goals (go_ret;exact ⟨⟨_,rfl,fun _=>HNS.out⟩,HB.out⟩)
 rw [hty];have HDP:=aF (HOK.out hty);have HTL2:=HTL.out;clear hty HK HOK;obtain ⟨y0,y1,y2,y3,y4,y5,y6⟩:=aS HCC.out;go_wp2_with fail
 clear y0 y1 y2 y3 y4 y5 y6;go_loopw [41] (fun i wr=>∃k:Nat,k<=b.types.length/\i = .int .i64 k/\Hid (aA (bdM b A1 c1 A2 c2 A3 c3 A4 c4 A5 c5 []) wr w.heap.size)/\Hid (Below w.heap.size w wr)) (fun i _=>b.types.length - (intOf i).toNat)
 case atStart=>exact ⟨0,by omega,rfl,HCC,HB⟩
 case round=>
  clear HCC HB;obtain ⟨k,hk,rfl,HCC,HB⟩:=hrel;by_cases hlt:k<b.types.length
  ·obtain ⟨y0,y1,y2,y3,y4,y5,y6⟩:=aS HCC.out;go_wp2_with fail
   go_at_call 43
   refine (HD.out wr HB.out k hlt (by omega) HDP.out).mono ?_;rintro e' w4 ⟨⟨d,rfl⟩,hb⟩;have HC4:=aF (cP HCC.out hb);have HB4:=aF (keep0 hb HB.out);clear hb;by_cases hd:8<d
   ·go_wp2_with fail
    go_ret;exact ⟨⟨_,rfl,fun h=>absurd h (by omega)⟩,HB4.out⟩
   ·go_wp2_with fail
    go_roundw
    case rel=>exact ⟨k+1,by omega,by go_num,HC4,HB4⟩
    case measure=>simp [intOf];omega
  ·go_wp2_with fail
   go_ret;exact ⟨⟨_,rfl,fun _=>HNS.out⟩,HB.out⟩
end
section
open Go Go.RowKit
attribute [local irreducible] Calls
structure Ok12 (b:Bdy):Prop where
 ns:NotSkip b
 chk:chkB b=0
 cnt:cntB b.blocks<=60
 loc:b.locals.length<=20
 reg:b.regions.length<=10
theorem xN {b:Bdy} (h:chkB b=0) (hb:b.blocks.length<=200):cntB b.blocks<=13107200:=by
 rw [<- fR];have S:=xR h;have h1:=xDX (l:=b.blocks) (m:=65535) (fun x hx=>(S.blks x hx).1);omega
theorem oO (b:Bdy) (bh:BH) (w:World) (H:BdAt w b bh) (hz:NmOk b):
 Calls Tryz.prog 9 #[.agg (bdC b bh).toArray] w fun e' w'=>(∃q:Int,e' = .returned (.int .i64 q)/\(q<=0->Ok12 b))/\Below w.heap.size w w':=by
 have HSK:=aF (fun (W:World) (hb:Below w.heap.size w W)=>zJ b bh W (H.keep hb) hz);have HCK:=aF (fun (W:World) (hb:Below w.heap.size w W)=>pX b bh W (H.keep hb) hz);have HRC:=aF (fun (W:World) (hb:Below w.heap.size w W)=>rcount_any' b bh W (H.keep hb));have n1:=H.loc.le;have n2:=H.loc.big;have n3:=H.reg.le;have n4:=H.reg.big;obtain ⟨A1,c1,A2,c2,A3,c3,A4,c4,A5,c5⟩:=bh;unfold bdC at *;simp only at *;obtain ⟨W0,hW0⟩:∃W,w.alloc (.cells ([Value.string b.name,.slice A1 b.regions.length c1,.slice A2 b.outl.length c2,.slice A3 b.types.length c3,.slice A4 b.locals.length c4,.int .i64 b.args,.slice A5 b.blocks.length c5]).toArray 28)=W:=⟨_,rfl⟩;have hb0:Below w.heap.size w W0:=by rw [<- hW0];exact (aX _ _).alloc (aY _) _
 have HB0:=aF hb0;have hcx:=cQ w [Value.string b.name,.slice A1 b.regions.length c1,.slice A2 b.outl.length c2,.slice A3 b.types.length c3,.slice A4 b.locals.length c4,.int .i64 b.args,.slice A5 b.blocks.length c5] 28;rw [hW0] at hcx;have HX:=aF (fun (W:World) (hb:Below W0.heap.size W0 W) i v h=>cO hb (hcx i v h));clear hcx hb0 H hz;have hX:=HX.out W0 (aX _ _);obtain ⟨y0,y1,y2,y3,y4,y5,y6⟩:=aS hX;clear hX;go_enter Tryz.func9,Tryz.ntmps9
 go_wp2_with fail
 first | refine (HSK.out _ HB0.out).mono ?_ | (go_at_call 16;refine (HSK.out _ HB0.out).mono ?_)
 rintro e' w1 ⟨⟨q,rfl,hq⟩,hw1⟩;clear y0 y1 y2 y3 y4 y5 y6;have hX:=HX.out w1 hw1;obtain ⟨y0,y1,y2,y3,y4,y5,y6⟩:=aS hX;clear hX;have HW1:=aF hw1;have HB1:=aF (HB0.out.trans (hw1.mono HB0.out.size));clear hw1;by_cases hq0:0<q
 case pos=>
  clear hq;go_wp2_with fail
  go_ret;exact ⟨⟨1,rfl,fun h=>absurd h (by decide)⟩,HB1.out⟩
 have HN:=aF (hq (by omega));clear hq;go_wp2_with fail
 first | refine (HRC.out _ HB1.out).mono ?_ | (go_at_call 17;refine (HRC.out _ HB1.out).mono ?_)
 rintro e' w2 ⟨⟨p,rfl,HPC⟩,hw2⟩;clear y0 y1 y2 y3 y4 y5 y6;have HW2:=aF (HW1.out.trans (hw2.mono HW1.out.size));have hX:=HX.out w2 HW2.out;obtain ⟨y0,y1,y2,y3,y4,y5,y6⟩:=aS hX;clear hX;have HB2:=aF (HB1.out.trans (hw2.mono HB1.out.size));clear hw2;by_cases h1:(60:Int)<p
 case pos=>
  go_wp2_with fail
  go_ret;exact ⟨⟨1,rfl,fun h=>absurd h (by decide)⟩,HB2.out⟩
 by_cases h2:(20:Int)<b.locals.length
 case pos=>
  go_wp2_with fail
  go_ret;exact ⟨⟨1,rfl,fun h=>absurd h (by decide)⟩,HB2.out⟩
 by_cases h3:(10:Int)<b.regions.length
 case pos=>
  go_wp2_with fail
  go_ret;exact ⟨⟨1,rfl,fun h=>absurd h (by decide)⟩,HB2.out⟩
 by_cases hc:chkB b=0
 case neg=>
  have e0:(chkB b != 0)=true:=by simp [hc]
  go_wp2_with fail
  first | refine (HCK.out _ HB2.out).mono ?_ | (go_at_call 33;refine (HCK.out _ HB2.out).mono ?_)
  rintro e' w3 ⟨rfl,hw3⟩;go_wp2_with fail
  go_ret;exact ⟨⟨1,rfl,fun h=>absurd h (by decide)⟩,HB2.out.trans (hw3.mono HB2.out.size)⟩
 have HF:=aF hc;rw [hc] at HCK;clear hc;go_wp2_with fail
 first | refine (HCK.out _ HB2.out).mono ?_ | (go_at_call 33;refine (HCK.out _ HB2.out).mono ?_)
 rintro e' w3 ⟨rfl,hw3⟩;go_wp2_with fail
 go_ret
 exact ⟨⟨0,rfl,fun _=>⟨HN.out,HF.out,by
  have h1:=xN HF.out HN.out.blk;have h2:=HPC.out (by rw [fR];omega);rw [fR] at h2
  omega,by omega,by omega⟩⟩,HB2.out.trans (hw3.mono HB2.out.size)⟩
end
end Go.Proofs.YtcfchohkmkilpaaGreatDoor
