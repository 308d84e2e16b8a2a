/-
  Parts of the proof: V71.
-/
import Derived.Test.YtmknfbfppmkcfaaGreatDoorPI0
import Derived.Test.YtmknfbfppmkcfaaGreatDoorPI20
import Derived.Test.YtmknfbfppmkcfaaGreatDoorPI26
import Derived.Test.YtmknfbfppmkcfaaGreatDoorPI16
import Derived.Test.YtmknfbfppmkcfaaGreatDoorPI9
import Derived.Test.YtmknfbfppmkcfaaGreatDoorPI5
namespace Go.Proofs.YtmknfbfppmkcfaaGreatDoor
set_option maxRecDepth 100000
set_option maxHeartbeats 16000000
section
open Go Go.RowKit Go.Maps
theorem blk7v {w:World} {k:Nat} {a b c d e f z:Value} {t:TypeId} (h:w.heap[k]?=some (.cells #[a,b,c,d,e,f,z] t (0,0))):
 w.cell? ⟨k,0,none⟩=some a/\w.cell? ⟨k,1,none⟩=some b/\w.cell? ⟨k,2,none⟩=some c/\w.cell? ⟨k,3,none⟩=some d/\w.cell? ⟨k,4,none⟩=some e/\w.cell? ⟨k,5,none⟩=some f/\w.cell? ⟨k,6,none⟩=some z/\(∀i,w.frozen? ⟨k,i,none⟩=false):=
 ⟨by rw [cell_of_row w _ 0 _ _ _ h];rfl,by rw [cell_of_row w _ 1 _ _ _ h];rfl,by rw [cell_of_row w _ 2 _ _ _ h];rfl,by rw [cell_of_row w _ 3 _ _ _ h];rfl,by rw [cell_of_row w _ 4 _ _ _ h];rfl,by rw [cell_of_row w _ 5 _ _ _ h];rfl,by rw [cell_of_row w _ 6 _ _ _ h];rfl,fun i=>by simp [World.frozen?,h]⟩
theorem lJ (b:Bdy) (bh:BH) (w:World) (H:BdAt w b bh) (hz:NmOk b):
 Calls Tryz.prog 17 #[.agg (bdC b bh).toArray] w fun e' w'=>e' = .returned (.int .i64 (chkB b))/\Below w.heap.size w w':=
 rH b bh w H hz.blks (fun W hb=>xR b bh W (H.keep hb) hz)
  (fun hd _W hb s A0 A B c0 c d h0 h1 h2=>xFB ⟨H.keep hb,dS hd⟩ s A0 A B c0 c d (h0.keep RPj.keeps hb) (h1.keep RPj.keeps hb) (h2.keep ROp.keeps hb))
  (fun hd _W hb t A B C c d f h0 h1 h2 h3=>xJ ⟨H.keep hb,dS hd⟩ t A B C c d f (h0.keep RInt.keeps hb) (h1.keep ROp.keeps hb) (h2.keep RPj.keeps hb) h3)
theorem wT (ts:List Ty) (A:Option Addr) (c:Nat) (w:World) (hs:Slc 5 RTy w A c ts):
 Calls Tryz.prog 24 #[.slice A ts.length c] w fun e' w'=>(∃q,e' = .returned (.int .i64 q)/\(q<=0->ts.length<=200))/\Below w.heap.size w w':=by
 have HL:=aF (yQ ts A c w hs);have HW:=aF (fun W (hb:Below w.heap.size w W) (hl:ts.length<=200)=>xAQ ts A c W (hs.keep RTy.keeps hb) hl);clear hs;obtain ⟨n,hn⟩:∃n,ts.length=n:=⟨_,rfl⟩;rw [hn] at HL HW ⊢;go_enter Tryz.func24,Tryz.ntmps24
 go_wp2_with (first | (go_at_call 66;refine (HW.out _ HB.out (HQ.out (by omega))).mono ?_;rintro e' w2 ⟨⟨q2,rfl⟩,hb2⟩;have HB2:=aF (HB.out.trans (hb2.mono HB.out.size));clear hb2;cases q2) | (go_at_call 65;refine HL.out.mono ?_;rintro e' w1 ⟨⟨q,rfl,hq⟩,hb⟩;have HB:=aF hb;have HQ:=aF hq;clear hb hq))
 all_goals
  go_ret
  first
   | exact ⟨⟨_,rfl,fun h=>absurd h (by omega)⟩,HB2.out⟩
   | exact ⟨⟨_,rfl,fun h=>absurd h (by omega)⟩,HB.out⟩
   | exact ⟨⟨_,rfl,fun _=>HQ.out (by omega)⟩,HB2.out⟩
structure NotSkip (b:Bdy):Prop where
 nm:ShortB b->namesZ b<=3000
 typ:b.types.length<=200
 out:b.outl.length<=200
 reg:b.regions.length<=200
 blk:b.blocks.length<=200
theorem sR (b:Bdy) (bh:BH) (w:World) (H:BdAt w b bh) (hz:NmOk b):
 Calls Tryz.prog 8 #[.agg (bdC b bh).toArray] w fun e' w'=>(∃q:Int,e' = .returned (.int .i64 q)/\(q<=0->NotSkip b))/\Below w.heap.size w w':=by
 obtain ⟨A1,c1,A2,c2,A3,c3,A4,c4,A5,c5⟩:=bh;have r1:=H.reg.le;have r2:=H.reg.big;have o1:=H.out.le;have o2:=H.out.big;have t1:=H.typ.le;have t2:=H.typ.big;have b1:=H.blk.le;have b2:=H.blk.big;simp only at r1 r2 o1 o2 t1 t2 b1 b2;have HL:Hid (∀W,Below w.heap.size w W->Calls Tryz.prog 23 #[.agg #[Value.string b.name,.slice A1 b.regions.length c1,.slice A2 b.outl.length c2,.slice A3 b.types.length c3,.slice A4 b.locals.length c4,.int .i64 b.args,.slice A5 b.blocks.length c5]] W fun e' w'=>(∃q:Int,e' = .returned (.int .i64 q)/\(q<=0->ShortB b->namesZ b<=3000))/\Below W.heap.size W w'):=aF (fun W hb=>qG b ⟨A1,c1,A2,c2,A3,c3,A4,c4,A5,c5⟩ W (H.keep hb) hz);have HT:=aF (fun W hb=>wT b.types A3 c3 W (H.typ.keep RTy.keeps hb));have HK:=aF (fun W hb=>lI b.types (b.regions.length:Int) A3 c3 W (H.typ.keep RTy.keeps hb));have HD:=aF (fun W hb i hi h64 hok=>vE b.types i A3 c3 W (H.typ.keep RTy.keeps hb) hi h64 hok);have HOK:=aF (fun h=>uL (n:=(b.regions.length:Int)) (ts:=b.types) h);clear H;unfold bdC;simp only;obtain ⟨W,hW⟩:∃W,w.alloc (.cells #[Value.string b.name,.slice A1 b.regions.length c1,.slice A2 b.outl.length c2,.slice A3 b.types.length c3,.slice A4 b.locals.length c4,.int .i64 b.args,.slice A5 b.blocks.length c5] 28)=W:=⟨_,rfl⟩;have HC0:Hid (aA (bdM b A1 c1 A2 c2 A3 c3 A4 c4 A5 c5 []) W w.heap.size):=aF (by rw [<- hW];exact cU w [Value.string b.name,.slice A1 b.regions.length c1,.slice A2 b.outl.length c2,.slice A3 b.types.length c3,.slice A4 b.locals.length c4,.int .i64 b.args,.slice A5 b.blocks.length c5] 28);have HB0:Hid (Below w.heap.size w W):=aF (by rw [<- hW];exact alF _ _);have HK7:Hid (W.heap[w.heap.size]?=some (.cells #[Value.string b.name,.slice A1 b.regions.length c1,.slice A2 b.outl.length c2,.slice A3 b.types.length c3,.slice A4 b.locals.length c4,.int .i64 b.args,.slice A5 b.blocks.length c5] 28 (0,0))):=aF (by rw [<- hW];exact heap_alloc_new w _);obtain ⟨x0,x1,x2,x3,x4,x5,x6,_⟩:=blk7v HK7.out;change Calls _ _ #[.agg #[Value.string b.name,.slice A1 b.regions.length c1,.slice A2 b.outl.length c2,.slice A3 b.types.length c3,.slice A4 b.locals.length c4,.int .i64 b.args,.slice A5 b.blocks.length c5]] _ _;go_enter Tryz.func8,Tryz.ntmps8
 go_wp2_with fail
 go_at_call 23
 refine (HL.out W HB0.out).mono ?_;rintro e' w1 ⟨⟨q,rfl,hq⟩,hb⟩;have HCC:=aF (cN HC0.out hb);have HB:=aF (keep0 hb HB0.out);have HQ:=aF hq;clear hb hq HC0 HB0 HL x0 x1 x2 x3 x4 x5 x6;by_cases hq1:0<q
 ·go_wp2_with fail
  all_goals (go_ret;exact ⟨⟨_,rfl,fun h=>absurd h (by omega)⟩,HB.out⟩)
 have hq2:q<=0:=by omega
 have HN:=aF (HQ.out hq2);obtain ⟨y0,y1,y2,y3,y4,y5,y6⟩:=aS HCC.out;go_wp2_with fail
 go_at_call 24
 refine (HT.out w1 HB.out).mono ?_;rintro e' w2 ⟨⟨p,rfl,hp⟩,hb⟩;replace HCC:=aF (cN HCC.out hb);replace HB:=aF (keep0 hb HB.out);have HP:=aF hp;clear hb hp HT HQ hq1 y0 y1 y2 y3 y4 y5 y6;by_cases hq1:0<p
 ·go_wp2_with fail
  all_goals (go_ret;exact ⟨⟨_,rfl,fun h=>absurd h (by omega)⟩,HB.out⟩)
 have hp2:p<=0:=by omega
 have HTL:=aF (HP.out hp2);obtain ⟨y0,y1,y2,y3,y4,y5,y6⟩:=aS HCC.out;by_cases g1:200<b.outl.length
 ·go_wp2_with fail
  all_goals (go_ret;exact ⟨⟨_,rfl,fun h=>absurd h (by omega)⟩,HB.out⟩)
 by_cases g2:200<b.regions.length
 ·go_wp2_with fail
  all_goals (go_ret;exact ⟨⟨_,rfl,fun h=>absurd h (by omega)⟩,HB.out⟩)
 by_cases g3:200<b.blocks.length
 ·go_wp2_with fail
  all_goals (go_ret;exact ⟨⟨_,rfl,fun h=>absurd h (by omega)⟩,HB.out⟩)
 have HNS:Hid (NotSkip b):=aF ⟨HN.out,HTL.out,by omega,by omega,by omega⟩;go_wp2_with fail
 go_at_call 25
 refine (HK.out w2 HB.out).mono ?_;rintro e' w3 ⟨rfl,hb⟩;replace HCC:=aF (cN HCC.out hb);replace HB:=aF (keep0 hb HB.out);clear hb y0 y1 y2 y3 y4 y5 y6;by_cases hty:typesC (b.regions.length:Int) b.types=0
 case neg=>
  generalize typesC (b.regions.length:Int) b.types=ty at *;go_wp2_with fail
  all_goals (go_ret;exact ⟨⟨_,rfl,fun _=>HNS.out⟩,HB.out⟩)
 rw [hty];have HDP:=aF (HOK.out hty);have HTL2:=HTL.out;clear hty HK HOK;obtain ⟨y0,y1,y2,y3,y4,y5,y6⟩:=aS HCC.out;go_wp2_with fail
 clear y0 y1 y2 y3 y4 y5 y6;go_loopw [41] (fun i wr=>∃k:Nat,k<=b.types.length/\i = .int .i64 k/\Hid (aA (bdM b A1 c1 A2 c2 A3 c3 A4 c4 A5 c5 []) wr w.heap.size)/\Hid (Below w.heap.size w wr)) (fun i _=>b.types.length - (intOf i).toNat)
 case atStart=>exact ⟨0,by omega,rfl,HCC,HB⟩
 case round=>
  clear HCC HB;obtain ⟨k,hk,rfl,HCC,HB⟩:=hrel;by_cases hlt:k<b.types.length
  ·obtain ⟨y0,y1,y2,y3,y4,y5,y6⟩:=aS HCC.out;go_wp2_with fail
   go_at_call 26
   refine (HD.out wr HB.out k hlt (by omega) HDP.out).mono ?_;rintro e' w4 ⟨⟨d,rfl⟩,hb⟩;have HC4:=aF (cN HCC.out hb);have HB4:=aF (keep0 hb HB.out);clear hb;by_cases hd:8<d
   ·go_wp2_with fail
    go_ret;exact ⟨⟨_,rfl,fun h=>absurd h (by omega)⟩,HB4.out⟩
   ·go_wp2_with fail
    go_roundw
    case rel=>exact ⟨k+1,by omega,by go_num,HC4,HB4⟩
    case measure=>simp [intOf];omega
  ·go_wp2_with fail
   go_ret;exact ⟨⟨_,rfl,fun _=>HNS.out⟩,HB.out⟩
end
end Go.Proofs.YtmknfbfppmkcfaaGreatDoor
