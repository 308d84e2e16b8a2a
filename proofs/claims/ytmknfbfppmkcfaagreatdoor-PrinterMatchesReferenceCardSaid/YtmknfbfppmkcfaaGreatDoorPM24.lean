/-
  Parts of the proof: V71 Y52 Y54 Y55 Y60.
-/
import Derived.Test.YtmknfbfppmkcfaaGreatDoorPM0
import Derived.Test.YtmknfbfppmkcfaaGreatDoorPM20
import Derived.Test.YtmknfbfppmkcfaaGreatDoorPM23
import Derived.Test.YtmknfbfppmkcfaaGreatDoorPM18
import Derived.Test.YtmknfbfppmkcfaaGreatDoorPM21
import Derived.Test.YtmknfbfppmkcfaaGreatDoorPM9
import Derived.Test.YtmknfbfppmkcfaaGreatDoorPM19
import Derived.Test.YtmknfbfppmkcfaaGreatDoorPM14
import Derived.Test.YtmknfbfppmkcfaaGreatDoorPM17
import Derived.Lib.ItoaLen
namespace Go.Proofs.YtmknfbfppmkcfaaGreatDoor
set_option maxRecDepth 100000
set_option maxHeartbeats 16000000
section
open Go Go.RowKit Go.Maps
theorem blk7v {w:World} {k:Nat} {a b c d e f z:Value} {t:TypeId} (h:w.heap[k]?=some (.cells #[a,b,c,d,e,f,z] t (0,0))):
 w.cell? ⟨k,0,none⟩=some a/\w.cell? ⟨k,1,none⟩=some b/\w.cell? ⟨k,2,none⟩=some c/\w.cell? ⟨k,3,none⟩=some d/\w.cell? ⟨k,4,none⟩=some e/\w.cell? ⟨k,5,none⟩=some f/\w.cell? ⟨k,6,none⟩=some z/\(∀i,w.frozen? ⟨k,i,none⟩=false):=
 ⟨by rw [cell_of_row w _ 0 _ _ _ h];rfl,by rw [cell_of_row w _ 1 _ _ _ h];rfl,by rw [cell_of_row w _ 2 _ _ _ h];rfl,by rw [cell_of_row w _ 3 _ _ _ h];rfl,by rw [cell_of_row w _ 4 _ _ _ h];rfl,by rw [cell_of_row w _ 5 _ _ _ h];rfl,by rw [cell_of_row w _ 6 _ _ _ h];rfl,fun i=>by simp [World.frozen?,h]⟩
theorem qO (b:Bdy) (bh:BH) (w:World) (H:BdAt w b bh) (hz:NmOk b):
 Calls Tryz.prog 17 #[.agg (bdC b bh).toArray] w fun e' w'=>e' = .returned (.int .i64 (chkB b))/\Below w.heap.size w w':=
 qM b bh w H hz.blks (fun W hb=>wK b bh W (H.keep hb) hz)
  (fun hd W hb s A0 A B c0 c d h0 h1 h2=>xDT ⟨H.keep hb,dS hd⟩ s A0 A B c0 c d (h0.keep RPj.keeps hb) (h1.keep RPj.keeps hb) (h2.keep ROp.keeps hb))
  (fun hd W hb t A B C c d f h0 h1 h2 h3=>wC ⟨H.keep hb,dS hd⟩ t A B C c d f (h0.keep RInt.keeps hb) (h1.keep ROp.keeps hb) (h2.keep RPj.keeps hb) h3)
theorem vQ (ts:List Ty) (A:Option Addr) (c:Nat) (w:World) (hs:Slc 5 RTy w A c ts):
 Calls Tryz.prog 24 #[.slice A ts.length c] w fun e' w'=>(∃q,e' = .returned (.int .i64 q)/\(q<=0->ts.length<=200))/\Below w.heap.size w w':=by
 have HL:=aF (xO ts A c w hs);have HW:=aF (fun W (hb:Below w.heap.size w W) (hl:ts.length<=200)=>zJ ts A c W (hs.keep RTy.keeps hb) hl);clear hs;obtain ⟨n,hn⟩:∃n,ts.length=n:=⟨_,rfl⟩;rw [hn] at HL HW ⊢;go_enter Tryz.func24,Tryz.ntmps24
 go_wp2_with (first | (go_at_call 66;refine (HW.out _ HB.out (HQ.out (by omega))).mono ?_;rintro e' w2 ⟨⟨q2,rfl⟩,hb2⟩;have HB2:=aF (HB.out.trans (hb2.mono HB.out.size));clear hb2;cases q2) | (go_at_call 65;refine HL.out.mono ?_;rintro e' w1 ⟨⟨q,rfl,hq⟩,hb⟩;have HB:=aF hb;have HQ:=aF hq;clear hb hq))
 all_goals
  go_ret
  first
   | exact ⟨⟨_,rfl,fun h=>absurd h (by omega)⟩,HB2.out⟩
   | exact ⟨⟨_,rfl,fun h=>absurd h (by omega)⟩,HB.out⟩
   | exact ⟨⟨_,rfl,fun _=>HQ.out (by omega)⟩,HB2.out⟩
structure NotSkip (b:Bdy):Prop where
 nm:ShortB b->namesZ b<=3000
 typ:b.types.length<=200
 out:b.outl.length<=200
 reg:b.regions.length<=200
 blk:b.blocks.length<=200
theorem xAC (b:Bdy) (bh:BH) (w:World) (H:BdAt w b bh) (hz:NmOk b):
 Calls Tryz.prog 8 #[.agg (bdC b bh).toArray] w fun e' w'=>(∃q:Int,e' = .returned (.int .i64 q)/\(q<=0->NotSkip b))/\Below w.heap.size w w':=by
 obtain ⟨A1,c1,A2,c2,A3,c3,A4,c4,A5,c5⟩:=bh;have r1:=H.reg.le;have r2:=H.reg.big;have o1:=H.out.le;have o2:=H.out.big;have t1:=H.typ.le;have t2:=H.typ.big;have b1:=H.blk.le;have b2:=H.blk.big;simp only at r1 r2 o1 o2 t1 t2 b1 b2;have HL:Hid (∀W,Below w.heap.size w W->Calls Tryz.prog 23 #[.agg #[Value.string b.name,.slice A1 b.regions.length c1,.slice A2 b.outl.length c2,.slice A3 b.types.length c3,.slice A4 b.locals.length c4,.int .i64 b.args,.slice A5 b.blocks.length c5]] W fun e' w'=>(∃q:Int,e' = .returned (.int .i64 q)/\(q<=0->ShortB b->namesZ b<=3000))/\Below W.heap.size W w'):=aF (fun W hb=>pN b ⟨A1,c1,A2,c2,A3,c3,A4,c4,A5,c5⟩ W (H.keep hb) hz);have HT:=aF (fun W hb=>vQ b.types A3 c3 W (H.typ.keep RTy.keeps hb));have HK:=aF (fun W hb=>kZ b.types (b.regions.length:Int) A3 c3 W (H.typ.keep RTy.keeps hb));have HD:=aF (fun W hb i hi h64 hok=>uH b.types i A3 c3 W (H.typ.keep RTy.keeps hb) hi h64 hok);have HOK:=aF (fun h=>tO (n:=(b.regions.length:Int)) (ts:=b.types) h);clear H;unfold bdC;simp only;obtain ⟨W,hW⟩:∃W,w.alloc (.cells #[Value.string b.name,.slice A1 b.regions.length c1,.slice A2 b.outl.length c2,.slice A3 b.types.length c3,.slice A4 b.locals.length c4,.int .i64 b.args,.slice A5 b.blocks.length c5] 28)=W:=⟨_,rfl⟩;have HC0:Hid (aA (bdM b A1 c1 A2 c2 A3 c3 A4 c4 A5 c5 []) W w.heap.size):=aF (by rw [<- hW];exact cX w [Value.string b.name,.slice A1 b.regions.length c1,.slice A2 b.outl.length c2,.slice A3 b.types.length c3,.slice A4 b.locals.length c4,.int .i64 b.args,.slice A5 b.blocks.length c5] 28);have HB0:Hid (Below w.heap.size w W):=aF (by rw [<- hW];exact alF _ _);have HK7:Hid (W.heap[w.heap.size]?=some (.cells #[Value.string b.name,.slice A1 b.regions.length c1,.slice A2 b.outl.length c2,.slice A3 b.types.length c3,.slice A4 b.locals.length c4,.int .i64 b.args,.slice A5 b.blocks.length c5] 28 (0,0))):=aF (by rw [<- hW];exact heap_alloc_new w _);obtain ⟨x0,x1,x2,x3,x4,x5,x6,_⟩:=blk7v HK7.out;change Calls _ _ #[.agg #[Value.string b.name,.slice A1 b.regions.length c1,.slice A2 b.outl.length c2,.slice A3 b.types.length c3,.slice A4 b.locals.length c4,.int .i64 b.args,.slice A5 b.blocks.length c5]] _ _;go_enter Tryz.func8,Tryz.ntmps8
 go_wp2_with fail
 go_at_call 23
 refine (HL.out W HB0.out).mono ?_;rintro e' w1 ⟨⟨q,rfl,hq⟩,hb⟩;have HCC:=aF (cO HC0.out hb);have HB:=aF (keep0 hb HB0.out);have HQ:=aF hq;clear hb hq HC0 HB0 HL x0 x1 x2 x3 x4 x5 x6;by_cases hq1:0<q
 ·go_wp2_with fail
  all_goals (go_ret;exact ⟨⟨_,rfl,fun h=>absurd h (by omega)⟩,HB.out⟩)
 have hq2:q<=0:=by omega
 have HN:=aF (HQ.out hq2);obtain ⟨y0,y1,y2,y3,y4,y5,y6⟩:=aS HCC.out;go_wp2_with fail
 go_at_call 24
 refine (HT.out w1 HB.out).mono ?_;rintro e' w2 ⟨⟨p,rfl,hp⟩,hb⟩;replace HCC:=aF (cO HCC.out hb);replace HB:=aF (keep0 hb HB.out);have HP:=aF hp;clear hb hp HT HQ hq1 y0 y1 y2 y3 y4 y5 y6;by_cases hq1:0<p
 ·go_wp2_with fail
  all_goals (go_ret;exact ⟨⟨_,rfl,fun h=>absurd h (by omega)⟩,HB.out⟩)
 have hp2:p<=0:=by omega
 have HTL:=aF (HP.out hp2);obtain ⟨y0,y1,y2,y3,y4,y5,y6⟩:=aS HCC.out;by_cases g1:200<b.outl.length
 ·go_wp2_with fail
  all_goals (go_ret;exact ⟨⟨_,rfl,fun h=>absurd h (by omega)⟩,HB.out⟩)
 by_cases g2:200<b.regions.length
 ·go_wp2_with fail
  all_goals (go_ret;exact ⟨⟨_,rfl,fun h=>absurd h (by omega)⟩,HB.out⟩)
 by_cases g3:200<b.blocks.length
 ·go_wp2_with fail
  all_goals (go_ret;exact ⟨⟨_,rfl,fun h=>absurd h (by omega)⟩,HB.out⟩)
 have HNS:Hid (NotSkip b):=aF ⟨HN.out,HTL.out,by omega,by omega,by omega⟩;go_wp2_with fail
 go_at_call 25
 refine (HK.out w2 HB.out).mono ?_;rintro e' w3 ⟨rfl,hb⟩;replace HCC:=aF (cO HCC.out hb);replace HB:=aF (keep0 hb HB.out);clear hb y0 y1 y2 y3 y4 y5 y6;by_cases hty:typesC (b.regions.length:Int) b.types=0
 case neg=>
  generalize typesC (b.regions.length:Int) b.types=ty at *;go_wp2_with fail
  all_goals (go_ret;exact ⟨⟨_,rfl,fun _=>HNS.out⟩,HB.out⟩)
 rw [hty];have HDP:=aF (HOK.out hty);have HTL2:=HTL.out;clear hty HK HOK;obtain ⟨y0,y1,y2,y3,y4,y5,y6⟩:=aS HCC.out;go_wp2_with fail
 clear y0 y1 y2 y3 y4 y5 y6;go_loopw [41] (fun i wr=>∃k:Nat,k<=b.types.length/\i = .int .i64 k/\Hid (aA (bdM b A1 c1 A2 c2 A3 c3 A4 c4 A5 c5 []) wr w.heap.size)/\Hid (Below w.heap.size w wr)) (fun i _=>b.types.length - (intOf i).toNat)
 case atStart=>exact ⟨0,by omega,rfl,HCC,HB⟩
 case round=>
  clear HCC HB;obtain ⟨k,hk,rfl,HCC,HB⟩:=hrel;by_cases hlt:k<b.types.length
  ·obtain ⟨y0,y1,y2,y3,y4,y5,y6⟩:=aS HCC.out;go_wp2_with fail
   go_at_call 26
   refine (HD.out wr HB.out k hlt (by omega) HDP.out).mono ?_;rintro e' w4 ⟨⟨d,rfl⟩,hb⟩;have HC4:=aF (cO HCC.out hb);have HB4:=aF (keep0 hb HB.out);clear hb;by_cases hd:8<d
   ·go_wp2_with fail
    go_ret;exact ⟨⟨_,rfl,fun h=>absurd h (by omega)⟩,HB4.out⟩
   ·go_wp2_with fail
    go_roundw
    case rel=>exact ⟨k+1,by omega,by go_num,HC4,HB4⟩
    case measure=>simp [intOf];omega
  ·go_wp2_with fail
   go_ret;exact ⟨⟨_,rfl,fun _=>HNS.out⟩,HB.out⟩
end
section
open Go Go.RowKit
theorem mZ {n:ByteArray} (h:isIdent n=true):(bl n).length<=255:=by
 unfold isIdent at h;unfold bl;generalize n.data.toList=l at h;cases l with
 | nil=>simp
 | cons c r=>
   simp only [mY,bQ,decide_eq_true_eq] at h;simp only [bK];omega
theorem wH {rs:List ByteArray} (h:∀r∈rs,isIdent r=true) (i:Int):(rgP rs i).length<=255:=by
 unfold rgP;cases e:rs[i.toNat]? with
 | none=>simp
 | some x=>exact mZ (h x (List.mem_of_getElem? e))
theorem xCO {ls:List Lc} (h:∀l∈ls,isIdent l.name=true) (i:Int):(nmP ls i).length<=255:=by
 unfold nmP;cases e:ls[i.toNat]? with
 | none=>simp
 | some x=>exact mZ (h x (List.mem_of_getElem? e))
theorem xV {n:Int} (h:fitN n):(Lib.itoa n).length<=21:=Lib.itoa_length_le n h.1 h.2
theorem mX {c:UInt8} {n:Int} (h:fitN n):(idxP c n).length<=22:=by
 have:=xV h;unfold idxP;rw [bK];omega
theorem lQ {α : Type} {f : α -> List UInt8} {k:Nat}:∀{l:List α},(∀x∈l,(f x).length<=k)->(l.flatMap f).length<=k * l.length
 | [],_=>by simp
 | x :: l,h=>by
   have h1:=h x (by simp);have h2:=lQ (l:=l) (fun y hy=>h y (by simp [hy]));rw [List.flatMap_cons,bB,bK,Nat.mul_add];omega
theorem nS {α : Type} {f:Nat-> α -> List UInt8} {k n:Nat}:∀{l:List α} {i:Nat},i+l.length<=n->(∀x∈l,∀j,j<n->(f j x).length<=k)->(numP f i l).length<=k * l.length
 | [],_,_,_=>by simp [numP]
 | x :: l,i,hn,h=>by
   rw [bK] at hn;have h1:=h x (by simp) i (by omega);have h2:=nS (l:=l) (i:=i+1) (by omega) (fun y hy=>h y (by simp [hy]));rw [jL,bB,bK,Nat.mul_add];omega
theorem rP {k:Nat}:∀{l:List (List UInt8)},(∀x∈l,x.length<=k)->(tailP l).length<=(k+2) * l.length
 | [],_=>by simp [tailP]
 | y :: l,h=>by
   have h1:=h y (by simp);have h2:=rP (l:=l) (fun z hz=>h z (by simp [hz]));rw [show tailP (y :: l)=44 :: 32 :: comP (y :: l) from rfl,fL];simp only [bK,bB,Nat.mul_add];omega
theorem nZ {k:Nat} {l:List (List UInt8)} (h:∀x∈l,x.length<=k):(comP l).length<=(k+2) * l.length:=by
 cases l with
 | nil=>simp [xFH]
 | cons x l=>
   have h1:=h x (by simp);have h2:=rP (l:=l) (fun y hy=>h y (by simp [hy]));rw [fL,bB,bK,Nat.mul_add];omega
theorem xEH {ps:List Pj} (hf:∀x∈ps,fitJ x):(pjsP ps).length<=22 * ps.length:=
 lQ (fun x hx=>by
  have:=Lib.itoa_length_le x.field (hf x hx).1 (hf x hx).2;unfold pjP;split
  ·simp
  ·rw [bK];omega)
theorem sC {ls:List Lc} {p:Plc} (hl:∀l∈ls,isIdent l.name=true) (hp:p.proj.length<=32) (hf:∀x∈p.proj,fitJ x):(placeP ls p).length<=960:=by
 have h1:=xCO hl p.loc;have h2:=xEH hf;unfold placeP;rw [bK,bB];omega
theorem xGN {ls:List Lc} {o:Opd} (hl:∀l∈ls,isIdent l.name=true) (ho:OkOp ls o) (hf:FitO o):(opdP ls o).length<=970:=by
 have h1:=sC hl ho.len hf.pj;have h2:=Lib.itoa_length_le o.n hf.n.1 hf.n.2;unfold opdP boolP unitP;split
 ·simp only [bB,bK,bP];omega
 split
 ·simp only [bB,bK,bP];omega
 split
 ·omega
 split
 ·split <;> simp
 ·simp
theorem xC {ls:List Lc} {l:List Opd} {k:Nat} (hl:∀l∈ls,isIdent l.name=true) (ho:∀o∈l,OkOp ls o) (hf:∀o∈l,FitO o) (hk:l.length<=k):(opsP ls l).length<=972 * k:=by
 have h:=nZ (k:=970) (l:=l.map (opdP ls)) (fun x hx=>by
  obtain ⟨o,hm,rfl⟩:=List.mem_map.1 hx
  exact xGN hl (ho o hm) (hf o hm))
 rw [cG] at h;unfold opsP;omega
theorem xCI {rs:List ByteArray} {r:Int} {m:Bool} {t:List UInt8} (h:∀r∈rs,isIdent r=true):(refP rs r m t).length<=262+t.length:=by
 have h1:=wH h r;unfold refP;cases m <;> simp only [bB,bK,bP,if_true,if_false,Bool.false_eq_true] <;> omega
theorem xGA {ls:List Lc} {rs:List ByteArray} {r:Rvl} {k:Nat} (hl:∀l∈ls,isIdent l.name=true) (hr:∀r∈rs,isIdent r=true) (ho:OkRv ls rs r) (hp:r.place.proj.length<=32) (hf:FitR r) (hk:r.args.length<=k):(rvP ls rs r).length<=972 * k+1300:=by
 have h1:=xC hl ho.args hf.args hk;have h2:=xCI (rs:=rs) (r:=r.reg) (m:=r.mu) (t:=placeP ls r.place) hr;have h3:=sC hl hp hf.pj;unfold rvP;split
 ·omega
 split
 ·unfold unaP;split <;> simp only [bB,bK,bP] <;> omega
 split
 ·unfold binP;repeat' split
  all_goals simp only [bB,bK,bP];omega
 split
 ·simp only [bB,bK,bP];omega
 ·omega
theorem xFZ {ls:List Lc} {rs:List ByteArray} {s:Stm} {k:Nat} (hl:∀l∈ls,isIdent l.name=true) (hr:∀r∈rs,isIdent r=true) (ho:OkSt ls rs s) (hp:s.place.proj.length<=32) (hq:s.rv.place.proj.length<=32) (hf:FitS s) (hk:s.rv.args.length<=k):(dR ls rs s).length<=972 * k+3000:=by
 have h3:=sC hl hp hf.pj;have h4:=xCO hl s.loc;unfold dR stmtP semP;split
 ·rename_i h0;have h1:=xGA hl hr (ho.asg h0).2.2 hq hf.rv hk;simp only [bB,bK,bP];omega
 split
 ·simp only [bB,bK,bP];omega
 ·simp only [bB,bK,bP];omega
theorem xCE {l:List Int} (h:∀x∈l,fitN x) (i:Nat):(tgP l i).length<=22:=by
 unfold tgP;refine mX ?_;rw [List.getD_eq_getElem?_getD];cases e:l[i]? with
 | none=>exact ⟨by simp,by simp⟩
 | some x=>exact h x (List.mem_of_getElem? e)
theorem xFU {ls:List Lc} {t:Trm} (hl:∀l∈ls,isIdent l.name=true) (ho:OkTm ls t) (hp:t.place.proj.length<=32) (hf:FitTm t) (hk:t.args.length<=1000000):(termP ls t).length<=972003000:=by
 have h1:=xC hl ho.args hf.args hk;have h2:=xCE hf.tg 0;have h3:=xCE hf.tg 1;have h4:=sC hl hp hf.pj;unfold termP;split
 ·simp only [bB,bK,bP];omega
 split
 ·simp only [bB,bK,bP];omega
 split
 ·simp
 split
 ·rename_i h5;have h6:=mZ (ho.call h5);simp only [bB,bK,bP];omega
 split
 ·simp only [bB,bK,bP];omega
 ·simp
theorem xFR {rs:List ByteArray} {t:Ty} (hr:∀r∈rs,isIdent r=true) (hf:FitT t) (hk:t.flds.length<=65535):(typeP rs t).length<=2000000:=by
 have h1:=xCI (rs:=rs) (r:=t.reg) (m:=t.mu) (t:=idxP 35 t.elem) hr;have h2:=mX (c:=35) hf.elem
 have h3:=nZ (k:=22) (l:=t.flds.map (idxP 35)) (fun x hx=>by
  obtain ⟨o,hm,rfl⟩:=List.mem_map.1 hx
  exact mX (hf.flds o hm))
 rw [cG] at h3;unfold typeP unitP;split
 ·simp
 split
 ·simp
 split
 ·simp
 split
 ·omega
 ·simp only [bB,bK,bP];omega
theorem xK {x:Nat}:∀{l:List Nat},x∈l->x<=l.sum
 | [],h=>by cases h
 | y :: l,h=>by
   rw [List.sum_cons];rcases List.mem_cons.1 h with rfl | h
   ·omega
   ·have:=xK h;omega
theorem xGS {b:Bdy} (h:namesZ b<=3000):∀t∈b.types,t.flds.length<=3000:=fun t ht=>by
 have h1:1+min t.flds.length 9000<=tyZ b.types:=by
  unfold tyZ;exact xK (List.mem_map.2 ⟨t,ht,rfl⟩)
 unfold namesZ at h;omega
theorem pD {b:Bdy} (hc:chkB b=0) (hf:FitB b) (hs:NotSkip b):(printP b).length<=100000000000000:=by
 have D:=dS (ychk hc).1;have O:=sJ hc;have hz:=xGS (hs.nm (pV hc));have hr:=O.rs.all;have hl:=O.ls.all;have hb:=(ychk hc).2;have e0:=mZ O.name
 have e1:(regsP b.regions).length<=20000000:=by
  have h:=nZ (k:=256) (l:=b.regions.map (fun r=>39 :: bl r)) (fun x hx=>by
   obtain ⟨o,hm,rfl⟩:=List.mem_map.1 hx;have:=mZ (hr o hm)
   rw [bK];omega)
  rw [cG] at h;have:=D.nreg;unfold regsP semP;split
  ·simp
  ·simp only [bB,bK,bP];omega
 have e2:(outsP b.regions b.outl).length<=40000000:=by
  have h:=nZ (k:=513) (l:=b.outl.map (outP b.regions)) (fun x hx=>by
   obtain ⟨o,hm,rfl⟩:=List.mem_map.1 hx;have h1:=wH hr o.1;have h2:=wH hr o.2;unfold outP
   simp only [bB,bK,bP];omega)
  rw [cG] at h;have:=D.nout;unfold outsP semP;split
  ·simp
  ·simp only [bB,bK,bP];omega
 have e3:=nS (f:=kO b.regions) (k:=2000100) (n:=65535) (l:=b.types) (i:=0) (by have:=D.ntyp;omega) (fun x hx j hj=>by
  have h1:=xFR hr (hf.ty x hx) (by have:=hz x hx;omega);have h2:=mX (c:=35) (n:=(j:Int)) ⟨by omega,by omega⟩;unfold kO semP
  simp only [bB,bK,bP];omega)
 have e4:=nS (f:=lN b.args) (k:=400) (n:=65535) (l:=b.locals) (i:=0) (by have:=D.nloc;omega) (fun x hx j hj=>by
  have h1:=mZ (hl x hx);have h2:=mX (c:=35) (hf.lc x hx);unfold lN semP wordP
  split <;> simp only [bB,bK,bP] <;> omega)
 have e5:=nS (f:=kE b.locals b.regions) (k:=300000000000) (n:=200) (l:=b.blocks) (i:=0) (by have:=hs.blk;omega) (fun x hx j hj=>by
  obtain ⟨p1,p2,p3⟩:=tI (rD hb x hx)
  have h1:=lQ (f:=dR b.locals b.regions) (k:=2919000) (l:=x.stmts) (fun s hs'=>by
   have hst:=qD p2 s hs';have hp:=vY hst;have:=xFZ (k:=3000) hl hr (lF D.okay hst) hp.1 hp.2 (hf.st x hx s hs') (oV 3000 (by omega) D.okay hz hst)
   omega)
  have h2:=xFU hl (lE p3) (rM p3).2.1 (hf.tm x hx) (nE p3);have h3:=mX (c:=94) (n:=(j:Int)) ⟨by omega,by omega⟩;unfold kE semP;simp only [bB,bK,bP]
  omega)
 have n1:=D.ntyp;have n2:=D.nloc;have n3:=hs.blk;unfold printP headP;simp only [bB,bK,bP];omega
end
section
open Go Go.RowKit
attribute [local irreducible] Calls
theorem ind1:ind 1=[32,32]:=rfl
theorem vV {α : Type} {f : α -> List UInt8} {l:List α} {k:Nat} (h:k<l.length):(l.take (k+1)).flatMap f=(l.take k).flatMap f ++ f l[k]:=by
 rw [bF h,cB];simp
theorem oO {α : Type} (f : α -> List UInt8) (l:List α) (k:Nat):((l.take k).flatMap f).length<=(l.flatMap f).length:=by
 conv=>rhs;rw [<- List.take_append_drop k l,cB,bB]
 omega
theorem iT (n:Int) (h:fitN n) (w:World) (ht:PowTab w):Calls Tryz.prog 34 #[.string ⟨#[]⟩,.int .i64 n] w fun e' w'=>e' = .returned (tx (Lib.itoa n))/\Below w.heap.size w w':=by
 have:=index_any' [] n h.1 h.2 (by simp) w ht;simpa using this
theorem jZ {w0 w:World} {g q:Nat} {b:Bdy} {bh:BH} {bs:List UInt8} (wd:List UInt8) (hwd:wd.length<=10) (l:List (Int × Int)) (A:Option Addr) (c:Nat) (L:Lives w0 (g+2) g b bh bs 1 w)
 (hq:w.heap[q]?=some (.cells [Value.pointer (some ⟨g,0,none⟩)].toArray 66 (0,0))) (hqg:g≠q) (hl:Slc 2 RPr w0 A c l) (hf:∀x∈l,fitN x.1/\fitN x.2) (hz:bs.length+(l.flatMap (prLine wd)).length+1000<=140737488355328):
 Calls Tryz.prog 49 #[tx wd,.slice A l.length c,.pointer (some ⟨q,0,none⟩)] w fun e' w'=>e' = .returned (.tuple #[])/\Lives w0 (g+2) g b bh (bs ++ l.flatMap (prLine wd)) 1 w'/\Fr g w w':=by
 have HL:=aF L;have HQ:=aF hq;have HS:=aF hl;have HF:=aF hf;have HZ:=aF hz;have hle:=hl.le;have hbig:=hl.big;clear L hq hl hf hz;go_enter Tryz.func49,Tryz.ntmps49
 go_wp2_with fail
 go_loopw [9] (fun i wr=>∃k:Nat,k<=l.length/\i = .int .i64 k/\Hid (Lives w0 (g+2) g b bh (bs ++ (l.take k).flatMap (prLine wd)) 1 wr)/\Hid (Fr g w wr)) (fun i _=>l.length - (intOf i).toNat)
 case atStart=>exact ⟨0,by omega,rfl,by simpa using HL,aF (Fr.refl _ _)⟩
 case round=>
  clear HL;obtain ⟨k,hk,rfl,HL,HFR⟩:=hrel;by_cases hlt:k<l.length
  case neg=>
   obtain rfl:k=l.length:=by omega
   rw [cA] at HL;go_wp2_with fail
   go_end0
   exact ⟨rfl,HL.out,HFR.out⟩
  case pos=>
  obtain ⟨bb,oo,rfl,hbb,hx⟩:=(HS.out.keep RPr.keeps HL.out.low).sl.at_ hlt;have hfx:=HF.out _ (bN hlt);have HTF:=aF (vV (f:=prLine wd) hlt);have hzl:=oO (prLine wd) l (k+1);have hpc:=heap_fr HQ.out HFR.out hqg (by decide);have HPC:=aF hpc;have yq:=cQ hpc 0 _ rfl;have hqs:q<wr.heap.size:=cE wr _ yq;generalize l[k]=x at *;obtain ⟨x1,x2⟩:=x;obtain ⟨y0,y1⟩:=hx;simp only at y0 y1 hfx;obtain ⟨i1,h1⟩:∃i,Lib.itoa x1=i:=⟨_,rfl⟩;obtain ⟨i2,h2⟩:∃i,Lib.itoa x2=i:=⟨_,rfl⟩;have HLN:Hid (prLine wd (x1,x2)=ind 1 ++ ((wd ++ [32] ++ i1 ++ [32] ++ i2) ++ [59,10])):=aF (by rw [ind1,prLine,prP];simp only;rw [h1,h2,semP];simp);have hl1:=xV hfx.1;have hl2:=xV hfx.2;rw [h1] at hl1;rw [h2] at hl2;rw [HTF.out,bB] at hzl;have hz1:(bs ++ (l.take k).flatMap (prLine wd)).length+500<=140737488355328:=by rw [bB];have:=HZ.out;omega
  have hz2:¬(9223372036854775807<i2.length+1):=by omega
  have HI1:Hid (∀W,Below w0.heap.size w0 W->Calls Tryz.prog 34 #[.string ⟨#[]⟩,.int .i64 x1] W fun e' w'=>e' = .returned (tx i1)/\Below W.heap.size W w'):=aF (fun W hb=>by rw [<- h1];exact iT x1 hfx.1 W (HL.out.pow.keep hb));have HI2:Hid (∀W,Below w0.heap.size w0 W->Calls Tryz.prog 34 #[.string ⟨#[]⟩,.int .i64 x2] W fun e' w'=>e' = .returned (tx i2)/\Below W.heap.size W w'):=aF (fun W hb=>by rw [<- h2];exact iT x2 hfx.2 W (HL.out.pow.keep hb));obtain ⟨bk,hbk⟩:∃B,bs ++ (l.take k).flatMap (prLine wd)=B:=⟨_,rfl⟩;have HNX:Hid (bs ++ (l.take (k+1)).flatMap (prLine wd)=bk ++ (ind 1 ++ ((wd ++ [32] ++ i1 ++ [32] ++ i2) ++ [59,10]))):=aF (by rw [HTF.out,<- bM,hbk,HLN.out]);rw [hbk] at HL hz1;clear hpc h1 h2 hfx hzl HTF HLN hbk;obtain ⟨WN,hWN⟩:∃W,wr.alloc (.cells #[.int .i64 x1,.int .i64 x2] 77)=W:=⟨_,rfl⟩;have hbn:Below wr.heap.size wr WN:=by rw [<- hWN];exact (aX _ _).alloc (aY _) _
  obtain ⟨n0,n1⟩:=rL wr (.int .i64 x1) (.int .i64 x2) 77;rw [hWN] at n0 n1;have HLD:=aF (HL.out.keep hbn.drew);have HFD:Hid (Fr g w WN.drew):=aF (HFR.out.trans (Fr.of_below hbn.drew));have HQD:Hid (WN.drew.heap[q]?=_):=aF (cP HPC.out hbn.drew);have hS:WN.drew.cell? ⟨q,0,none⟩=some (.pointer (some ⟨g,0,none⟩))/\WN.drew.cell? ⟨wr.heap.size,0,none⟩=some (.int .i64 x1)/\WN.drew.cell? ⟨wr.heap.size,1,none⟩=some (.int .i64 x2):=⟨cQ HQD.out 0 _ rfl,n0,n1⟩;clear hbn;go_wp2_with fail
  clear n0 n1;refine dU (S:=fun X=>X.cell? ⟨q,0,none⟩=some (.pointer (some ⟨g,0,none⟩))/\X.cell? ⟨wr.heap.size,0,none⟩=some (.int .i64 x1)/\X.cell? ⟨wr.heap.size,1,none⟩=some (.int .i64 x2)) 10 [0,1,2,3,5,6,4,7,8,9,10] (by kernel_rfl) ?_;(iterate 6 (refine eJ (v:=?_) (by kernel_rfl) (fun _ _ _ h=>h) (Or.inl ⟨by rfl,?_⟩) hS ?_;rotate_left;(next=>(rintro X ⟨s1,s2,s3⟩;(try simp only [aI]);go_simp;rfl));simp only [aM]));(refine cV (fun K1 hK1=>?_);simp only [aM];rw [bA (by rfl)];go_simp);refine (HI1.out _ HLD.out.low).mono ?_;rintro e' w3 ⟨rfl,hw3⟩;have hS3:w3.cell? ⟨q,0,none⟩=some (.pointer (some ⟨g,0,none⟩))/\w3.cell? ⟨wr.heap.size,0,none⟩=some (.int .i64 x1)/\w3.cell? ⟨wr.heap.size,1,none⟩=some (.int .i64 x2):=⟨cN hw3 hS.1,cN hw3 hS.2.1,cN hw3 hS.2.2⟩;have HL3:=aF (HLD.out.keep hw3);have HF3:=aF (HFD.out.trans (Fr.of_below hw3));clear hS hw3 HLD HFD HQD;refine hK1.out _ _ (fun _=>hS3) ?_;clear hK1;(refine cV (fun K1 hK1=>?_);simp only [aM];rw [bA (by rfl)];go_simp);refine (HI2.out _ HL3.out.low).mono ?_;rintro e' w4 ⟨rfl,hw4⟩;have hS:w4.cell? ⟨q,0,none⟩=some (.pointer (some ⟨g,0,none⟩))/\w4.cell? ⟨wr.heap.size,0,none⟩=some (.int .i64 x1)/\w4.cell? ⟨wr.heap.size,1,none⟩=some (.int .i64 x2):=⟨cN hw4 hS3.1,cN hw4 hS3.2.1,cN hw4 hS3.2.2⟩;have HL4:=aF (HL3.out.keep hw4);have HF4:=aF (HF3.out.trans (Fr.of_below hw4));clear hS3 hw4 HL3 HF3;refine hK1.out _ _ (fun _=>hS) ?_;clear hK1;refine eJ (v:=tx (i2 ++ [59])) (by kernel_rfl) (fun _ _ _ h=>h) (Or.inl ⟨by rfl,?_⟩) hS ?_
  ·rintro X hX;(try simp only [aI]);go_simp;exact (ba_app' _ _).trans (by simp [bl])
  (simp only [aM]);(refine cV (fun K1 hK1=>?_);simp only [aM];rw [bA (by rfl)];go_simp);have hbw:=(aX w4.heap.size w4).alloc (aY _) (.cells #[tx wd,tx i1,tx (i2 ++ [59])] 9);have HLR:=aF (HL4.out.keep hbw);have HFR2:=aF (HF4.out.trans (Fr.of_below hbw));have hS5:=bJ (cN hbw hS.1) (bJ (cN hbw hS.2.1) (cN hbw hS.2.2));refine hK1.out _ _ (fun _=>hS5) ?_;clear hK1 hbw;(refine cV (fun K1 hK1=>?_);simp only [aM];rw [bA (by rfl)];go_simp);refine (eB HLR.out [wd,i1,i2 ++ [59]] (wd ++ [32] ++ i1 ++ [32] ++ i2) _ (dV w4 [wd,i1,i2 ++ [59]]) (by rw [join3];simp) (by decide) (by simp) (by simp only [bB,bK,bP];omega)).mono ?_;rintro e' w9 ⟨rfl,hl9,hf9⟩;have HL9:=aF hl9;have HF9:=aF (HFR2.out.trans hf9);refine hK1.out _ _ (fun h=>absurd h (by decide)) ?_;refine dA ?_;clear hl9 hf9 hK1;go_wp2_with fail
  go_roundw
  case rel=>exact ⟨k+1,by omega,by go_num,by rw [HNX.out];exact HL9,HF9⟩
  case measure=>simp [intOf];omega
end
section
open Go Go.RowKit
def sR5 (b:Bdy) (f:Fct) (k:Nat):List UInt8:=(f.live.drop k).flatMap (sO b.regions) ++ [125,10]
def sR4 (b:Bdy) (f:Fct):List UInt8:=f.inval.flatMap (prLine wInv) ++ sR5 b f 0
def sR3 (b:Bdy) (f:Fct):List UInt8:=f.killed.flatMap (prLine wKill) ++ sR4 b f
def sR2 (b:Bdy) (f:Fct):List UInt8:=f.edges.flatMap (prLine wEdge) ++ sR3 b f
def sR1 (b:Bdy) (f:Fct) (k:Nat):List UInt8:=(f.loans.drop k).flatMap (sR b.locals b.regions) ++ sR2 b f
theorem xEI (b:Bdy) (f:Fct):printF b f=headP wFacts b ++ sR1 b f 0:=by
 simp [printF,sR1,sR2,sR3,sR4,sR5]
theorem xAF {b:Bdy} {f:Fct} {k:Nat} (h:k<f.loans.length):sR1 b f k=sR b.locals b.regions f.loans[k] ++ sR1 b f (k+1):=by
 unfold sR1;rw [cY h,List.flatMap_cons,bM]
theorem xDO {b:Bdy} {f:Fct} {k:Nat} (h:f.loans.length<=k):sR1 b f k=sR2 b f:=by unfold sR1;rw [bE h];rfl
theorem xAE {b:Bdy} {f:Fct} {k:Nat} (h:k<f.live.length):sR5 b f k=sO b.regions f.live[k] ++ sR5 b f (k+1):=by
 unfold sR5;rw [cY h,List.flatMap_cons,bM]
theorem xDN {b:Bdy} {f:Fct} {k:Nat} (h:f.live.length<=k):sR5 b f k=[125,10]:=by unfold sR5;rw [bE h];rfl
structure FitF (f:Fct):Prop where
 pt:∀l∈f.loans,fitN l.pt
 pj:∀l∈f.loans,∀x∈l.place.proj,fitJ x
 ed:∀x∈f.edges,fitN x.1/\fitN x.2
 ki:∀x∈f.killed,fitN x.1/\fitN x.2
 iv:∀x∈f.inval,fitN x.1/\fitN x.2
 li:∀x∈f.live,fitN x.1/\fitN x.2
structure PF (w0:World) (n g:Nat) (b:Bdy) (bh:BH) (f:Fct) (fh:FH) (bs:List UInt8) (d:Nat) (W:World):Prop where
 P:PW w0 n g b bh bs d W
 fc:W.heap[n+1]?=some (.cells (fcC f fh).toArray 39 (0,0))
 nf:n+1<g
theorem PF.keep {w0:World} {n g:Nat} {b:Bdy} {bh:BH} {f:Fct} {fh:FH} {bs:List UInt8} {d:Nat} {W W':World} (H:PF w0 n g b bh f fh bs d W) (hb:Below W.heap.size W W'):PF w0 n g b bh f fh bs d W':=
 ⟨H.P.keep hb,cP H.fc hb,H.nf⟩
theorem PF.fr {w0:World} {n g:Nat} {b:Bdy} {bh:BH} {f:Fct} {fh:FH} {bs bs':List UInt8} {d d':Nat} {W W':World} (H:PF w0 n g b bh f fh bs d W) (L:Lives w0 (g+2) g b bh bs' d' W') (hf:Fr g W W'):PF w0 n g b bh f fh bs' d' W':=
 ⟨H.P.fr L hf,heap_fr H.fc hf (by have:=H.nf;omega) (by decide),H.nf⟩
theorem PF.cells {w0:World} {n g:Nat} {b:Bdy} {bh:BH} {f:Fct} {fh:FH} {bs:List UInt8} {d:Nat} {W:World} (H:PF w0 n g b bh f fh bs d W):
 (aA (bdC b bh) W n)/\(aA (fcC f fh) W (n+1))/\W.cell? ⟨g+1,0,none⟩=some (.pointer (some ⟨g,0,none⟩)):=
 ⟨cQ H.P.bd,cQ H.fc,cQ H.P.pc 0 _ rfl⟩
theorem qS {b:Bdy} {f:Fct} (h:¬okF b f):pfR b f=([],16):=by unfold pfR;rw [aZ h]
theorem xCL {b:Bdy} {f:Fct} (h:okF b f):pfR b f=(printF b f,0):=by unfold pfR;rw [bA h]
theorem zP (t:List UInt8):Lib.trimPrefix (38 :: t) [38]=t:=by simp [Lib.trimPrefix,Lib.hasPrefix]
theorem pT {b:Bdy} (h:chkB b=0):cntP b.blocks<=4611686018427387904/\b.blocks.length<=1000000:=by
 have D:=dS (oA h);have S:=pV h;have h1:=xFI (l:=b.blocks) (m:=65535) (fun x hx=>(S.blks x hx).1);have h2:=D.nblk.2;exact ⟨by omega,by omega⟩
end
section
open Go Go.ChangeShapes Go.WideShapes Go.ChangeAt Go.RowKit Go.Joins Go.Deep
section
variable {H:Type} (enc:TypeId × Value->H) (w:World) (base:Nat) (spare:Nat->Bool) (held:Bool)
def Opn {α : Type} (t:TypeId) (k:Nat) (R:Rd α):Prop:=∀(b o n:Nat) (cs:List Value) (y:DataW H × List MemPlace),cs.length=k->(∀j,j<k->w.cell? ⟨b,o+j,none⟩=cs[j]?)->DataW.trod enc Tryz.prog w base spare held n t cs=some y->∃z,R w w.heap.size b o z
end
section
variable {H:Type} {enc:TypeId × Value->H} {w:World} {base:Nat} {spare:Nat->Bool} {held:Bool}
def RNZ:Rd ByteArray:=fun w B b o x=>RN w B b o x/\x.size<=9223372036854775807
def RBool:Rd Bool:=fun w _ b o x=>w.cell? ⟨b,o,none⟩=some (.bool x)
def RZ {α : Type} (R:Rd α) (G : α -> Prop):Rd α := fun w B b o x=>R w B b o x/\G x
theorem xCD {z:Int} (h:(Lit.int .i64 z).wf=true):fitN z:=by
 simp [Lit.wf,IntKind.min,IntKind.max,IntKind.signed,IntKind.bits] at h;exact ⟨by omega,by omega⟩
theorem dW:Opn enc w base spare held 3 1 (RZ RInt fitN):=fun b o n cs y hl hc h=>by
 obtain ⟨z,rfl,_,hw⟩:=DataW.trod_int (k:= .i64) Tryz.underlying3 h;exact ⟨z,hc 0 (by omega),xCD hw⟩
theorem xEL:Opn enc w base spare held 2 1 (RZ RInt fitN):=fun b o n cs y hl hc h=>by
 obtain ⟨z,rfl,_,hw⟩:=DataW.trod_int (k:= .i64) Tryz.underlying2 h;exact ⟨z,hc 0 (by omega),xCD hw⟩
theorem jV {α : Type} {k:Nat} {R:Rd α} {G : α -> Prop} {w:World} {B b o:Nat} {xs:List α} (h:RSl k (RZ R G) w B b o xs):RSl k R w B b o xs/\∀x∈xs,G x:=by
 obtain ⟨A,c,h1,h2,h3,h4⟩:=h;refine ⟨⟨A,c,h1,h2,h3,fun hx=>?_⟩,fun x hx=>?_⟩
 ·obtain ⟨b,o,e,hb,g⟩:=h4 hx;exact ⟨b,o,e,hb,fun i x hi=>(g i x hi).1⟩
 ·obtain ⟨i,hi,rfl⟩:=List.mem_iff_getElem.1 hx;obtain ⟨b,o,e,hb,g⟩:=h4 (by omega);exact (g i _ (bD hi)).2
theorem sG:Opn enc w base spare held 4 1 RBool:=fun b o n cs y hl hc h=>by
 obtain ⟨z,rfl,_⟩:=DataW.trod_bool Tryz.underlying4 h;exact ⟨z,hc 0 (by omega)⟩
theorem qU:Opn enc w base spare held 9 1 RNZ:=fun b o n cs y hl hc h=>by
 obtain ⟨z,rfl,_,hz⟩:=DataW.trod_string Tryz.underlying9 h;exact ⟨z,hc 0 (by omega),by unfold maxLen at hz;omega⟩
theorem mT {α : Type} {R:Rd α} {t e:TypeId} {k:Nat} (ht:Tryz.prog.underlying t=some (.slice e)) (hk:Tryz.prog.cellsOf e=k) (hk0:0<k) (hR:Opn enc w base spare held e k R):Opn enc w base spare held t 1 (RSl k R):=fun b o n cs y hl hc h=>by
 obtain ⟨A,c,xs,rfl,hs⟩:=xD ht hk hk0 h hR;exact ⟨xs,A,c,hc 0 (by omega),hs.le,hs.big,hs.sl⟩
theorem dD {α : Type} {R:Rd α} {e:TypeId} {fs:Array Field} {n K b o:Nat} {cs:List Value} {y:DataW H × List MemPlace} (he:Tryz.prog.underlying e=some (.struct fs)) (h:DataW.trod enc Tryz.prog w base spare held n e cs=some y) (hl:cs.length=K)
 (hc:∀j,j<K->w.cell? ⟨b,o+j,none⟩=cs[j]?) (j:Nat) {f:Field} (hf:fs[j]?=some f) (off k:Nat) (ho:f.offset=off) (hk:Tryz.prog.cellsOf f.type=k) (hok:off+k<=K) (hR:Opn enc w base spare held f.type k R):∃z,R w w.heap.size b (o+off) z:=by
 obtain ⟨ys,m,_,_,_,hyl,hfl⟩:=DataW.trod_struct he h;have hjl:j<fs.size:=(Array.getElem?_eq_some_iff.1 hf).1;have h1:=hfl j f hf;rw [ho,hk,bD (show j<ys.length by omega)] at h1;refine hR b (o+off) m _ _ (by simp;omega) (fun i hi=>?_) h1;rw [List.getElem?_take,bA hi,List.getElem?_drop,Nat.add_assoc];exact hc (off+i) (by omega)
theorem xGK:Opn enc w base spare held 102 2 (RZ RPj fitJ):=fun b o n cs y hl hc h=>by
 obtain ⟨x0,h0⟩:=dD (R:=RZ RInt fitN) Tryz.underlying102 h hl hc 0 rfl 0 1 rfl (by kernel_rfl) (by omega) dW;obtain ⟨x1,h1⟩:=dD (R:=RZ RInt fitN) Tryz.underlying102 h hl hc 1 rfl 1 1 rfl (by kernel_rfl) (by omega) dW;exact ⟨⟨x0,x1⟩,⟨h0.1,h1.1⟩,h1.2⟩
def FitP (p:Plc):Prop:=∀x∈p.proj,fitJ x
theorem sF:Opn enc w base spare held 46 2 (RZ RPl FitP):=fun b o n cs y hl hc h=>by
 obtain ⟨x0,h0⟩:=dD (R:=RZ RInt fitN) Tryz.underlying46 h hl hc 0 rfl 0 1 rfl (by kernel_rfl) (by omega) dW;obtain ⟨x1,h1⟩:=dD (R:=RSl 2 (RZ RPj fitJ)) Tryz.underlying46 h hl hc 1 rfl 1 1 rfl (by kernel_rfl) (by omega) (mT Tryz.underlying44 (by kernel_rfl) (by omega) xGK);obtain ⟨g1,g2⟩:=jV h1;exact ⟨⟨x0,x1⟩,⟨h0.1,g1⟩,g2⟩
theorem xCM:Opn enc w base spare held 160 4 (RZ ROp FitO):=fun b o n cs y hl hc h=>by
 obtain ⟨x0,h0⟩:=dD (R:=RZ RInt fitN) Tryz.underlying160 h hl hc 0 rfl 0 1 rfl (by kernel_rfl) (by omega) dW;obtain ⟨x1,h1⟩:=dD (R:=RZ RPl FitP) Tryz.underlying160 h hl hc 1 rfl 1 2 rfl (by kernel_rfl) (by omega) sF;obtain ⟨x2,h2⟩:=dD (R:=RZ RInt fitN) Tryz.underlying160 h hl hc 2 rfl 3 1 rfl (by kernel_rfl) (by omega) xEL;exact ⟨⟨x0,x1,x2⟩,⟨h0.1,h1.1,h2.1⟩,⟨h1.2,h2.2⟩⟩
theorem xGI:Opn enc w base spare held 85 7 (RZ RRv FitR):=fun b o n cs y hl hc h=>by
 obtain ⟨x0,h0⟩:=dD (R:=RZ RInt fitN) Tryz.underlying85 h hl hc 0 rfl 0 1 rfl (by kernel_rfl) (by omega) dW;obtain ⟨x1,h1⟩:=dD (R:=RZ RInt fitN) Tryz.underlying85 h hl hc 1 rfl 1 1 rfl (by kernel_rfl) (by omega) dW;obtain ⟨x2,h2⟩:=dD (R:=RZ RInt fitN) Tryz.underlying85 h hl hc 2 rfl 2 1 rfl (by kernel_rfl) (by omega) dW;obtain ⟨x3,h3⟩:=dD (R:=RBool) Tryz.underlying85 h hl hc 3 rfl 3 1 rfl (by kernel_rfl) (by omega) sG;obtain ⟨x4,h4⟩:=dD (R:=RZ RPl FitP) Tryz.underlying85 h hl hc 4 rfl 4 2 rfl (by kernel_rfl) (by omega) sF;obtain ⟨x5,h5⟩:=dD (R:=RSl 4 (RZ ROp FitO)) Tryz.underlying85 h hl hc 5 rfl 6 1 rfl (by kernel_rfl) (by omega) (mT Tryz.underlying59 (by kernel_rfl) (by omega) xCM);obtain ⟨g1,g2⟩:=jV h5;exact ⟨⟨x0,x1,x2,x3,x4,x5⟩,⟨h0.1,h1.1,h2.1,h3,h4.1,g1⟩,⟨h4.2,g2⟩⟩
theorem xGH:Opn enc w base spare held 87 11 (RZ RSt FitS):=fun b o n cs y hl hc h=>by
 obtain ⟨x0,h0⟩:=dD (R:=RZ RInt fitN) Tryz.underlying87 h hl hc 0 rfl 0 1 rfl (by kernel_rfl) (by omega) dW;obtain ⟨x1,h1⟩:=dD (R:=RZ RPl FitP) Tryz.underlying87 h hl hc 1 rfl 1 2 rfl (by kernel_rfl) (by omega) sF;obtain ⟨x2,h2⟩:=dD (R:=RZ RRv FitR) Tryz.underlying87 h hl hc 2 rfl 3 7 rfl (by kernel_rfl) (by omega) xGI;obtain ⟨x3,h3⟩:=dD (R:=RZ RInt fitN) Tryz.underlying87 h hl hc 3 rfl 10 1 rfl (by kernel_rfl) (by omega) dW;exact ⟨⟨x0,x1,x2,x3⟩,⟨h0.1,h1.1,h2.1,h3.1⟩,⟨h1.2,h2.2⟩⟩
def NmTm (x:Trm):Prop:=x.name.size<=9223372036854775807/\FitTm x
theorem xGG:Opn enc w base spare held 61 6 (RZ RTm NmTm):=fun b o n cs y hl hc h=>by
 obtain ⟨x0,h0⟩:=dD (R:=RZ RInt fitN) Tryz.underlying61 h hl hc 0 rfl 0 1 rfl (by kernel_rfl) (by omega) dW;obtain ⟨x1,h1⟩:=dD (R:=RSl 1 (RZ RInt fitN)) Tryz.underlying61 h hl hc 1 rfl 1 1 rfl (by kernel_rfl) (by omega) (mT Tryz.underlying58 (by kernel_rfl) (by omega) dW);obtain ⟨x2,h2⟩:=dD (R:=RSl 4 (RZ ROp FitO)) Tryz.underlying61 h hl hc 2 rfl 2 1 rfl (by kernel_rfl) (by omega) (mT Tryz.underlying59 (by kernel_rfl) (by omega) xCM);obtain ⟨x3,h3⟩:=dD (R:=RZ RPl FitP) Tryz.underlying61 h hl hc 3 rfl 3 2 rfl (by kernel_rfl) (by omega) sF;obtain ⟨x4,h4⟩:=dD (R:=RNZ) Tryz.underlying61 h hl hc 4 rfl 5 1 rfl (by kernel_rfl) (by omega) qU;obtain ⟨g1,g2⟩:=jV h1;obtain ⟨k1,k2⟩:=jV h2;exact ⟨⟨x0,x1,x2,x3,x4⟩,⟨h0.1,g1,k1,h3.1,h4.1⟩,h4.2,⟨h3.2,k2,g2⟩⟩
structure NmBk (x:Blk):Prop where
 nm:x.term.name.size<=9223372036854775807
 tm:FitTm x.term
 st:∀s∈x.stmts,FitS s
theorem xGM:Opn enc w base spare held 64 7 (RZ RBk NmBk):=fun b o n cs y hl hc h=>by
 obtain ⟨x0,h0⟩:=dD (R:=RSl 11 (RZ RSt FitS)) Tryz.underlying64 h hl hc 0 rfl 0 1 rfl (by kernel_rfl) (by omega) (mT Tryz.underlying62 (by kernel_rfl) (by omega) xGH);obtain ⟨x1,h1⟩:=dD (R:=RZ RTm NmTm) Tryz.underlying64 h hl hc 1 rfl 1 6 rfl (by kernel_rfl) (by omega) xGG;obtain ⟨g1,g2⟩:=jV h0;exact ⟨⟨x0,x1⟩,⟨g1,h1.1⟩,⟨h1.2.1,h1.2.2,g2⟩⟩
def NmLc (x:Lc):Prop:=x.name.size<=9223372036854775807/\fitN x.type
theorem xGL:Opn enc w base spare held 48 2 (RZ RLc NmLc):=fun b o n cs y hl hc h=>by
 obtain ⟨x0,h0⟩:=dD (R:=RNZ) Tryz.underlying48 h hl hc 0 rfl 0 1 rfl (by kernel_rfl) (by omega) qU;obtain ⟨x1,h1⟩:=dD (R:=RZ RInt fitN) Tryz.underlying48 h hl hc 1 rfl 1 1 rfl (by kernel_rfl) (by omega) dW;exact ⟨⟨x0,x1⟩,⟨h0.1,h1.1⟩,h0.2,h1.2⟩
theorem xGF:Opn enc w base spare held 81 5 (RZ RTy FitT):=fun b o n cs y hl hc h=>by
 obtain ⟨x0,h0⟩:=dD (R:=RZ RInt fitN) Tryz.underlying81 h hl hc 0 rfl 0 1 rfl (by kernel_rfl) (by omega) dW;obtain ⟨x1,h1⟩:=dD (R:=RBool) Tryz.underlying81 h hl hc 1 rfl 1 1 rfl (by kernel_rfl) (by omega) sG;obtain ⟨x2,h2⟩:=dD (R:=RZ RInt fitN) Tryz.underlying81 h hl hc 2 rfl 2 1 rfl (by kernel_rfl) (by omega) dW;obtain ⟨x3,h3⟩:=dD (R:=RZ RInt fitN) Tryz.underlying81 h hl hc 3 rfl 3 1 rfl (by kernel_rfl) (by omega) dW;obtain ⟨x4,h4⟩:=dD (R:=RSl 1 (RZ RInt fitN)) Tryz.underlying81 h hl hc 4 rfl 4 1 rfl (by kernel_rfl) (by omega) (mT Tryz.underlying58 (by kernel_rfl) (by omega) dW);obtain ⟨g1,g2⟩:=jV h4;exact ⟨⟨x0,x1,x2,x3,x4⟩,⟨h0.1,h1,h2.1,h3.1,g1⟩,⟨h3.2,g2⟩⟩
def FitPr (x:Int × Int):Prop:=fitN x.1/\fitN x.2
theorem xGJ:Opn enc w base spare held 77 2 (RZ RPr FitPr):=fun b o n cs y hl hc h=>by
 obtain ⟨ys,m,_,_,_,hyl,hfl⟩:=DataW.trod_array Tryz.underlying77 h;have hk:Tryz.prog.cellsOf 3=1:=by kernel_rfl
 have g:∀i,i<2->∃z:Int,w.cell? ⟨b,o+i,none⟩=some (.int .i64 z)/\fitN z:=fun i hi=>by
  have h1:=hfl i hi;rw [hk,Nat.mul_one,bD (show i<ys.length by omega)] at h1
  obtain ⟨z,hz⟩:=dW b (o+i) m _ _ (by simp;omega) (fun j hj=>by
   obtain rfl:j=0:=by omega
   rw [Nat.add_zero,List.getElem?_take,bA (by omega),List.getElem?_drop]
   exact hc (i+0) (by omega)) h1
  exact ⟨z,hz⟩
 obtain ⟨z0,h0,f0⟩:=g 0 (by omega);obtain ⟨z1,h1,f1⟩:=g 1 (by omega);exact ⟨(z0,z1),⟨h0,h1⟩,⟨f0,f1⟩⟩
theorem kT {α : Type} {k:Nat} {R:Rd α} {G : α -> Prop} {A:Option Addr} {c:Nat} {xs:List α} (h:Slc k (RZ R G) w A c xs):Slc k R w A c xs/\∀x∈xs,G x:=by
 refine ⟨⟨fun hx=>?_,h.le,h.big⟩,fun x hx=>?_⟩
 ·obtain ⟨b,o,e,hb,g⟩:=h.sl hx;exact ⟨b,o,e,hb,fun i x hi=>(g i x hi).1⟩
 ·obtain ⟨i,hi,rfl⟩:=List.mem_iff_getElem.1 hx;obtain ⟨b,o,e,hb,g⟩:=h.sl (by omega);exact (g i _ (bD hi)).2
theorem oP {α : Type} {k:Nat} {R:Rd α} {t e:TypeId} {n:Nat} {v:Value} {y:DataW H × List MemPlace} (ht:Tryz.prog.underlying t=some (.slice e)) (hk:Tryz.prog.cellsOf e=k) (hk0:0<k) (hR:Opn enc w base spare held e k R)
 (h:DataW.trod enc Tryz.prog w base spare held n t [v]=some y):∃A c xs,v = .slice A (List.length xs) c/\Slc k R w A c xs:=by
 obtain ⟨A,c,xs,e,hs⟩:=xD ht hk hk0 h hR;exact ⟨A,c,xs,by simpa using e,hs⟩
theorem xE {r:Reach} {b0:Nat} {v:Value} {d:DataW H} {p:List MemPlace} (hv:Value.okWide Tryz.prog w r b0 28 v) (h:DataW.Trod enc Tryz.prog w base spare held 28 v d p):
 ∃b bh,v = .agg (bdC b bh).toArray/\BdAt w b bh/\NmOk b/\FitB b:=by
 obtain ⟨cs,rfl,hcs⟩:=okWide_struct Tryz.underlying28 hv;have hc7:cs.size=7:=hcs.trans (by kernel_rfl);obtain ⟨fuel,hf⟩:=h;have hl:(Value.agg cs).cells.toList.length=7:=by simpa [Value.cells] using hc7
 have hg:∀i:Nat,(Value.agg cs).cells.toList[i]?=cs[i]?:=fun i=>by simp only [Value.cells];exact Array.getElem?_toList ..
 have F:=fun (j:Nat) (f:Field) hj=>yF (j:=j) (f:=f) Tryz.underlying28 (by kernel_rfl) hf hl hj
 obtain ⟨v0,m0,y0,e0,g0⟩:=F 0 _ rfl;obtain ⟨v1,m1,y1,e1,g1⟩:=F 1 _ rfl;obtain ⟨v2,m2,y2,e2,g2⟩:=F 2 _ rfl;obtain ⟨v3,m3,y3,e3,g3⟩:=F 3 _ rfl;obtain ⟨v4,m4,y4,e4,g4⟩:=F 4 _ rfl;obtain ⟨v5,m5,y5,e5,g5⟩:=F 5 _ rfl;obtain ⟨v6,m6,y6,e6,g6⟩:=F 6 _ rfl;clear F;rw [hg] at e0 e1 e2 e3 e4 e5 e6;obtain ⟨nm,q0,_,hn⟩:=DataW.trod_string Tryz.underlying9 g0;obtain rfl:v0 = .string nm:=by simpa using q0
 obtain ⟨ar,q5,_,_⟩:=DataW.trod_int (k:= .i64) Tryz.underlying3 g5;obtain rfl:v5 = .int .i64 ar:=by simpa using q5
 obtain ⟨A1,c1,rg,rfl,s1⟩:=oP Tryz.underlying22 (by kernel_rfl) (by omega) qU g1;obtain ⟨A2,c2,ol,rfl,s2⟩:=oP Tryz.underlying23 (by kernel_rfl) (by omega) xGJ g2;obtain ⟨A3,c3,ts,rfl,s3⟩:=oP Tryz.underlying24 (by kernel_rfl) (by omega) xGF g3;obtain ⟨A4,c4,ls,rfl,s4⟩:=oP Tryz.underlying25 (by kernel_rfl) (by omega) xGL g4;obtain ⟨A5,c5,bs,rfl,s5⟩:=oP Tryz.underlying26 (by kernel_rfl) (by omega) xGM g6;obtain ⟨s1,z1⟩:=kT (R:=RN) (G:=fun x=>x.size<=9223372036854775807) s1;obtain ⟨s2,z2⟩:=kT s2;obtain ⟨s3,z3⟩:=kT s3;obtain ⟨s4,z4⟩:=kT s4;obtain ⟨s5,z5⟩:=kT s5;refine ⟨⟨nm,rg,ol,ts,ls,ar,bs⟩,⟨A1,c1,A2,c2,A3,c3,A4,c4,A5,c5⟩,?_,⟨s1,s2,s3,s4,s5⟩,⟨by unfold maxLen at hn;simp only;omega,z1,fun x hx=>(z4 x hx).1,fun x hx=>(z5 x hx).nm⟩,⟨z3,fun x hx=>(z4 x hx).2,fun x hx=>(z5 x hx).st,fun x hx=>(z5 x hx).tm⟩⟩;congr 1
 apply Array.ext
 ·rw [hc7];rfl
 ·intro i h1 h2;have hi:i<7:=by omega
  rcases (show i=0\/i=1\/i=2\/i=3\/i=4\/i=5\/i=6 by omega) with rfl | rfl | rfl | rfl | rfl | rfl | rfl
  all_goals (apply Option.some.inj;rw [<- Array.getElem?_eq_getElem h1];first | (rw [e0];rfl) | (rw [e1];rfl) | (rw [e2];rfl) | (rw [e3];rfl) | (rw [e4];rfl) | (rw [e5];rfl) | (rw [e6];rfl))
end
end
end Go.Proofs.YtmknfbfppmkcfaaGreatDoor
