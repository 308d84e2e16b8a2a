/-
  Parts of the proof: F2 F3 F4.
-/
import Derived.Test.YtbnljlpefpllcaaGreatDoorME0
import Derived.Test.YtbnljlpefpllcaaGreatDoorME5
import Derived.Test.YtbnljlpefpllcaaGreatDoorME20
import Derived.Test.YtbnljlpefpllcaaGreatDoorME24
import Derived.Test.YtbnljlpefpllcaaGreatDoorME4
import Derived.Test.YtbnljlpefpllcaaGreatDoorME16
import Derived.Test.YtbnljlpefpllcaaGreatDoorME15
import Derived.Test.YtbnljlpefpllcaaGreatDoorME14
import Derived.ChangeKeysEq
namespace Go.Proofs.YtbnljlpefpllcaaGreatDoor
set_option maxRecDepth 100000
set_option maxHeartbeats 16000000
section
open Go Go.RowKit
theorem gU {α : Type} (f : α → List UInt8) {l:List α} {k:Nat} (h:k<l.length):(l.take (k+1)).flatMap f=(l.take k).flatMap f ++ f l[k]:=by
 rw [gF h,cA];simp
theorem iZ {α : Type} (f : α → List UInt8) {P S:List UInt8} {l:List α} {m:Nat} (h:(P ++ l.flatMap f ++ S).length≤m) (k:Nat):(P ++ (l.take k).flatMap f).length≤m:=by
 have e:l.flatMap f=(l.take k).flatMap f ++ (l.drop k).flatMap f:=by rw [← cA,cG]
 rw [e] at h
 simp only [aZ] at h ⊢
 omega
theorem jE {t:List ByteArray} {s:ByteArray} (h:memN s t=true) (ht:t.length≤65536):0≤idxN s 0 t∧idxN s 0 t<9223372036854775808:=by
 obtain ⟨j,h1,h2⟩:=uD s t 0 h
 have hj:=(List.getElem?_eq_some_iff.1 h2).1
 rw [h1]
 omega
def OB (base:Nat) (X:World) (v:Value) (acc:List UInt8):Prop:=X.ownsRow base 5 1 v acc.length (acc.map encB)
theorem dE (base:Nat) (v:Value) (acc:List UInt8) (n:Int) (w:World) (hown:OB base w v acc) (hbase:base≤w.heap.size) (hm:acc.length≤1000000) (h0:0≤n) (h1:n<9223372036854775808):
 Calls Tryz.prog 66 #[v,.int .i64 n] w fun e' w'=>∃v',e' = .returned v'∧OB base w' v' (acc ++ putI n)∧Below base w w'∧(∀j,j<w.heap.size→some j≠v.ownBlock→w'.heap[j]?=w.heap[j]?):=
 (xZ base v acc.length acc n w hown hbase (by omega) h0 h1).mono fun e' w' ⟨A,c,h2,h3,h4,h5⟩=>⟨_,h2,by unfold OB;rw [aZ];exact h3,h4,h5⟩
theorem OB.slice {base:Nat} {X:World} {v:Value} {acc:List UInt8} (h:OB base X v acc):∃A c,v = .slice A acc.length c:=gR h
theorem OB.nil (base:Nat) (X:World):OB base X (.slice none 0 0) []:=World.ownsRow_nil _ _ _ _
theorem OB.keep {base:Nat} {X Y:World} {v:Value} {acc:List UInt8} (h:OB base X v acc) (hb:Below X.heap.size X Y):OB base Y v acc:=dX h hb
theorem xCU {X:World} {b b' n:Nat} {e:TypeId} {v:Value} {xs:List Value} (h:X.ownsRow b e 1 v n xs) (hb:b'≤b):X.ownsRow b' e 1 v n xs:=by
 refine ⟨h.1,?_⟩
 rcases h.2 with h1 | ⟨g,cap,cur,h1,h2,h3⟩
 ·exact .inl h1
 ·exact .inr ⟨g,cap,cur,h1,bX hb h2,h3⟩
def q1 (t:List ByteArray) (b:Bdy):List UInt8:=nameW t b.name ++ putL b.regions.length
def q2 (t:List ByteArray) (b:Bdy):List UInt8:=q1 t b ++ b.regions.flatMap (nameW t) ++ putL b.outl.length
def q3 (t:List ByteArray) (b:Bdy):List UInt8:=q2 t b ++ b.outl.flatMap pairW ++ putL b.types.length
def q4 (t:List ByteArray) (b:Bdy):List UInt8:=q3 t b ++ b.types.flatMap typeW ++ putL b.locals.length
theorem xEJ (t:List ByteArray) (b:Bdy):declW t b=q4 t b ++ b.locals.flatMap (localW t) ++ putI b.args:=by
 unfold declW q4 q3 q2 q1 listW
 simp only [bK]
theorem xGU {t:List ByteArray} {b:Bdy} {m:Nat} (h:(declW t b).length≤m):
 (nameW t b.name).length≤m∧(q1 t b).length≤m∧(q2 t b).length≤m∧(q3 t b).length≤m∧(q4 t b).length≤m∧(∀k,(q1 t b ++ (b.regions.take k).flatMap (nameW t)).length≤m)∧(∀k,(q2 t b ++ (b.outl.take k).flatMap pairW).length≤m)∧(∀k,(q3 t b ++ (b.types.take k).flatMap typeW).length≤m)∧(∀k,(q4 t b ++ (b.locals.take k).flatMap (localW t)).length≤m):=by
 have e4:=xEJ t b
 have e3:declW t b=q3 t b ++ b.types.flatMap typeW ++ (putL b.locals.length ++ (b.locals.flatMap (localW t) ++ putI b.args)):=by rw [e4];unfold q4;simp only [bK]
 have e2:declW t b=q2 t b ++ b.outl.flatMap pairW ++ (putL b.types.length ++ (b.types.flatMap typeW ++ (putL b.locals.length ++ (b.locals.flatMap (localW t) ++ putI b.args)))):=by rw [e3];unfold q3;simp only [bK]
 have e1:declW t b=q1 t b ++ b.regions.flatMap (nameW t) ++ (putL b.outl.length ++ (b.outl.flatMap pairW ++ (putL b.types.length ++ (b.types.flatMap typeW ++ (putL b.locals.length ++ (b.locals.flatMap (localW t) ++ putI b.args)))))):=by rw [e2];unfold q2;simp only [bK]
 have h1:=h;have h2:=h;have h3:=h;have h4:=h
 rw [e1] at h1;rw [e2] at h2;rw [e3] at h3;rw [e4] at h4
 have g1:=iZ (nameW t) h1
 have g2:=iZ pairW h2
 have g3:=iZ typeW h3
 have g4:=iZ (localW t) h4
 have f1:=g1 0;have f2:=g2 0;have f3:=g3 0;have f4:=g4 0
 simp only [List.take_zero,List.flatMap_nil,List.append_nil] at f1 f2 f3 f4
 refine ⟨?_,f1,f2,f3,f4,g1,g2,g3,g4⟩
 unfold q1 at f1
 rw [aZ] at f1
 omega
theorem vM (b:Bdy) (bh:BH) (T:Option Addr) (ct:Nat) (tbl:List ByteArray) (w:World) (H:BdAt w b bh) (hT:Slc 1 RN w T ct tbl) (hg:DGood tbl b) (hlen:(declW tbl b).length≤1000000):
 Calls Tryz.prog 20 #[.agg (bdC b bh).toArray,.slice T tbl.length ct] w fun e' w'=>(∃A c,e' = .returned (.slice A (declW tbl b).length c)∧w'.ownsRow w.heap.size 5 1 (.slice A (declW tbl b).length c) (declW tbl b).length ((declW tbl b).map encB))∧Below w.heap.size w w':=by
 obtain ⟨A1,c1,A2,c2,A3,c3,A4,c4,A5,c5⟩:=bh
 obtain ⟨i0,hi,hz0,hz1,hz2⟩:=info_parts lM
 have HH:=aF H
 have HG:=aF hg
 have r1:=H.reg.le
 have r2:=H.reg.big
 have o1:=H.out.le
 have o2:=H.out.big
 have l1:=H.loc.le
 have l2:=H.loc.big
 have t1:=H.typ.le
 have t2:=H.typ.big
 simp only at r1 r2 o1 o2 l1 l2 t1 t2
 have hgr:=hg.rl
 have hgo:=hg.ol
 have hgy:=hg.yl
 have hgl:=hg.ll
 obtain ⟨k0,k1,k2,k3,k4,hg1,hg2,hg3,hg4⟩:=xGU hlen
 have HG1:=aF hg1
 have HG2:=aF hg2
 have HG3:=aF hg3
 have HG4:=aF hg4
 have HLN:=aF hlen
 have HI:=aF (fun s W hb=>jD tbl s T ct W (hT.keep RN.keeps hb))
 have hn:=jE hg.name hg.tl
 clear H hT hg hg1 hg2 hg3 hg4 hlen
 unfold bdC
 simp only
 change Calls _ _ #[.agg #[Value.string b.name,.slice A1 b.regions.length c1,.slice A2 b.outl.length c2,.slice A3 b.types.length c3,.slice A4 b.locals.length c4,.int .i64 b.args,.slice A5 b.blocks.length c5],_] _ _
 obtain ⟨W,hW⟩:∃W,w.alloc (.cells #[Value.string b.name,.slice A1 b.regions.length c1,.slice A2 b.outl.length c2,.slice A3 b.types.length c3,.slice A4 b.locals.length c4,.int .i64 b.args,.slice A5 b.blocks.length c5] 28)=W:=⟨_,rfl⟩
 have hWs:w.heap.size<W.heap.size:=by rw [← hW];simp
 have HCW:Hid (aA (bdM b A1 c1 A2 c2 A3 c3 A4 c4 A5 c5 []) W w.heap.size):=aF (by rw [← hW];exact cW w [Value.string b.name,.slice A1 b.regions.length c1,.slice A2 b.outl.length c2,.slice A3 b.types.length c3,.slice A4 b.locals.length c4,.int .i64 b.args,.slice A5 b.blocks.length c5] 28)
 have HBW:Hid (Below w.heap.size w W):=aF (by rw [← hW];exact alF _ _)
 have y0:=HCW.out 0 _ rfl
 have y1:=HCW.out 1 _ rfl
 obtain ⟨z0,hz⟩:∃z,idxN b.name 0 tbl=z:=⟨_,rfl⟩
 have HNX:Hid ([] ++ putI z0=nameW tbl b.name):=aF (by rw [← hz];rfl)
 have HZ:=aF hz
 rw [hz] at hn
 clear hz
 go_enter Tryz.func20,Tryz.ntmps20
 go_wp2_with fail
 go_at_call 40
 refine (HI.out b.name W HBW.out).mono ?_
 rintro e' w9 ⟨rfl,hw⟩
 obtain rfl:=hw.symm
 rw [HZ.out]
 go_wp2_with fail
 go_at_call 66
 refine (dE W.heap.size (.slice none 0 0) [] z0 W (OB.nil _ _) (aV W.heap.size W).size (by simp) hn.1 hn.2).mono ?_
 rintro e' w1 ⟨v1,rfl,hown2,hb2,_⟩
 have HO1:=aF hown2
 have HB1:=aF ((aV W.heap.size W).trans hb2)
 clear hown2 hb2
 rw [HNX.out] at HO1
 clear y0 y1
 have HCC:=aF (cells_kept HCW.out HB1.out)
 have y1:=HCC.out 1 _ rfl
 go_wp2_with fail
 go_at_call 66
 refine (dE W.heap.size v1 (nameW tbl b.name) (b.regions.length:Int) w1 HO1.out HB1.out.size (by omega) (by omega) (by omega)).mono ?_
 rintro e' w2 ⟨v2,rfl,hown2,hb2,_⟩
 have HO2:=aF hown2
 have HB2:=aF (HB1.out.trans hb2)
 clear hown2 hb2
 have HO3:Hid (OB W.heap.size w2 v2 (q1 tbl b ++ (b.regions.take 0).flatMap (nameW tbl))):=aF (by simpa [q1,putI] using HO2.out)
 clear y1 HCC HO1 HB1 HO2 HZ HNX hn
 go_wp2_with fail
 go_loopw [5,6] (fun v i wr=>∃k:Nat,k≤b.regions.length∧i = .int .i64 k∧Hid (OB W.heap.size wr v (q1 tbl b ++ (b.regions.take k).flatMap (nameW tbl)))∧Hid (Below W.heap.size W wr)) (fun _ i _=>b.regions.length - (intOf i).toNat)
 case atStart=>exact ⟨0,by omega,rfl,HO3,HB2⟩
 case round=>
  clear HO3 HB2
  obtain ⟨k,hk,rfl,HO,HB⟩:=hrel
  have HCC:=aF (cells_kept HCW.out HB.out)
  obtain ⟨y0,y1,y2,y3,y4,y5,y6⟩:=aQ HCC.out
  by_cases hlt:k<b.regions.length
  next=>
   have HST:=aF (gU (nameW tbl) hlt)
   have hkl:=HG1.out k
   have hkl2:=HG1.out (k+1)
   have hmem:=bM hlt
   obtain ⟨b5,o5,rfl,hb5,y⟩:=HH.out.reg.sl.at_ hlt
   have hn:=jE (HG.out.reg _ hmem) HG.out.tl
   generalize b.regions[k]=x at *
   have p0:wr.cell? ⟨b5,o5+k,none⟩=some (.string x):=cell_keep (keep0 HB.out HBW.out) (by simpa [RN] using y)
   obtain ⟨z,hz⟩:∃z,idxN x 0 tbl=z:=⟨_,rfl⟩
   have HZ:=aF hz
   rw [hz] at hn
   have HNX:Hid (q1 tbl b ++ (b.regions.take (k+1)).flatMap (nameW tbl)=q1 tbl b ++ (b.regions.take k).flatMap (nameW tbl) ++ putI z):=aF (by rw [HST.out,← hz,bK];rfl)
   clear y hz
   go_wp2_with fail
   go_at_call 40
   refine (HI.out x wr (keep0 HB.out HBW.out)).mono ?_
   rintro e' w9 ⟨rfl,hw⟩
   obtain rfl:=hw.symm
   rw [HZ.out]
   go_wp2_with fail
   go_at_call 66
   refine (dE W.heap.size u5 _ z wr HO.out HB.out.size (by omega) hn.1 hn.2).mono ?_
   rintro e' w2 ⟨v2,rfl,hown2,hb2,_⟩
   have HO2:=aF hown2
   have HB2:=aF (HB.out.trans hb2)
   clear hown2 hb2
   rw [← HNX.out] at HO2
   go_wp2_with fail
   go_roundw
   case rel=>exact ⟨k+1,by omega,by go_num,HO2,HB2⟩
   case measure=>simp [intOf];omega
  next=>
   have hke:k=b.regions.length:=by omega
   have HO1:Hid (OB W.heap.size wr u5 (q1 tbl b ++ b.regions.flatMap (nameW tbl))):=aF (by have h:=HO.out;rw [hke,bZ] at h;exact h)
   have hml:(q1 tbl b ++ b.regions.flatMap (nameW tbl)).length≤1000000:=by have h:=HG1.out k;rw [hke,bZ] at h;exact h
   clear hke HO
   go_wp2_with fail
   go_at_call 66
   refine (dE W.heap.size u5 (q1 tbl b ++ b.regions.flatMap (nameW tbl)) (b.outl.length:Int) wr HO1.out HB.out.size (by omega) (by omega) (by omega)).mono ?_
   rintro e' w2 ⟨v2,rfl,hown2,hb2,_⟩
   have HO2:=aF hown2
   have HB2:=aF (HB.out.trans hb2)
   clear hown2 hb2
   have HO3:Hid (OB W.heap.size w2 v2 (q2 tbl b ++ (b.outl.take 0).flatMap pairW)):=aF (by simpa [q2,putI,bK] using HO2.out)
   clear HO1 HO2 HB hml hlt
   clear y0 y1 y2 y3 y4 y5 y6
   clear HCC
   go_wp2_with fail
   go_loopw [5,7] (fun v i wr=>∃k:Nat,k≤b.outl.length∧i = .int .i64 k∧Hid (OB W.heap.size wr v (q2 tbl b ++ (b.outl.take k).flatMap pairW))∧Hid (Below W.heap.size W wr)) (fun _ i _=>b.outl.length - (intOf i).toNat)
   case atStart=>exact ⟨0,by omega,rfl,HO3,HB2⟩
   case round=>
    clear HO3 HB2
    obtain ⟨k,hk,rfl,HO,HB⟩:=hrel
    have HCC:=aF (cells_kept HCW.out HB.out)
    obtain ⟨y0,y1,y2,y3,y4,y5,y6⟩:=aQ HCC.out
    by_cases hlt:k<b.outl.length
    next=>
     have HST:=aF (gU pairW hlt)
     have hkl:=HG2.out k
     have hkl2:=HG2.out (k+1)
     have hmem:=bM hlt
     obtain ⟨b5,o5,rfl,hb5,y⟩:=HH.out.out.sl.at_ hlt
     obtain ⟨⟨h0,h1⟩,⟨h2,h3⟩⟩:=HG.out.out _ hmem
     generalize b.outl[k]=x at *
     have P0:Hid (w.cell? ⟨b5,o5+k * 2,none⟩=some (.int .i64 x.1)):=aF y.1
     have P1:Hid (w.cell? ⟨b5,o5+k * 2+1,none⟩=some (.int .i64 x.2)):=aF y.2
     obtain ⟨acc,hacc⟩:∃acc,q2 tbl b ++ (b.outl.take k).flatMap pairW=acc:=⟨_,rfl⟩
     rw [hacc] at HO hkl
     have HNX:Hid (q2 tbl b ++ (b.outl.take (k+1)).flatMap pairW=acc ++ putI x.1 ++ putI x.2):=aF (by rw [HST.out,← bK,hacc,bK];rfl)
     have hk3:(acc ++ putI x.1).length≤1000000:=by rw [HNX.out] at hkl2;simp only [aZ] at hkl2 ⊢;omega
     clear y hacc
     go_wp2_with fail
     clear y0 y1 y2 y3 y4 y5 y6
     have hbd:Below wr.heap.size wr wr.drew:=(aV _ _).drew
     have hS:Below W.heap.size W wr.drew:=HB.out.drew
     have hod:=HO.out.keep hbd
     have hsz:W.heap.size≤wr.drew.heap.size:=hS.size
     refine cP (S:=fun X=>Below W.heap.size W X) [0,1,2,3,4,5,6,8,9,10,11,12,13,7,14,15] (by kernel_rfl) ?_
     (iterate 13 (refine cQ (v:=?_) ?_ hS ?_;rotate_left;(next=>(rintro X hX;have s2:=(cells_kept HCW.out hX) 2 _ rfl;have p0:=cell_keep (keep0 hX HBW.out) P0.out;have p1:=cell_keep (keep0 hX HBW.out) P1.out;(try simp only [aH]);go_simp;rfl));simp only [aH,Act.put,aJ]))
     (refine cS (by kernel_rfl) (fun K1 hK1=>?_);simp only [aH,Act.put,aJ];rw [aY (by rfl)];go_simp)
     refine (dE W.heap.size u5 acc x.1 wr.drew hod hsz hkl h0 (by omega)).mono ?_
     rintro e' w2 ⟨v2,rfl,ho2,hb2,_⟩
     replace hS:=hS.trans hb2
     refine hK1.out _ _ (fun _=>hS) ?_
     clear hK1
     (refine cS (by kernel_rfl) (fun K1 hK1=>?_);simp only [aH,Act.put,aJ];rw [aY (by rfl)];go_simp)
     refine (dE W.heap.size v2 _ x.2 w2 ho2 hS.size hk3 h2 (by omega)).mono ?_
     rintro e' w3 ⟨v3,rfl,ho3,hb3,_⟩
     replace hS:=hS.trans hb3
     refine hK1.out _ _ (fun _=>hS) ?_
     clear hK1
     have HO2:=aF ho3
     have HB2:=aF hS
     rw [← HNX.out] at HO2
     (iterate 1 (refine cQ (v:=?_) ?_ hS ?_;rotate_left;(next=>(rintro X -;(try simp only [aH]);go_simp;rfl));simp only [aH,Act.put,aJ]))
     refine cV (by kernel_rfl) ?_
     clear hS ho3 hb3 ho2 hb2 hod hbd
     go_wp2_with fail
     go_roundw
     case rel=>exact ⟨k+1,by omega,by go_num,HO2,HB2⟩
     case measure=>simp [intOf];omega
    next=>
     have hke:k=b.outl.length:=by omega
     have HO1:Hid (OB W.heap.size wr u5 (q2 tbl b ++ b.outl.flatMap pairW)):=aF (by have h:=HO.out;rw [hke,bZ] at h;exact h)
     have hml:(q2 tbl b ++ b.outl.flatMap pairW).length≤1000000:=by have h:=HG2.out k;rw [hke,bZ] at h;exact h
     clear hke HO
     go_wp2_with fail
     go_at_call 66
     refine (dE W.heap.size u5 (q2 tbl b ++ b.outl.flatMap pairW) (b.types.length:Int) wr HO1.out HB.out.size (by omega) (by omega) (by omega)).mono ?_
     rintro e' w2 ⟨v2,rfl,hown2,hb2,_⟩
     have HO2:=aF hown2
     have HB2:=aF (HB.out.trans hb2)
     clear hown2 hb2
     have HO3:Hid (OB W.heap.size w2 v2 (q3 tbl b ++ (b.types.take 0).flatMap typeW)):=aF (by simpa [q3,putI,bK] using HO2.out)
     clear HO1 HO2 HB hml hlt
     clear y0 y1 y2 y3 y4 y5 y6
     clear HCC
     go_wp2_with fail
     go_loopw [5,8] (fun v i wr=>∃k:Nat,k≤b.types.length∧i = .int .i64 k∧Hid (OB W.heap.size wr v (q3 tbl b ++ (b.types.take k).flatMap typeW))∧Hid (Below W.heap.size W wr)) (fun _ i _=>b.types.length - (intOf i).toNat)
     case atStart=>exact ⟨0,by omega,rfl,HO3,HB2⟩
     case round=>
      clear HO3 HB2
      obtain ⟨k,hk,rfl,HO,HB⟩:=hrel
      have HCC:=aF (cells_kept HCW.out HB.out)
      obtain ⟨y0,y1,y2,y3,y4,y5,y6⟩:=aQ HCC.out
      by_cases hlt:k<b.types.length
      next=>
       have HST:=aF (gU typeW hlt)
       have hkl:=HG3.out k
       have hkl2:=HG3.out (k+1)
       have hmem:=bM hlt
       obtain ⟨b5,o5,rfl,hb5,y⟩:=HH.out.typ.sl.at_ hlt
       have hty:=HG.out.typ _ hmem
       obtain ⟨p0,p1,p2,p3,A6,c6,p4,hc1,hc2,hsl⟩:=y
       generalize b.types[k]=x at *
       obtain ⟨kd,mu,rg,el,fl⟩:=x
       simp only at p0 p1 p2 p3 p4 hc1 hc2 hsl
       have hkB:=keep0 HB.out HBW.out
       replace p0:=cell_keep hkB p0
       replace p1:=cell_keep hkB p1
       replace p2:=cell_keep hkB p2
       replace p3:=cell_keep hkB p3
       replace p4:=cell_keep hkB p4
       have HSL:Hid (Slc 1 RInt w A6 c6 fl):=aF ⟨hsl,hc1,hc2⟩
       obtain ⟨acc,hacc⟩:∃acc,q3 tbl b ++ (b.types.take k).flatMap typeW=acc:=⟨_,rfl⟩
       rw [hacc] at HO hkl
       have HNX:Hid (q3 tbl b ++ (b.types.take (k+1)).flatMap typeW=acc ++ typeW ⟨kd,mu,rg,el,fl⟩):=aF (by rw [HST.out,← bK,hacc])
       rw [HNX.out] at hkl2
       obtain ⟨gx,hgx⟩:∃g,wr.heap.size=g:=⟨_,rfl⟩
       have hsz:=HB.out.size
       obtain ⟨W1,hW1⟩:∃W1,wr.alloc (.cells #[.int .i64 kd,.bool mu,.int .i64 rg,.int .i64 el,.slice A6 fl.length c6] 83)=W1:=⟨_,rfl⟩
       have hbx:W1.heap[gx]?=some (.cells #[.int .i64 kd,.bool mu,.int .i64 rg,.int .i64 el,.slice A6 fl.length c6] 83 (0,0)):=by rw [← hW1,← hgx];exact heap_alloc_new wr _
       have hb1:Below wr.heap.size wr W1:=by rw [← hW1];exact alF _ _
       have hg1:gx<W1.heap.size:=(Array.getElem?_eq_some_iff.1 hbx).1
       have HBX:=aF hbx
       have HB1:=aF (keep0 hb1 HB.out)
       have HO1:=aF (HO.out.keep hb1)
       have hsz1:W.heap.size≤W1.heap.size:=HB1.out.size
       obtain ⟨t0,t1',t2',t3,t4,_⟩:=blk5 hbx
       have hY:∀X:World,X.heap[gx]?=some (.cells #[.int .i64 kd,.bool mu,.int .i64 rg,.int .i64 el,.slice A6 fl.length c6] 83 (0,0))→X.cell? ⟨gx,2,none⟩=some (.int .i64 rg)∧X.cell? ⟨gx,3,none⟩=some (.int .i64 el)∧X.cell? ⟨gx,4,none⟩=some (.slice A6 fl.length c6):=fun X h=>by
        obtain ⟨_,_,e2,e3,e4,_⟩:=blk5 h
        exact ⟨e2,e3,e4⟩
       have HY:=aF hY
       clear hacc hsl hc1 hc2 hkB HB HO hbx hb1 hY
       rcases hty with ⟨rfl,hr,he,rfl⟩ | ⟨rfl,rfl,rfl,rfl,hfl,hff⟩ | ⟨hkz0,hkz2,rfl,rfl,rfl,rfl⟩
       next=>
        cases mu
        next=>
         replace hW1:wr.alloc (.cells #[.int .i64 3,.bool false,.int .i64 rg,.int .i64 el,.slice A6 0 c6] 83)=W1:=hW1
         replace p4:wr.cell? ⟨b5,o5+k * 5+4,none⟩=some (.slice A6 0 c6):=p4
         replace t4:W1.cell? ⟨gx,4,none⟩=some (.slice A6 0 c6):=t4
         have hN:Hid (acc ++ typeW ⟨3,false,rg,el,[]⟩=acc ++ [3] ++ putI rg ++ putI el):=aF (by unfold typeW;simp)
         rw [hN.out] at HNX hkl2
         simp only [aZ] at hkl2
         go_wp2_with fail
         clear p0 p1 p2 p3 p4 t0 t1' t2' t3 t4
         clear y0 y1 y2 y3 y4 y5 y6
         obtain ⟨W2,hW2⟩:∃W2,W1.drew=W2:=⟨_,rfl⟩
         have hbd:Below W1.heap.size W1 W2:=by rw [← hW2];exact (aV _ _).drew
         have hS:Below W.heap.size W W2∧W2.heap[gx]?=some (.cells #[.int .i64 3,.bool false,.int .i64 rg,.int .i64 el,.slice A6 0 c6] 83 (0,0)):=⟨HB1.out.trans (hbd.mono HB1.out.size),(hbd.block gx hg1).trans HBX.out⟩
         have hod:=HO1.out.keep hbd
         clear hbd
         refine cP (S:=fun X=>Below W.heap.size W X∧X.heap[gx]?=some (.cells #[.int .i64 3,.bool false,.int .i64 rg,.int .i64 el,.slice A6 0 c6] 83 (0,0))) [0,3,4,6,7,1,2,5,8,9] (by kernel_rfl) ?_
         rw [hW2]
         (iterate 5 (refine cQ (v:=?_) ?_ hS ?_;rotate_left;(next=>(rintro X ⟨hX,hZ⟩;obtain ⟨q2',q3',_⟩:=HY.out _ hZ;(try simp only [aH]);go_simp;rfl));simp only [aH,Act.put,aJ]))
         (refine cS (by kernel_rfl) (fun K1 hK1=>?_);simp only [aH,Act.put,aJ];rw [aY (by rfl)];go_simp)
         have hbA:Below W2.heap.size W2 (W2.alloc (.cells #[.int .u8 3] 5)):=alF _ _
         have hS2:Below W.heap.size W (W2.alloc (.cells #[.int .u8 3] 5))∧(W2.alloc (.cells #[.int .u8 3] 5)).heap[gx]?=some (.cells #[.int .i64 3,.bool false,.int .i64 rg,.int .i64 el,.slice A6 0 c6] 83 (0,0)):=⟨hS.1.trans (hbA.mono hS.1.size),(hbA.block gx (Array.getElem?_eq_some_iff.1 hS.2).1).trans hS.2⟩
         refine hK1.out _ _ (fun _=>hS2) ?_
         clear hK1
         (refine cS (by kernel_rfl) (fun K1 hK1=>?_);simp only [aH,Act.put,aJ];rw [aY (by rfl)])
         have hown2:=hod.keep hbA
         unfold OB at hown2
         refine eU (.tmp 109) (.tmp 110) 34 rfl W.heap.size 5 i0 (.int .u8 0) 1 1 Tryz.underlying34 hi hz0 hz1 hz2 rfl (by decide) u5 acc.length _ rfl hown2 ⟨W2.heap.size,0,none⟩ 1 1 [.int .u8 3] rfl rfl ?c1 (fun u hu=>by simp at hu;subst hu;rfl) (by unfold maxLen;omega) (by omega) (by have:=hS2.1.size;omega) ?_
         case c1=>
          intro j u hj
          rw [add0]
          exact dZ W2 [.int .u8 3] 5 j u hj
         intro v5 w5 hown' hgrow _
         have ho5:OB W.heap.size w5 v5 (acc ++ [3]):=by unfold OB;rw [aZ,bS];exact hown'
         have hS5:Below W.heap.size W w5∧w5.heap[gx]?=some (.cells #[.int .i64 3,.bool false,.int .i64 rg,.int .i64 el,.slice A6 0 c6] 83 (0,0)):=⟨hS2.1.grown hgrow (hS2.1.size) (fun g hg=>(hown2.lt g hg).1),(hgrow.block gx (Array.getElem?_eq_some_iff.1 hS2.2).1 (fH hown2 hS2.2 (by decide))).trans hS2.2⟩
         refine hK1.out _ _ (fun _=>hS5) ?_
         clear hK1
         (refine cS (by kernel_rfl) (fun K1 hK1=>?_);simp only [aH,Act.put,aJ];rw [aY (by rfl)];go_simp)
         refine (dE W.heap.size v5 _ rg w5 ho5 hS5.1.size (by simp only [aZ];omega) hr.1 (by omega)).mono ?_
         rintro e' w6 ⟨v6,rfl,ho6,hb6,hk6⟩
         have hS6:Below W.heap.size W w6∧w6.heap[gx]?=some (.cells #[.int .i64 3,.bool false,.int .i64 rg,.int .i64 el,.slice A6 0 c6] 83 (0,0)):=⟨hS5.1.trans hb6,(hk6 gx (Array.getElem?_eq_some_iff.1 hS5.2).1 (fH ho5 hS5.2 (by decide))).trans hS5.2⟩
         refine hK1.out _ _ (fun _=>hS6) ?_
         clear hK1
         (refine cS (by kernel_rfl) (fun K1 hK1=>?_);simp only [aH,Act.put,aJ];rw [aY (by rfl)];go_simp)
         refine (dE W.heap.size v6 _ el w6 ho6 hS6.1.size (by simp only [aZ];omega) he.1 (by omega)).mono ?_
         rintro e' w7 ⟨v7,rfl,ho7,hb7,hk7⟩
         have hS7:Below W.heap.size W w7∧w7.heap[gx]?=some (.cells #[.int .i64 3,.bool false,.int .i64 rg,.int .i64 el,.slice A6 0 c6] 83 (0,0)):=⟨hS6.1.trans hb7,(hk7 gx (Array.getElem?_eq_some_iff.1 hS6.2).1 (fH ho6 hS6.2 (by decide))).trans hS6.2⟩
         refine hK1.out _ _ (fun _=>hS7) ?_
         clear hK1 hS
         have hS:=hS7
         have HO2:=aF ho7
         have HB2:=aF hS7.1
         rw [← HNX.out] at HO2
         (iterate 1 (refine cQ (v:=?_) ?_ hS ?_;rotate_left;(next=>(rintro X -;(try simp only [aH]);go_simp;rfl));simp only [aH,Act.put,aJ]))
         refine cV (by kernel_rfl) ?_
         clear hS hS2 hS5 hS6 hS7 ho5 ho6 ho7 hb6 hb7 hk6 hk7 hown2 hown' hgrow hbA hod
         go_wp2_with fail
         go_roundw
         case rel=>exact ⟨k+1,by omega,by go_num,HO2,HB2⟩
         case measure=>simp [intOf];omega
        next=>
         replace hW1:wr.alloc (.cells #[.int .i64 3,.bool true,.int .i64 rg,.int .i64 el,.slice A6 0 c6] 83)=W1:=hW1
         replace p4:wr.cell? ⟨b5,o5+k * 5+4,none⟩=some (.slice A6 0 c6):=p4
         replace t4:W1.cell? ⟨gx,4,none⟩=some (.slice A6 0 c6):=t4
         have hN:Hid (acc ++ typeW ⟨3,true,rg,el,[]⟩=acc ++ [5] ++ putI rg ++ putI el):=aF (by unfold typeW;simp)
         rw [hN.out] at HNX hkl2
         simp only [aZ] at hkl2
         go_wp2_with fail
         clear p0 p1 p2 p3 p4 t0 t1' t2' t3 t4
         clear y0 y1 y2 y3 y4 y5 y6
         obtain ⟨W2,hW2⟩:∃W2,W1.drew=W2:=⟨_,rfl⟩
         have hbd:Below W1.heap.size W1 W2:=by rw [← hW2];exact (aV _ _).drew
         have hS:Below W.heap.size W W2∧W2.heap[gx]?=some (.cells #[.int .i64 3,.bool true,.int .i64 rg,.int .i64 el,.slice A6 0 c6] 83 (0,0)):=⟨HB1.out.trans (hbd.mono HB1.out.size),(hbd.block gx hg1).trans HBX.out⟩
         have hod:=HO1.out.keep hbd
         clear hbd
         refine cP (S:=fun X=>Below W.heap.size W X∧X.heap[gx]?=some (.cells #[.int .i64 3,.bool true,.int .i64 rg,.int .i64 el,.slice A6 0 c6] 83 (0,0))) [0,3,4,6,7,1,2,5,8,9] (by kernel_rfl) ?_
         rw [hW2]
         (iterate 5 (refine cQ (v:=?_) ?_ hS ?_;rotate_left;(next=>(rintro X ⟨hX,hZ⟩;obtain ⟨q2',q3',_⟩:=HY.out _ hZ;(try simp only [aH]);go_simp;rfl));simp only [aH,Act.put,aJ]))
         (refine cS (by kernel_rfl) (fun K1 hK1=>?_);simp only [aH,Act.put,aJ];rw [aY (by rfl)];go_simp)
         have hbA:Below W2.heap.size W2 (W2.alloc (.cells #[.int .u8 5] 5)):=alF _ _
         have hS2:Below W.heap.size W (W2.alloc (.cells #[.int .u8 5] 5))∧(W2.alloc (.cells #[.int .u8 5] 5)).heap[gx]?=some (.cells #[.int .i64 3,.bool true,.int .i64 rg,.int .i64 el,.slice A6 0 c6] 83 (0,0)):=⟨hS.1.trans (hbA.mono hS.1.size),(hbA.block gx (Array.getElem?_eq_some_iff.1 hS.2).1).trans hS.2⟩
         refine hK1.out _ _ (fun _=>hS2) ?_
         clear hK1
         (refine cS (by kernel_rfl) (fun K1 hK1=>?_);simp only [aH,Act.put,aJ];rw [aY (by rfl)])
         have hown2:=hod.keep hbA
         unfold OB at hown2
         refine eU (.tmp 96) (.tmp 97) 34 rfl W.heap.size 5 i0 (.int .u8 0) 1 1 Tryz.underlying34 hi hz0 hz1 hz2 rfl (by decide) u5 acc.length _ rfl hown2 ⟨W2.heap.size,0,none⟩ 1 1 [.int .u8 5] rfl rfl ?c1 (fun u hu=>by simp at hu;subst hu;rfl) (by unfold maxLen;omega) (by omega) (by have:=hS2.1.size;omega) ?_
         case c1=>
          intro j u hj
          rw [add0]
          exact dZ W2 [.int .u8 5] 5 j u hj
         intro v5 w5 hown' hgrow _
         have ho5:OB W.heap.size w5 v5 (acc ++ [5]):=by unfold OB;rw [aZ,bS];exact hown'
         have hS5:Below W.heap.size W w5∧w5.heap[gx]?=some (.cells #[.int .i64 3,.bool true,.int .i64 rg,.int .i64 el,.slice A6 0 c6] 83 (0,0)):=⟨hS2.1.grown hgrow (hS2.1.size) (fun g hg=>(hown2.lt g hg).1),(hgrow.block gx (Array.getElem?_eq_some_iff.1 hS2.2).1 (fH hown2 hS2.2 (by decide))).trans hS2.2⟩
         refine hK1.out _ _ (fun _=>hS5) ?_
         clear hK1
         (refine cS (by kernel_rfl) (fun K1 hK1=>?_);simp only [aH,Act.put,aJ];rw [aY (by rfl)];go_simp)
         refine (dE W.heap.size v5 _ rg w5 ho5 hS5.1.size (by simp only [aZ];omega) hr.1 (by omega)).mono ?_
         rintro e' w6 ⟨v6,rfl,ho6,hb6,hk6⟩
         have hS6:Below W.heap.size W w6∧w6.heap[gx]?=some (.cells #[.int .i64 3,.bool true,.int .i64 rg,.int .i64 el,.slice A6 0 c6] 83 (0,0)):=⟨hS5.1.trans hb6,(hk6 gx (Array.getElem?_eq_some_iff.1 hS5.2).1 (fH ho5 hS5.2 (by decide))).trans hS5.2⟩
         refine hK1.out _ _ (fun _=>hS6) ?_
         clear hK1
         (refine cS (by kernel_rfl) (fun K1 hK1=>?_);simp only [aH,Act.put,aJ];rw [aY (by rfl)];go_simp)
         refine (dE W.heap.size v6 _ el w6 ho6 hS6.1.size (by simp only [aZ];omega) he.1 (by omega)).mono ?_
         rintro e' w7 ⟨v7,rfl,ho7,hb7,hk7⟩
         have hS7:Below W.heap.size W w7∧w7.heap[gx]?=some (.cells #[.int .i64 3,.bool true,.int .i64 rg,.int .i64 el,.slice A6 0 c6] 83 (0,0)):=⟨hS6.1.trans hb7,(hk7 gx (Array.getElem?_eq_some_iff.1 hS6.2).1 (fH ho6 hS6.2 (by decide))).trans hS6.2⟩
         refine hK1.out _ _ (fun _=>hS7) ?_
         clear hK1 hS
         have hS:=hS7
         have HO2:=aF ho7
         have HB2:=aF hS7.1
         rw [← HNX.out] at HO2
         (iterate 1 (refine cQ (v:=?_) ?_ hS ?_;rotate_left;(next=>(rintro X -;(try simp only [aH]);go_simp;rfl));simp only [aH,Act.put,aJ]))
         refine cV (by kernel_rfl) ?_
         clear hS hS2 hS5 hS6 hS7 ho5 ho6 ho7 hb6 hb7 hk6 hk7 hown2 hown' hgrow hbA hod
         go_wp2_with fail
         go_roundw
         case rel=>exact ⟨k+1,by omega,by go_num,HO2,HB2⟩
         case measure=>simp [intOf];omega
       next=>
        have hN:Hid (acc ++ typeW ⟨4,false,0,0,fl⟩=acc ++ [4] ++ putI (fl.length:Int) ++ fl.flatMap putI):=aF (by unfold typeW listW;simp [putI])
        rw [hN.out] at HNX hkl2
        have hlim:=iZ (P:=acc ++ [4] ++ putI (fl.length:Int)) (S:=[]) putI (by rw [List.append_nil];exact hkl2)
        have hlim0:=hlim 0
        simp only [List.take_zero,List.flatMap_nil,List.append_nil,aZ,bJ,bO] at hlim0
        have HLM:=aF hlim
        have HFF:=aF hff
        clear hlim hff hkl2
        go_wp2_with fail
        clear p0 p1 p2 p3 p4 t0 t1' t2' t3 t4
        clear y0 y1 y2 y3 y4 y5 y6
        obtain ⟨W2,hW2⟩:∃W2,W1.drew=W2:=⟨_,rfl⟩
        have hbd:Below W1.heap.size W1 W2:=by rw [← hW2];exact (aV _ _).drew
        have hS:Below W.heap.size W W2∧W2.heap[gx]?=some (.cells #[.int .i64 4,.bool false,.int .i64 0,.int .i64 0,.slice A6 fl.length c6] 83 (0,0)):=⟨HB1.out.trans (hbd.mono HB1.out.size),(hbd.block gx hg1).trans HBX.out⟩
        have hod:=HO1.out.keep hbd
        clear hbd
        refine cP (S:=fun X=>Below W.heap.size W X∧X.heap[gx]?=some (.cells #[.int .i64 4,.bool false,.int .i64 0,.int .i64 0,.slice A6 fl.length c6] 83 (0,0))) [0,3,4,5,1,2,6,7] (by kernel_rfl) ?_
        rw [hW2]
        (iterate 4 (refine cQ (v:=?_) ?_ hS ?_;rotate_left;(next=>(rintro X ⟨hX,hZ⟩;obtain ⟨_,_,q4'⟩:=HY.out _ hZ;(try simp only [aH]);go_simp;rfl));simp only [aH,Act.put,aJ]))
        (refine cS (by kernel_rfl) (fun K1 hK1=>?_);simp only [aH,Act.put,aJ];rw [aY (by rfl)];go_simp)
        have hbA:Below W2.heap.size W2 (W2.alloc (.cells #[.int .u8 4] 5)):=alF _ _
        have hS2:Below W.heap.size W (W2.alloc (.cells #[.int .u8 4] 5))∧(W2.alloc (.cells #[.int .u8 4] 5)).heap[gx]?=some (.cells #[.int .i64 4,.bool false,.int .i64 0,.int .i64 0,.slice A6 fl.length c6] 83 (0,0)):=⟨hS.1.trans (hbA.mono hS.1.size),(hbA.block gx (Array.getElem?_eq_some_iff.1 hS.2).1).trans hS.2⟩
        refine hK1.out _ _ (fun _=>hS2) ?_
        clear hK1
        (refine cS (by kernel_rfl) (fun K1 hK1=>?_);simp only [aH,Act.put,aJ];rw [aY (by rfl)])
        have hown2:=hod.keep hbA
        unfold OB at hown2
        refine eU (.tmp 122) (.tmp 123) 34 rfl W.heap.size 5 i0 (.int .u8 0) 1 1 Tryz.underlying34 hi hz0 hz1 hz2 rfl (by decide) u5 acc.length _ rfl hown2 ⟨W2.heap.size,0,none⟩ 1 1 [.int .u8 4] rfl rfl ?c1 (fun u hu=>by simp at hu;subst hu;rfl) (by unfold maxLen;omega) (by omega) (by have:=hS2.1.size;omega) ?_
        case c1=>
         intro j u hj
         rw [add0]
         exact dZ W2 [.int .u8 4] 5 j u hj
        intro v5 w5 hown' hgrow _
        have ho5:OB W.heap.size w5 v5 (acc ++ [4]):=by unfold OB;rw [aZ,bS];exact hown'
        have hS5:Below W.heap.size W w5∧w5.heap[gx]?=some (.cells #[.int .i64 4,.bool false,.int .i64 0,.int .i64 0,.slice A6 fl.length c6] 83 (0,0)):=⟨hS2.1.grown hgrow (hS2.1.size) (fun g hg=>(hown2.lt g hg).1),(hgrow.block gx (Array.getElem?_eq_some_iff.1 hS2.2).1 (fH hown2 hS2.2 (by decide))).trans hS2.2⟩
        refine hK1.out _ _ (fun _=>hS5) ?_
        clear hK1
        (refine cS (by kernel_rfl) (fun K1 hK1=>?_);simp only [aH,Act.put,aJ];rw [aY (by rfl)];go_simp)
        refine (dE W.heap.size v5 _ (fl.length:Int) w5 ho5 hS5.1.size (by simp only [aZ,bJ,bO];omega) (by omega) (by omega)).mono ?_
        rintro e' w6 ⟨v6,rfl,ho6,hb6,hk6⟩
        have hS6:Below W.heap.size W w6∧w6.heap[gx]?=some (.cells #[.int .i64 4,.bool false,.int .i64 0,.int .i64 0,.slice A6 fl.length c6] 83 (0,0)):=⟨hS5.1.trans hb6,(hk6 gx (Array.getElem?_eq_some_iff.1 hS5.2).1 (fH ho5 hS5.2 (by decide))).trans hS5.2⟩
        refine hK1.out _ _ (fun _=>hS6) ?_
        clear hK1 hS
        have hS:=hS6
        have HO6:Hid (OB W.heap.size w6 v6 (acc ++ [4] ++ putI (fl.length:Int) ++ (fl.take 0).flatMap putI)):=aF (by simpa using ho6)
        have HB6:=aF hS6.1
        have HX6:=aF hS6.2
        (iterate 1 (refine cQ (v:=?_) ?_ hS ?_;rotate_left;(next=>(rintro X -;(try simp only [aH]);go_simp;rfl));simp only [aH,Act.put,aJ]))
        refine cV (by kernel_rfl) ?_
        clear hS hS2 hS5 hS6 ho5 ho6 hb6 hk6 hown2 hown' hgrow hbA hod
        go_wp2_with fail
        go_loopw [5,10] (fun v i wr2=>∃j:Nat,j≤fl.length∧i = .int .i64 j∧Hid (OB W.heap.size wr2 v (acc ++ [4] ++ putI (fl.length:Int) ++ (fl.take j).flatMap putI))∧Hid (Below W.heap.size W wr2)∧Hid (wr2.heap[gx]?=some (.cells #[.int .i64 4,.bool false,.int .i64 0,.int .i64 0,.slice A6 fl.length c6] 83 (0,0)))) (fun _ i _=>fl.length - (intOf i).toNat)
        case atStart=>exact ⟨0,by omega,rfl,HO6,HB6,HX6⟩
        case round=>
         clear HO6 HB6 HX6
         obtain ⟨j,hj,rfl,HO,HB,HX⟩:=hrel
         obtain ⟨_,_,t4⟩:=HY.out _ HX.out
         by_cases hjl:j<fl.length
         next=>
          have HST2:=aF (gU putI hjl)
          have hln:=HLM.out j
          have hmem:=bM hjl
          obtain ⟨hf0,hf1⟩:=HFF.out _ hmem
          obtain ⟨b7,o7,rfl,hb7,hxj⟩:=HSL.out.sl.at_ hjl
          generalize fl[j]=f at *
          have p0:=cell_keep (keep0 HB.out HBW.out) (show w.cell? ⟨b7,o7+j,none⟩=some (.int .i64 f) by simpa [RInt] using hxj)
          clear hxj
          go_wp2_with fail
          go_at_call 66
          refine (dE W.heap.size u5 _ f wr HO.out HB.out.size hln hf0 (by omega)).mono ?_
          rintro e' w7 ⟨v7,rfl,ho7,hb7',hk7⟩
          have HO7:Hid (OB W.heap.size w7 v7 (acc ++ [4] ++ putI (fl.length:Int) ++ (fl.take (j+1)).flatMap putI)):=aF (by rw [HST2.out,← bK];exact ho7)
          have HB7:=aF (HB.out.trans hb7')
          have HX7:=aF ((hk7 gx (Array.getElem?_eq_some_iff.1 HX.out).1 (fH HO.out HX.out (by decide))).trans HX.out)
          clear ho7 hb7' hk7
          go_wp2_with fail
          go_roundw
          case rel=>exact ⟨j+1,by omega,by go_num,HO7,HB7,HX7⟩
          case measure=>simp [intOf];omega
         next=>
          have HO7:Hid (OB W.heap.size wr u5 (q3 tbl b ++ (b.types.take (k+1)).flatMap typeW)):=aF (by
           have h:=HO.out
           rw [show j=fl.length by omega,bZ] at h
           rw [HNX.out]
           exact h)
          go_wp2_with fail
          go_roundw
          case rel=>exact ⟨k+1,by omega,by go_num,HO7,HB⟩
          case measure=>simp [intOf];omega
       next=>
        simp only at hkz0 hkz2
        rcases (show kd=0∨kd=1∨kd=2 by omega) with rfl | rfl | rfl
        next=>
         replace hW1:wr.alloc (.cells #[.int .i64 0,.bool false,.int .i64 0,.int .i64 0,.slice A6 0 c6] 83)=W1:=hW1
         replace p4:wr.cell? ⟨b5,o5+k * 5+4,none⟩=some (.slice A6 0 c6):=p4
         replace t4:W1.cell? ⟨gx,4,none⟩=some (.slice A6 0 c6):=t4
         have hN:acc ++ typeW ⟨0,false,0,0,[]⟩=acc ++ [0]:=rfl
         rw [hN] at HNX hkl2
         have hown2:=HO1.out.keep (alF W1 (.cells #[.int .u8 0] 5))
         unfold OB at hown2
         go_wp2_with (at_builtin;refine wpList_append_own _ rfl _ _ 34 rfl W.heap.size 5 i0 (.int .u8 0) 1 1 Tryz.underlying34 hi hz0 hz1 hz2 rfl (by decide) _ _ _ rfl hown2 ⟨W1.heap.size,0,none⟩ 1 1 [.int .u8 0] rfl rfl (fun j u hj=>by rw [add0];exact dZ W1 [.int .u8 0] 5 j u hj) (fun u hu=>by simp at hu;subst hu;rfl) (by unfold maxLen;omega) (by omega) (by simp;omega) ?_;intro v5 w5 hown' hgrow _)
         have HO5:Hid (OB W.heap.size w5 v5 (q3 tbl b ++ (b.types.take (k+1)).flatMap typeW)):=aF (by rw [HNX.out];unfold OB;rw [aZ,bS];exact hown')
         have HB5:=aF ((HB1.out.alloc hsz1 (.cells #[.int .u8 0] 5)).grown hgrow (by simp;omega) (fun g hg=>(hown2.lt g hg).1))
         clear hown' hgrow hown2
         go_roundw
         case rel=>exact ⟨k+1,by omega,by go_num,HO5,HB5⟩
         case measure=>simp [intOf];omega
        next=>
         replace hW1:wr.alloc (.cells #[.int .i64 1,.bool false,.int .i64 0,.int .i64 0,.slice A6 0 c6] 83)=W1:=hW1
         replace p4:wr.cell? ⟨b5,o5+k * 5+4,none⟩=some (.slice A6 0 c6):=p4
         replace t4:W1.cell? ⟨gx,4,none⟩=some (.slice A6 0 c6):=t4
         have hN:acc ++ typeW ⟨1,false,0,0,[]⟩=acc ++ [1]:=rfl
         rw [hN] at HNX hkl2
         have hown2:=HO1.out.keep (alF W1 (.cells #[.int .u8 1] 5))
         unfold OB at hown2
         go_wp2_with (at_builtin;refine wpList_append_own _ rfl _ _ 34 rfl W.heap.size 5 i0 (.int .u8 0) 1 1 Tryz.underlying34 hi hz0 hz1 hz2 rfl (by decide) _ _ _ rfl hown2 ⟨W1.heap.size,0,none⟩ 1 1 [.int .u8 1] rfl rfl (fun j u hj=>by rw [add0];exact dZ W1 [.int .u8 1] 5 j u hj) (fun u hu=>by simp at hu;subst hu;rfl) (by unfold maxLen;omega) (by omega) (by simp;omega) ?_;intro v5 w5 hown' hgrow _)
         have HO5:Hid (OB W.heap.size w5 v5 (q3 tbl b ++ (b.types.take (k+1)).flatMap typeW)):=aF (by rw [HNX.out];unfold OB;rw [aZ,bS];exact hown')
         have HB5:=aF ((HB1.out.alloc hsz1 (.cells #[.int .u8 1] 5)).grown hgrow (by simp;omega) (fun g hg=>(hown2.lt g hg).1))
         clear hown' hgrow hown2
         go_roundw
         case rel=>exact ⟨k+1,by omega,by go_num,HO5,HB5⟩
         case measure=>simp [intOf];omega
        next=>
         replace hW1:wr.alloc (.cells #[.int .i64 2,.bool false,.int .i64 0,.int .i64 0,.slice A6 0 c6] 83)=W1:=hW1
         replace p4:wr.cell? ⟨b5,o5+k * 5+4,none⟩=some (.slice A6 0 c6):=p4
         replace t4:W1.cell? ⟨gx,4,none⟩=some (.slice A6 0 c6):=t4
         have hN:acc ++ typeW ⟨2,false,0,0,[]⟩=acc ++ [2]:=rfl
         rw [hN] at HNX hkl2
         have hown2:=HO1.out.keep (alF W1 (.cells #[.int .u8 2] 5))
         unfold OB at hown2
         go_wp2_with (at_builtin;refine wpList_append_own _ rfl _ _ 34 rfl W.heap.size 5 i0 (.int .u8 0) 1 1 Tryz.underlying34 hi hz0 hz1 hz2 rfl (by decide) _ _ _ rfl hown2 ⟨W1.heap.size,0,none⟩ 1 1 [.int .u8 2] rfl rfl (fun j u hj=>by rw [add0];exact dZ W1 [.int .u8 2] 5 j u hj) (fun u hu=>by simp at hu;subst hu;rfl) (by unfold maxLen;omega) (by omega) (by simp;omega) ?_;intro v5 w5 hown' hgrow _)
         have HO5:Hid (OB W.heap.size w5 v5 (q3 tbl b ++ (b.types.take (k+1)).flatMap typeW)):=aF (by rw [HNX.out];unfold OB;rw [aZ,bS];exact hown')
         have HB5:=aF ((HB1.out.alloc hsz1 (.cells #[.int .u8 2] 5)).grown hgrow (by simp;omega) (fun g hg=>(hown2.lt g hg).1))
         clear hown' hgrow hown2
         go_roundw
         case rel=>exact ⟨k+1,by omega,by go_num,HO5,HB5⟩
         case measure=>simp [intOf];omega
      next=>
       have hke:k=b.types.length:=by omega
       have HO1:Hid (OB W.heap.size wr u5 (q3 tbl b ++ b.types.flatMap typeW)):=aF (by have h:=HO.out;rw [hke,bZ] at h;exact h)
       have hml:(q3 tbl b ++ b.types.flatMap typeW).length≤1000000:=by have h:=HG3.out k;rw [hke,bZ] at h;exact h
       clear hke HO
       go_wp2_with fail
       go_at_call 66
       refine (dE W.heap.size u5 (q3 tbl b ++ b.types.flatMap typeW) (b.locals.length:Int) wr HO1.out HB.out.size (by omega) (by omega) (by omega)).mono ?_
       rintro e' w2 ⟨v2,rfl,hown2,hb2,_⟩
       have HO2:=aF hown2
       have HB2:=aF (HB.out.trans hb2)
       clear hown2 hb2
       have HO3:Hid (OB W.heap.size w2 v2 (q4 tbl b ++ (b.locals.take 0).flatMap (localW tbl))):=aF (by simpa [q4,putI,bK] using HO2.out)
       clear HO1 HO2 HB hml hlt
       clear y0 y1 y2 y3 y4 y5 y6
       clear HCC
       go_wp2_with fail
       go_loopw [5,11] (fun v i wr=>∃k:Nat,k≤b.locals.length∧i = .int .i64 k∧Hid (OB W.heap.size wr v (q4 tbl b ++ (b.locals.take k).flatMap (localW tbl)))∧Hid (Below W.heap.size W wr)) (fun _ i _=>b.locals.length - (intOf i).toNat)
       case atStart=>exact ⟨0,by omega,rfl,HO3,HB2⟩
       case round=>
        clear HO3 HB2
        obtain ⟨k,hk,rfl,HO,HB⟩:=hrel
        have HCC:=aF (cells_kept HCW.out HB.out)
        obtain ⟨y0,y1,y2,y3,y4,y5,y6⟩:=aQ HCC.out
        by_cases hlt:k<b.locals.length
        next=>
         have HST:=aF (gU (localW tbl) hlt)
         have hkl:=HG4.out k
         have hkl2:=HG4.out (k+1)
         have hmem:=bM hlt
         obtain ⟨b5,o5,rfl,hb5,y⟩:=HH.out.loc.sl.at_ hlt
         obtain ⟨hm0,h2,h3⟩:=HG.out.loc _ hmem
         have hn:=jE hm0 HG.out.tl
         generalize b.locals[k]=x at *
         have P0:Hid (w.cell? ⟨b5,o5+k * 2,none⟩=some (.string x.name)):=aF y.1
         have P1:Hid (w.cell? ⟨b5,o5+k * 2+1,none⟩=some (.int .i64 x.type)):=aF y.2
         obtain ⟨z,hz⟩:∃z,idxN x.name 0 tbl=z:=⟨_,rfl⟩
         have HZ:=aF hz
         rw [hz] at hn
         obtain ⟨acc,hacc⟩:∃acc,q4 tbl b ++ (b.locals.take k).flatMap (localW tbl)=acc:=⟨_,rfl⟩
         rw [hacc] at HO hkl
         have HNX:Hid (q4 tbl b ++ (b.locals.take (k+1)).flatMap (localW tbl)=acc ++ putI z ++ putI x.type):=aF (by rw [HST.out,← bK,hacc,← hz,bK];rfl)
         have hk3:(acc ++ putI z).length≤1000000:=by rw [HNX.out] at hkl2;simp only [aZ] at hkl2 ⊢;omega
         clear y hacc hz hm0
         go_wp2_with fail
         clear y0 y1 y2 y3 y4 y5 y6
         have hbd:Below wr.heap.size wr wr.drew:=(aV _ _).drew
         have hS:Below W.heap.size W wr.drew:=HB.out.drew
         have hod:=HO.out.keep hbd
         have hsz:W.heap.size≤wr.drew.heap.size:=hS.size
         refine cP (S:=fun X=>Below W.heap.size W X) [0,1,2,3,4,5,6,7,10,11,12,13,14,15,8,9,16,17] (by kernel_rfl) ?_
         (iterate 14 (refine cQ (v:=?_) ?_ hS ?_;rotate_left;(next=>(rintro X hX;have s4:=(cells_kept HCW.out hX) 4 _ rfl;have p0:=cell_keep (keep0 hX HBW.out) P0.out;have p1:=cell_keep (keep0 hX HBW.out) P1.out;(try simp only [aH]);go_simp;rfl));simp only [aH,Act.put,aJ]))
         (refine cS (by kernel_rfl) (fun K1 hK1=>?_);simp only [aH,Act.put,aJ];rw [aY (by rfl)];go_simp)
         refine (HI.out x.name wr.drew (keep0 hS HBW.out)).mono ?_
         rintro e' w9 ⟨rfl,hw⟩
         obtain rfl:=hw
         rw [HZ.out]
         refine hK1.out _ _ (fun _=>hS) ?_
         clear hK1
         (refine cS (by kernel_rfl) (fun K1 hK1=>?_);simp only [aH,Act.put,aJ];rw [aY (by rfl)];go_simp)
         refine (dE W.heap.size u5 acc z wr.drew hod hsz hkl hn.1 hn.2).mono ?_
         rintro e' w2 ⟨v2,rfl,ho2,hb2,_⟩
         replace hS:=hS.trans hb2
         refine hK1.out _ _ (fun _=>hS) ?_
         clear hK1
         (refine cS (by kernel_rfl) (fun K1 hK1=>?_);simp only [aH,Act.put,aJ];rw [aY (by rfl)];go_simp)
         refine (dE W.heap.size v2 _ x.type w2 ho2 hS.size hk3 h2 (by omega)).mono ?_
         rintro e' w3 ⟨v3,rfl,ho3,hb3,_⟩
         replace hS:=hS.trans hb3
         refine hK1.out _ _ (fun _=>hS) ?_
         clear hK1
         have HO2:=aF ho3
         have HB2:=aF hS
         rw [← HNX.out] at HO2
         (iterate 1 (refine cQ (v:=?_) ?_ hS ?_;rotate_left;(next=>(rintro X -;(try simp only [aH]);go_simp;rfl));simp only [aH,Act.put,aJ]))
         refine cV (by kernel_rfl) ?_
         clear hS ho3 hb3 ho2 hb2 hod hbd
         go_wp2_with fail
         go_roundw
         case rel=>exact ⟨k+1,by omega,by go_num,HO2,HB2⟩
         case measure=>simp [intOf];omega
        next=>
         have hke:k=b.locals.length:=by omega
         have HO1:Hid (OB W.heap.size wr u5 (q4 tbl b ++ b.locals.flatMap (localW tbl))):=aF (by have h:=HO.out;rw [hke,bZ] at h;exact h)
         have hml:(q4 tbl b ++ b.locals.flatMap (localW tbl)).length≤1000000:=by have h:=HG4.out k;rw [hke,bZ] at h;exact h
         clear hke HO
         go_wp2_with fail
         go_at_call 66
         refine (dE W.heap.size u5 (q4 tbl b ++ b.locals.flatMap (localW tbl)) b.args wr HO1.out HB.out.size (by omega) HG.out.args.1 (by have:=HG.out.args.2;omega)).mono ?_
         rintro e' w2 ⟨v2,rfl,hown2,hb2,_⟩
         have HO2:=aF hown2
         have HB2:=aF (HB.out.trans hb2)
         clear hown2 hb2
         have HO3:Hid (OB W.heap.size w2 v2 (declW tbl b)):=aF (by rw [xEJ];exact HO2.out)
         obtain ⟨A',c',hv⟩:=HO3.out.slice
         subst hv
         go_wp2_with fail
         go_ret
         have ho:=HO3.out
         unfold OB at ho
         exact ⟨⟨A',c',rfl,xCU ho (Nat.le_of_lt hWs)⟩,keep0 HB2.out HBW.out⟩
def encN (b:Bdy):List ByteArray:=(b.name :: b.regions) ++ b.locals.map (·.name)
theorem qU {α : Type} (t:List ByteArray) (f : α → ByteArray):∀l:List α,l.foldl (fun e x=>errX t (f x) e) 20=20
 | []=>rfl
 | x :: r=>by
   rw [List.foldl_cons,show errX t (f x) 20=20 by unfold errX;split <;> rfl]
   exact qU t f r
theorem oS {α : Type} (t:List ByteArray) (f : α → ByteArray):∀{l:List α} (e:Int),(∃x∈l,memN (f x) t=false)→l.foldl (fun e x=>errX t (f x) e) e=20
 | [],_,h=>by obtain ⟨x,hx,_⟩:=h;cases hx
 | y :: r,e,h=>by
   rw [List.foldl_cons]
   by_cases hy:memN (f y) t=false
   ·rw [show errX t (f y) e=20 by unfold errX;rw [hy];rfl]
    exact qU t f r
   ·obtain ⟨x,hx,hm⟩:=h
    rcases List.mem_cons.1 hx with rfl | hx
    ·exact absurd hm hy
    ·exact oS t f _ ⟨x,hx,hm⟩
theorem sR {t:List ByteArray} {b:Bdy} (h:∃s∈encN b,memN s t=false):declErr t b=20:=by
 obtain ⟨s,hs,hm⟩:=h
 unfold declErr
 unfold encN at hs
 rcases List.mem_append.1 hs with hs | hs
 ·rcases List.mem_cons.1 hs with rfl | hs
  ·rw [show errX t b.name 0=20 by unfold errX;rw [hm];rfl,qU t (fun s=>s),qU t (fun (x:Lc)=>x.name)]
  ·rw [oS t (fun s=>s) _ ⟨s,hs,hm⟩,qU t (fun (x:Lc)=>x.name)]
 ·obtain ⟨x,hx,rfl⟩:=List.mem_map.1 hs
  exact oS t (fun (x:Lc)=>x.name) _ ⟨x,hx,hm⟩
theorem xDK {t:List ByteArray} {b:Bdy} (h:declC b=0) (hl:t.length≤65536) (hm:∀s∈encN b,memN s t=true):DGood t b:=
 xAG h hl (hm _ (by simp [encN])) (fun s hs=>hm _ (by simp [encN,hs])) (fun x hx=>hm _ (by simp only [encN,List.mem_append,List.mem_map];exact .inr ⟨x,hx,rfl⟩))
theorem rT (b:Bdy) (bh:BH) (T:Option Addr) (ct:Nat) (tbl:List ByteArray) (w:World) (H:BdAt w b bh) (hz:NmOk b) (hT:Slc 1 RN w T ct tbl) (htl:tbl.length≤65536) (hlen:chkB b=0→(declW tbl b).length≤1000000):
 Calls Tryz.prog 12 #[.agg (bdC b bh).toArray,.slice T tbl.length ct] w (EncPost tbl b w):=by
 obtain ⟨A1,c1,A2,c2,A3,c3,A4,c4,A5,c5⟩:=bh
 obtain ⟨iS,iS0,iS1,iS2,iS3⟩:=info_parts oP
 obtain ⟨W,hW⟩:∃W,w.alloc (.cells #[Value.string b.name,.slice A1 b.regions.length c1,.slice A2 b.outl.length c2,.slice A3 b.types.length c3,.slice A4 b.locals.length c4,.int .i64 b.args,.slice A5 b.blocks.length c5] 28)=W:=⟨_,rfl⟩
 have hWs:w.heap.size<W.heap.size:=by rw [← hW];simp
 have hbw:Below w.heap.size w W:=by rw [← hW];exact alF _ _
 have HCW:Hid (aA (bdM b A1 c1 A2 c2 A3 c3 A4 c4 A5 c5 []) W w.heap.size):=aF (by rw [← hW];exact cW w [Value.string b.name,.slice A1 b.regions.length c1,.slice A2 b.outl.length c2,.slice A3 b.types.length c3,.slice A4 b.locals.length c4,.int .i64 b.args,.slice A5 b.blocks.length c5] 28)
 have HBW:=aF hbw
 have HK:Hid (Calls Tryz.prog 17 #[.agg #[Value.string b.name,.slice A1 b.regions.length c1,.slice A2 b.outl.length c2,.slice A3 b.types.length c3,.slice A4 b.locals.length c4,.int .i64 b.args,.slice A5 b.blocks.length c5]] W fun e' w'=>e' = .returned (.int .i64 (chkB b))∧Below W.heap.size W w'):=aF (rY b ⟨A1,c1,A2,c2,A3,c3,A4,c4,A5,c5⟩ W (H.keep hbw) hz)
 have HI:=aF (fun s X hb=>jD tbl s T ct X (hT.keep RN.keeps hb))
 have HDC:Hid (∀X,Below w.heap.size w X→DGood tbl b→chkB b=0→Calls Tryz.prog 20 #[.agg #[Value.string b.name,.slice A1 b.regions.length c1,.slice A2 b.outl.length c2,.slice A3 b.types.length c3,.slice A4 b.locals.length c4,.int .i64 b.args,.slice A5 b.blocks.length c5],.slice T tbl.length ct] X fun e' w'=>(∃A c,e' = .returned (.slice A (declW tbl b).length c)∧w'.ownsRow X.heap.size 5 1 (.slice A (declW tbl b).length c) (declW tbl b).length ((declW tbl b).map encB))∧Below X.heap.size X w'):=aF (fun X hb hg hc=>vM b ⟨A1,c1,A2,c2,A3,c3,A4,c4,A5,c5⟩ T ct tbl X (H.keep hb) (hT.keep RN.keeps hb) hg (hlen hc))
 have HH:=aF H
 obtain ⟨hr,r1,r2⟩:=H.reg
 have l1:=H.loc.le
 have l2:=H.loc.big
 simp only at hr r1 r2 l1 l2
 have hA1:A1=none→b.regions.length=0:=fun h=>by
  rcases Nat.eq_zero_or_pos b.regions.length with h0 | h0
  ·exact h0
  ·obtain ⟨b0,o0,e,_⟩:=hr h0
   rw [h] at e;cases e
 have hcl:∀W,Below w.heap.size w W→∀ad,A1=some ad→∀j u,(b.regions.map Value.string)[j]?=some u→W.cell? (ad.add j)=some u:=fun W hb ad had j u hj=>by
  have hjl:j<b.regions.length:=by
   have:=(List.getElem?_eq_some_iff.1 hj).1
   simpa using this
  obtain ⟨b0,o0,e,hb0,hx⟩:=hr (by omega)
  rw [had] at e
  cases e
  rw [xHQ]
  have:=hx j _ (bB hjl)
  rw [Nat.mul_one] at this
  rw [cO,bB hjl] at hj
  cases hj
  exact cell_keep hb this
 have HA1:=aF hA1
 have HCL:=aF hcl
 have HCHK:Hid (chkB b=0→declC b=0∧b.regions.length≤65535∧b.locals.length≤65535):=aF (fun h=>⟨iB h,(dY (iB h)).nreg,(dY (iB h)).nloc⟩)
 clear H hz hT hlen hr hA1 hcl hbw
 unfold bdC
 simp only
 change Calls _ _ #[.agg #[Value.string b.name,.slice A1 b.regions.length c1,.slice A2 b.outl.length c2,.slice A3 b.types.length c3,.slice A4 b.locals.length c4,.int .i64 b.args,.slice A5 b.blocks.length c5],_] _ _
 have HCC:=HCW
 obtain ⟨y0,y1,y2,y3,y4,y5,y6⟩:=aQ HCC.out
 obtain ⟨ch,hch⟩:∃ch,chkB b=ch:=⟨_,rfl⟩
 have HCH:=aF hch
 rw [hch] at HK HDC HCHK
 clear hch
 go_enter Tryz.func12,Tryz.ntmps12
 go_wp2_with fail
 go_at_call 17
 refine HK.out.mono ?_
 rintro e' w1 ⟨rfl,hb⟩
 have HC1:=aF (cells_kept HCW.out hb)
 have HB1:=aF (keep0 hb HBW.out)
 have hsz1:W.heap.size≤w1.heap.size:=hb.size
 clear hb HK HCC
 clear y0 y1 y2 y3 y4 y5 y6
 by_cases h0:ch=0
 case neg=>
  have e1:(ch != 0)=true:=by simp [h0]
  have H0:=aF h0
  clear h0
  go_wp2_with fail
  refine bodyPost_ret (v:= .tuple #[.slice none 0 0,.int .i64 16]) (by simp [results,Tryz.results12,go_sem] <;> rfl) rfl ?_
  unfold EncPost
  rw [HCH.out]
  exact ⟨HB1.out,fun _=>rfl,fun h=>absurd h H0.out,fun h=>absurd h H0.out⟩
 case pos=>
 subst h0
 obtain ⟨-,hrl,hll⟩:=HCHK.out rfl
 have HCC:=HC1
 obtain ⟨y0,y1,y2,y3,y4,y5,y6⟩:=aQ HCC.out
 have hown0:=sF w1 (.string b.name) 9 w1.heap.size (aW _)
 have HBW2:=aF (HB1.out.alloc (by omega) (.cells #[.string b.name] 9))
 have hlw:w.heap.size<w1.heap.size:=by omega
 have hlw2:¬w.heap.size=w1.heap.size:=by omega
 go_wp2_with (at_builtin;refine fX _ rfl _ _ 22 rfl w1.heap.size 9 iS (.string { data:= #[] }) 1 16 Tryz.underlying22 iS0 iS1 iS2 iS3 rfl (by decide) _ _ _ rfl hown0 (by omega) A1 b.regions.length c1 (b.regions.map Value.string) rfl HA1.out (by simp) (HCL.out _ HBW2.out) (fun u hu=>by obtain ⟨s,_,rfl⟩:=List.mem_map.1 hu;rfl) (by unfold maxLen;omega) (by omega) (by simp) ?_)
 intro v1 w2 hown1 hgrow1
 have HO1:Hid (w2.ownsRow w1.heap.size 9 1 v1 ((b.name :: b.regions) ++ (b.locals.take 0).map (·.name)).length (((b.name :: b.regions) ++ (b.locals.take 0).map (·.name)).map Value.string)):=aF (by
  simp only [List.take_zero,cM,List.append_nil,bJ,cK]
  rw [Nat.add_comm]
  exact hown1)
 have HB2:Hid (Below w1.heap.size w1 w2):=aF ((alF w1 _).grown hgrow1 (by simp) (fun g hg=>(hown0.lt g hg).1))
 clear hown1 hgrow1 hown0 HCC
 clear y0 y1 y2 y3 y4 y5 y6
 go_wp2_with fail
 go_loopw [6,7] (fun v i wr=>∃(k:Nat) (acc:List ByteArray),k≤b.locals.length∧i = .int .i64 k∧acc.length=1+b.regions.length+k∧Hid (acc=(b.name :: b.regions) ++ (b.locals.take k).map (·.name))∧Hid (wr.ownsRow w1.heap.size 9 1 v acc.length (acc.map Value.string))∧Hid (Below w1.heap.size w1 wr)) (fun _ i _=>b.locals.length - (intOf i).toNat)
 case atStart=>exact ⟨0,_,by omega,rfl,by simp;omega,aF rfl,HO1,HB2⟩
 case round=>
  clear HO1 HB2
  obtain ⟨k,acc,hk,rfl,hal,HA,HO,HB⟩:=hrel
  have hsz:=HB.out.size
  have HCC:=aF (cells_kept HC1.out HB.out)
  obtain ⟨y0,y1,y2,y3,y4,y5,y6⟩:=aQ HCC.out
  by_cases hlt:k<b.locals.length
  ·obtain ⟨b5,o5,rfl,hb5,y⟩:=HH.out.loc.sl.at_ hlt
   have HTK:=aF (gF hlt)
   obtain ⟨p0,p1⟩:=RLc.keeps _ _ _ w.heap.size _ _ _ (aW _) hb5 (keep0 HB.out HB1.out) y
   generalize b.locals[k]=xx at *
   obtain ⟨x,xt⟩:=xx
   simp only at p0 p1
   have HA2:Hid (acc ++ [x]=(b.name :: b.regions) ++ (b.locals.take (k+1)).map (·.name)):=aF (by rw [HTK.out,HA.out];simp)
   clear y
   have hown2:=HO.out.alloc (.cells #[.string x] 9)
   go_wp2_with (at_builtin;refine wpList_append_own _ rfl _ _ 22 rfl w1.heap.size 9 iS (.string { data:= #[] }) 1 16 Tryz.underlying22 iS0 iS1 iS2 iS3 rfl (by decide) _ _ _ rfl hown2 ⟨wr.heap.size,0,none⟩ 1 1 [.string x] rfl rfl (kC _ _) (kB _) (by unfold maxLen;omega) (by omega) (by simp;omega) ?_)
   intro v' w2 hown' hgrow _
   have HO2:Hid (w2.ownsRow w1.heap.size 9 1 v' (acc ++ [x]).length ((acc ++ [x]).map Value.string)):=aF (by rw [bS,aZ,hal];exact hown')
   have HB2:Hid (Below w1.heap.size w1 w2):=aF ((HB.out.alloc hsz _).grown hgrow (by simp;omega) (fun g hg=>(hown2.lt g hg).1))
   clear hown' hgrow hown2
   go_wp2_with fail
   go_roundw
   case rel=>exact ⟨k+1,acc ++ [x],by omega,by go_num,by simp;omega,HA2,HO2,HB2⟩
   case measure=>simp [intOf];omega
  ·have hkl:k=b.locals.length:=by omega
   have HAF:Hid (acc=encN b):=aF (by rw [HA.out,hkl,bZ];rfl)
   obtain ⟨L,cL,hv,hsl,_⟩:=eW (R:=RN) (enc:=Value.string) (fun w B b o x h=>h) HO.out rfl
   subst hv
   have HSL:=aF hsl
   have hacl:acc.length≤200000:=by omega
   clear hsl HA hal HO
   go_wp2_with fail
   clear hlt hk hkl
   clear y0 y1 y2 y3 y4 y5 y6
   go_loopw [8] (fun i wr2=>∃k:Nat,k≤acc.length∧i = .int .i64 k∧wr2=wr∧Hid (∀s∈acc.take k,memN s tbl=true)) (fun i _=>acc.length - (intOf i).toNat)
   case atStart=>exact ⟨0,by omega,rfl,rfl,aF (by simp)⟩
   case round=>
    obtain ⟨k,hk,rfl,rfl,HM⟩:=hrel
    by_cases hlt:k<acc.length
    ·obtain ⟨b6,o6,rfl,hb6,y⟩:=HSL.out.sl.at_ hlt
     have HTK:=aF (gF hlt)
     have HMEM:=aF (bM hlt)
     generalize acc[k]=x at *
     have p0:wr.cell? ⟨b6,o6+k,none⟩=some (.string x):=by simpa [RN] using y
     have HIX:=aF (HI.out x wr (keep0 HB.out HB1.out))
     obtain ⟨z,hz⟩:∃z,idxN x 0 tbl=z:=⟨_,rfl⟩
     rw [hz] at HIX
     by_cases hm:memN x tbl=true
     ·have hz0:0≤z:=by rw [← hz];exact (jE hm htl).1
      have HM2:Hid (∀s∈acc.take (k+1),memN s tbl=true):=aF (fun s hs=>by
       rw [HTK.out] at hs
       rcases List.mem_append.1 hs with h | h
       ·exact HM.out s h
       ·rw [bR] at h;rw [h];exact hm)
      clear y hz hm
      go_wp2_with (go_at_call 40;refine HIX.out.mono ?_;rintro e' w9 ⟨rfl,hw⟩;obtain rfl:=hw.symm)
      go_roundw
      case rel=>exact ⟨k+1,by omega,by go_num,by first | rfl | trivial,HM2⟩
      case measure=>simp [intOf];omega
     ·have hmf:memN x tbl=false:=by simpa using hm
      have hz0:z<0:=by
       have h:=jF x 0 tbl
       rw [hmf,hz] at h
       simp at h
       omega
      have HDE:Hid (declErr tbl b=20):=aF (sR ⟨x,by rw [← HAF.out];exact HMEM.out,hmf⟩)
      clear y hz hm hmf
      go_wp2_with (go_at_call 40;refine HIX.out.mono ?_;rintro e' w9 ⟨rfl,hw⟩;obtain rfl:=hw.symm)
      refine bodyPost_ret (v:= .tuple #[.slice none 0 0,.int .i64 20]) (by simp [results,Tryz.results12,go_sem] <;> rfl) rfl ?_
      unfold EncPost
      rw [HCH.out,HDE.out]
      exact ⟨keep0 HB.out HB1.out,fun h=>absurd rfl h,fun _ _=>rfl,fun _ h=>absurd h (by decide)⟩
    ·have hall:∀s∈encN b,memN s tbl=true:=by
      have h:=HM.out
      rw [show k=acc.length by omega,bZ,HAF.out] at h
      exact h
     have HGD:=aF (xDK (HCHK.out (by first | rfl | trivial)).1 htl hall)
     have HD2:=aF (HDC.out wr (keep0 HB.out HB1.out) HGD.out (by first | rfl | trivial))
     obtain ⟨y0,y1,y2,y3,y4,y5,y6⟩:=aQ HCC.out
     clear hall
     go_wp2_with (go_at_call 20;refine HD2.out.mono ?_;rintro e' w3 ⟨⟨C,d,rfl,hown⟩,hb3⟩;have HO3:=aF hown;have HB3:=aF (keep0 hb3 (keep0 HB.out HB1.out));clear hown hb3)
     refine bodyPost_ret (v:= .tuple #[.slice C (declW tbl b).length d,.int .i64 0]) (by simp [results,Tryz.results12,go_sem] <;> rfl) rfl ?_
     unfold EncPost
     rw [HCH.out,wR HGD.out,xDN HGD.out]
     obtain ⟨C2,d2,hv,hsl,_⟩:=eW (R:=RB) (enc:=encB) (fun w B b o x h=>h) HO3.out (by simp)
     injection hv with hv1 _ hv2
     subst hv1 hv2
     exact ⟨HB3.out,fun h=>absurd rfl h,fun _ h=>absurd rfl h,fun _ _=>⟨C,d,rfl,hsl⟩⟩
theorem lH (t:List ByteArray) (s:ByteArray):(nameX t s).length≤11:=dW _
theorem xAH {t:List ByteArray} {b:Bdy} (h:namesZ b≤3000):(declX t b).length≤1000000:=by
 unfold namesZ at h
 have c1:=gX b.regions
 have c2:=gX (b.locals.map (·.name))
 rw [cF] at c2
 have g1:=lH t b.name
 have g2:=fS (f:=nameX t) (k:=11) (l:=b.regions) (fun s _=>lH t s)
 have g3:=fS (f:=pairW) (k:=22) (l:=b.outl) (fun p _=>by have h1:=dW p.1;have h2:=dW p.2;unfold pairW;rw [aZ];omega)
 have g4:(listW typeW b.types).length≤11+34 * 3000:=by
  unfold listW
  have h1:=oH b.types.length
  have h2:=kK (l:=b.types) (by omega)
  rw [aZ]
  omega
 have g5:=fS (f:=eD t) (k:=22) (l:=b.locals) (fun x _=>by have h1:=lH t x.name;have h2:=dW x.type;unfold eD;rw [aZ];omega)
 have g6:=dW b.args
 have e:declX t b=nameX t b.name ++ (listW (nameX t) b.regions ++ (listW pairW b.outl ++ (listW typeW b.types ++ (listW (eD t) b.locals ++ putI b.args)))):=rfl
 rw [e]
 simp only [aZ]
 omega
def encR (t:List ByteArray) (b:Bdy):Int × List UInt8:=
 if chkB b=0 then (if declErr t b=0 then (0,declX t b) else (declErr t b,[])) else (16,[])
def uQ (r:Int × List UInt8) (w:World) (e':Ending) (w':World):Prop:=
 ∃A c,e' = .returned (.tuple #[.slice A r.2.length c,.int .i64 r.1])∧Slc 1 RB w' A c r.2∧Below w.heap.size w w'
theorem EncPost.res {t:List ByteArray} {b:Bdy} {w:World} {e':Ending} {w':World} (h:EncPost t b w e' w'):uQ (encR t b) w e' w':=by
 obtain ⟨hb,h1,h2,h3⟩:=h
 unfold encR uQ
 by_cases hc:chkB b=0
 ·rw [aY hc]
  by_cases he:declErr t b=0
  ·rw [aY he]
   obtain ⟨A,c,e,hs⟩:=h3 hc he
   exact ⟨A,c,e,hs,hb⟩
  ·rw [aX he]
   exact ⟨none,0,h2 hc he,⟨Sl.nil,by simp,by omega⟩,hb⟩
 ·rw [aX hc]
  exact ⟨none,0,h1 hc,⟨Sl.nil,by simp,by omega⟩,hb⟩
theorem xGQ {xs:List ByteArray} (h:xs.length≤8000):(tabB [] xs).length≤8000:=by
 have:=tF xs []
 simp only [bO] at this
 omega
end
end Go.Proofs.YtbnljlpefpllcaaGreatDoor
