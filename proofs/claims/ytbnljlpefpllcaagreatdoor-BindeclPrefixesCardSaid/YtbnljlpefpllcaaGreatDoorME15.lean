/-
  Parts of the proof: V13 P9T PD0 PD R0 RD0 V70.
-/
import Derived.Test.YtbnljlpefpllcaaGreatDoorME0
import Derived.Test.YtbnljlpefpllcaaGreatDoorME5
import Derived.Test.YtbnljlpefpllcaaGreatDoorME8
import Derived.Test.YtbnljlpefpllcaaGreatDoorME7
import Derived.Test.YtbnljlpefpllcaaGreatDoorME4
import Derived.Test.YtbnljlpefpllcaaGreatDoorME3
import Derived.Test.YtbnljlpefpllcaaGreatDoorME2
import Derived.Test.YtbnljlpefpllcaaGreatDoorME9
namespace Go.Proofs.YtbnljlpefpllcaaGreatDoor
set_option maxRecDepth 100000
set_option maxHeartbeats 16000000
section
open Go Go.RowKit
def BxC (w:World) (n:Nat) (b:Bdy) (bh:BH):Prop:=∀i v,(bdC b bh)[i]?=some v→w.cell? ⟨n,i,none⟩=some v
theorem BxC.new (w:World) (b:Bdy) (bh:BH):BxC (bxW w b bh) w.heap.size b bh:=fun i v hi=>oX (aV _ _) i v hi
theorem BxC.keep {w w':World} {n:Nat} {b:Bdy} {bh:BH} (h:BxC w n b bh) (hb:Below w.heap.size w w'):BxC w' n b bh:=fun i v hi=>cell_keep hb (h i v hi)
theorem xDD (W:World) (x y z u:Int) (T:TypeId) (k:Nat) (hk:k=W.heap.size):Slc 1 RInt (W.alloc (.cells #[.int .i64 x,.int .i64 y,.int .i64 z,.int .i64 u] T)) (some ⟨k,0,none⟩) 4 [x,y,z,u]:=by
 subst hk
 refine ⟨fun _=>⟨_,_,rfl,by simp,fun i q hi=>?_⟩,by simp,by omega⟩
 show (W.alloc _).cell? ⟨W.heap.size,0+i * 1,none⟩=_
 rw [World.cell?_alloc_at _ _ _ _ (by simp),Nat.zero_add,Nat.mul_one]
 match i,hi with
 | 0,hi=>simp at hi;subst hi;rfl
 | 1,hi=>simp at hi;subst hi;rfl
 | 2,hi=>simp at hi;subst hi;rfl
 | 3,hi=>simp at hi;subst hi;rfl
 | i+4,hi=>simp at hi
theorem xDM (b:Bdy) (bh:BH) (w:World) (H:BdAt w b bh):
 Calls Tryz.prog 77 #[.agg (bdC b bh).toArray] w fun e' w'=>e' = .returned (.int .i64 (declC b))∧Below w.heap.size w w':=by
 have HX:=aF (BxC.new w b bh)
 have HH:=aF H
 have HB0:=aF (lV w b bh)
 have r1:=H.reg.le
 have r2:=H.reg.big
 have b1:=H.blk.le
 have b2:=H.blk.big
 have HID:=aF (eX b.name (bxW w b bh))
 unfold declC
 obtain ⟨Q,hQ⟩:∃Q,(if isIdent b.name=false then 12 else if firstE [namesC b.regions,pairsC b.regions.length b.outl,typesC b.regions.length b.types,localsC b]=0 then (if b.blocks.length=0∨65535<b.blocks.length then 15 else 0) else firstE [namesC b.regions,pairsC b.regions.length b.outl,typesC b.regions.length b.types,localsC b])=Q:=⟨_,rfl⟩
 rw [hQ]
 have HQ:=aF hQ
 clear hQ H
 cases hid:isIdent b.name
 ·rw [hid] at HID HQ
  have HF:Hid (Q=12):=aF HQ.out.symm
  clear hid HQ
  unfold bdC
  go_enter Tryz.func77,Tryz.ntmps77
  go_wp2_with (go_at_call 68;refine HID.out.mono ?_;rintro e' w1 ⟨rfl,hb1⟩)
  go_ret
  exact ⟨by rw [HF.out];rfl,HB0.out.trans (hb1.mono HB0.out.size)⟩
 rw [hid] at HID HQ
 have HQ':Hid (Q=if firstE [namesC b.regions,pairsC b.regions.length b.outl,typesC b.regions.length b.types,localsC b]=0 then (if b.blocks.length=0∨65535<b.blocks.length then 15 else 0) else firstE [namesC b.regions,pairsC b.regions.length b.outl,typesC b.regions.length b.types,localsC b]):=aF HQ.out.symm
 clear hid HQ
 have HN:=aF (fun W (hb:Below w.heap.size w W)=>yW b.regions bh.A1 bh.c1 W (HH.out.keep hb).reg)
 have HP:=aF (fun W (hb:Below w.heap.size w W)=>mP b.outl b.regions.length bh.A2 bh.c2 W (HH.out.keep hb).out)
 have HT:=aF (fun W (hb:Below w.heap.size w W)=>uW b.types b.regions.length bh.A3 bh.c3 W (HH.out.keep hb).typ)
 have HL:=aF (fun W (hb:Below w.heap.size w W)=>wE b bh W (HH.out.keep hb))
 generalize namesC b.regions=E1 at HN HQ'
 generalize pairsC b.regions.length b.outl=E2 at HP HQ'
 generalize typesC b.regions.length b.types=E3 at HT HQ'
 generalize localsC b=E4 at HL HQ'
 have HFI:=aF (gB [E1,E2,E3,E4])
 generalize firstE [E1,E2,E3,E4]=E at HFI HQ'
 unfold bdC at HL ⊢
 go_enter Tryz.func77,Tryz.ntmps77
 go_wp2_with (go_at_call 68;refine HID.out.mono ?_;rintro e' w1 ⟨rfl,hb1⟩;have x1:=HX.out.keep hb1 1 _ rfl)
 have hX1:BxC w1.drew w.heap.size b bh:=(HX.out.keep hb1).keep ((aV _ _).drew)
 have hB1:Below w.heap.size w w1.drew:=(HB0.out.trans (hb1.mono HB0.out.size)).drew
 have HB1:=aF hB1
 have hS:=hX1
 clear hX1 hB1 hb1
 refine cP (S:=fun X=>BxC X w.heap.size b bh) [0,1,3,4,5,7,8,9,11,2,6,10,12,13,14,15] (by kernel_rfl) ?_
 (iterate 9 (refine cQ (v:=?_) ?_ hS ?_;rotate_left;(next=>(rintro X hX;obtain ⟨s0,s1,s2,s3,s4,s5,s6⟩:=aQ hX;(try simp only [aH]);go_simp;rfl));simp only [aH,Act.put,aJ]))
 (refine cS (by kernel_rfl) (fun K1 hK1=>?_);simp only [aH,Act.put,aJ];rw [aY (by rfl)];go_simp)
 refine (HN.out _ HB1.out).mono ?_
 rintro e' w2 ⟨rfl,hb⟩
 replace hS:=hS.keep hb
 have HB2:=aF (HB1.out.trans (hb.mono HB1.out.size))
 clear hb HB1
 refine hK1.out _ _ (fun _=>hS) ?_
 clear HN
 (refine cS (by kernel_rfl) (fun K1 hK1=>?_);simp only [aH,Act.put,aJ];rw [aY (by rfl)];go_simp)
 refine (HP.out _ HB2.out).mono ?_
 rintro e' w3 ⟨rfl,hb⟩
 replace hS:=hS.keep hb
 have HB3:=aF (HB2.out.trans (hb.mono HB2.out.size))
 clear hb HB2
 refine hK1.out _ _ (fun _=>hS) ?_
 clear HP
 (refine cS (by kernel_rfl) (fun K1 hK1=>?_);simp only [aH,Act.put,aJ];rw [aY (by rfl)];go_simp)
 refine (HT.out _ HB3.out).mono ?_
 rintro e' w4 ⟨rfl,hb⟩
 replace hS:=hS.keep hb
 have HB4:=aF (HB3.out.trans (hb.mono HB3.out.size))
 clear hb HB3
 refine hK1.out _ _ (fun _=>hS) ?_
 clear HT
 (refine cS (by kernel_rfl) (fun K1 hK1=>?_);simp only [aH,Act.put,aJ];rw [aY (by rfl)];go_simp)
 refine (HL.out _ HB4.out).mono ?_
 rintro e' w5 ⟨rfl,hb⟩
 replace hS:=hS.keep hb
 have HB5:=aF (HB4.out.trans (hb.mono HB4.out.size))
 clear hb HB4
 refine hK1.out _ _ (fun _=>hS) ?_
 clear HL
 (refine cS (by kernel_rfl) (fun K1 hK1=>?_);simp only [aH,Act.put,aJ];rw [aY (by rfl)];go_simp)
 have HNW:=aF (xDD w5 E1 E2 E3 E4 35 _ rfl)
 have hbn:Below w5.heap.size w5 (w5.alloc (.cells #[.int .i64 E1,.int .i64 E2,.int .i64 E3,.int .i64 E4] 35)):=(aV _ _).alloc (aW _) _
 replace hS:=hS.keep hbn
 have HB6:=aF (HB5.out.trans (hbn.mono HB5.out.size))
 clear hbn
 refine hK1.out _ _ (fun _=>hS) ?_
 (refine cS (by kernel_rfl) (fun K1 hK1=>?_);simp only [aH,Act.put,aJ];rw [aY (by rfl)];go_simp)
 refine (HFI.out _ 4 _ HNW.out).mono ?_
 rintro e' w6 ⟨rfl,hw⟩
 obtain rfl:=hw.symm
 refine hK1.out _ _ (fun _=>hS) ?_
 (iterate 1 (refine cQ (v:=?_) ?_ hS ?_;rotate_left;(next=>(rintro X hX;have s0:=hX 0 _ rfl;(try simp only [aH]);go_simp;rfl));simp only [aH,Act.put,aJ]))
 refine cV (by kernel_rfl) ?_
 have x6:=hS 6 _ rfl
 clear hS HH HX HB0 HNW
 by_cases he:E=0
 ·have HF:Hid (Q=if b.blocks.length=0∨65535<b.blocks.length then 15 else 0):=aF (by rw [HQ'.out,aY he])
  subst he
  clear HQ'
  obtain ⟨m,hm⟩:∃m,b.blocks.length=m:=⟨_,rfl⟩
  rw [hm] at HF x6 b1
  rw [hm]
  clear hm
  by_cases hbl:m=0∨65535<m
  ·rw [aY hbl] at HF
   rcases hbl with rfl | hbl
   ·go_wp2_with fail
    go_ret
    exact ⟨by rw [HF.out];rfl,HB6.out⟩
   ·have e1:((m:Int) == 0)=false:=by simp;omega
    go_wp2_with fail
    go_ret
    exact ⟨by rw [HF.out];rfl,HB6.out⟩
  ·rw [aX hbl] at HF
   have e1:((m:Int) == 0)=false:=by simp;omega
   have e2:¬(65535:Int)<m:=by omega
   clear hbl
   go_wp2_with fail
   go_ret
   exact ⟨by rw [HF.out];rfl,HB6.out⟩
 ·have HF:Hid (Q=E):=aF (by rw [HQ'.out,aX he])
  have e1:(E != 0)=true:=by simp [he]
  clear HQ'
  go_wp2_with fail
  go_ret
  exact ⟨by rw [HF.out];rfl,HB6.out⟩
theorem yU {w:World} {b1 b2 n1 n2 k1 k2:Nat} {e1 e2:TypeId} {v1 v2:Value} {xs1 xs2:List Value} (h1:w.ownsRow b1 e1 k1 v1 n1 xs1) (h2:w.ownsRow b2 e2 k2 v2 n2 xs2) (hne:e1≠e2) (j:Nat) (hj:some j=v1.ownBlock):some j≠v2.ownBlock:=by
 rcases h1.2 with ⟨rfl,_⟩ | ⟨g',cap,cur,rfl,_,hh,_⟩
 ·simp [Value.ownBlock] at hj
 ·have:j=g':=by simpa [Value.ownBlock] using hj
  subst this
  exact fH h2 hh (Ne.symm hne)
def FldAt (g:Nat) (w:World) (y:TH):Prop:=w.ownsRow (g+1) 3 1 (.slice y.A y.t.flds.length y.c) y.t.flds.length (y.t.flds.map (Value.int .i64))
theorem FldAt.but {g:Nat} {w w':World} {y:TH} (h:FldAt g w y) (hb:But g w w'):FldAt g w' y:=cY h (fun k h1 h2 _=>hb.block k h2 (by omega))
theorem vS (h g t:Nat) (T:Option Addr) (c:Nat) (tbl:List ByteArray) (s:Rs) (w:World) (H:DTab w h g t T c tbl) (hr:PRd w g s):Calls Tryz.prog 47 #[.pointer (some ⟨h,0,none⟩)] w (gK g w (typeS s)):=by
 by_cases he:(byteS s).2.err=0
 ·rcases (show (byteS s).1≤2∨(byteS s).1=3∨(byteS s).1=4∨(byteS s).1=5∨5<(byteS s).1 by omega) with h1 | h1 | h1 | h1 | h1
  ·exact jY h g t T c tbl s w H hr (.inr h1)
  ·exact xCO h g t T c tbl s w H hr he h1
  ·exact xCN h g t T c tbl s w H hr he h1
  ·exact xCM h g t T c tbl s w H hr he h1
  ·exact vR h g t T c tbl s w H hr he h1
 ·exact jY h g t T c tbl s w H hr (.inl he)
theorem vV (h g t:Nat) (T:Option Addr) (c:Nat) (tbl:List ByteArray) (s:Rs) (w:World) (H:DTab w h g t T c tbl) (hr:PRd w g s):
 Calls Tryz.prog 46 #[.pointer (some ⟨h,0,none⟩),.func (.func 47) #[.pointer (some ⟨h,0,none⟩)] #[]] w fun e' w'=>∃A c n,e' = .returned (.slice A n c)∧PRd w' g (listS typeS s).2∧But g w w'∧
  ((listS typeS s).2.err=0→∃ys:List TH,ys.map (·.t)=(listS typeS s).1∧ys.length=n∧w'.ownsRow w.heap.size 83 5 (.slice A n c) n (ys.flatMap dQ)∧∀y∈ys,FldAt g w' y):=by
 obtain ⟨i0,hi,hz0,hz1,hz2⟩:=info_parts zD
 have hC:=fZ g s w hr
 have hgl:=hr.lt
 have hD0:=H.c0
 have HH:=aF H
 have hnl:=jK 65535 s
 have hn0:=fN 65535 s
 obtain ⟨Q,hQ⟩:∃Q,listS typeS s=Q:=⟨_,rfl⟩
 rw [hQ]
 unfold listS at hQ
 generalize countS 65535 s=K at *
 obtain ⟨n,s0⟩:=K
 simp only at hC hQ hnl hn0
 have HQ:=aF hQ
 have HC:=aF hC
 clear hQ hC hr H
 go_enter Tryz.func46,Tryz.ntmps46
 go_wp2_with (go_at_call 88;refine HC.out.mono ?_;rintro e' w1 ⟨rfl,hr1,hb1⟩;have HR1:=aF hr1;have HB1:=aF hb1;clear hr1 hb1)
 have hI0:∃(k:Nat) (sk:Rs) (ys:List TH),n - n=k∧k≤n∧ys.length=k∧w1.ownsRow w.heap.size 83 5 (.slice none 0 0) k (ys.flatMap dQ)∧(∀y∈ys,FldAt g w1 y)∧PRd w1 g sk∧But g w w1∧(0<n→sk.err=0)∧Hid (Q=(ys.map (·.t) ++ (itemsS typeS (n - k) sk).1,(itemsS typeS (n - k) sk).2)):=
  ⟨0,s0,[],by omega,by omega,rfl,World.ownsRow_nil _ _ _ _,by simp,HR1.out,HB1.out,fun h=>Decidable.byContradiction fun h1=>by have:=hn0 h1;omega,aF (by rw [← HQ.out];rfl)⟩
 have HI0:=aF hI0
 clear hI0 HR1 HB1 HC
 go_loopw [5,12] (fun v i wr=>∃(k:Nat) (sk:Rs) (ys:List TH),i = .int .i64 k∧k≤n∧ys.length=k∧wr.ownsRow w.heap.size 83 5 v k (ys.flatMap dQ)∧(∀y∈ys,FldAt g wr y)∧PRd wr g sk∧But g w wr∧(0<n→sk.err=0)∧Hid (Q=(ys.map (·.t) ++ (itemsS typeS (n - k) sk).1,(itemsS typeS (n - k) sk).2))) (fun _ i _=>n - (intOf i).toNat)
 case atStart=>
  obtain ⟨k,sk,ys,hk,h1⟩:=HI0.out
  have:k=0:=by omega
  subst this
  exact ⟨0,sk,ys,rfl,h1⟩
 case round=>
  clear HI0
  obtain ⟨k,sk,ys,rfl,hk,hyl,hown,hfl,hrd,hbt,hsk,HQ2⟩:=hrel
  by_cases hlt:k<n
  ·have hsz:=hbt.size
   have hst:Hid (itemsS typeS (n - k) sk=if (typeS sk).2.err=0 then ((typeS sk).1 :: (itemsS typeS (n - (k+1)) (typeS sk).2).1,(itemsS typeS (n - (k+1)) (typeS sk).2).2) else ([],(typeS sk).2)):=aF (by
    rw [show n - k=(n - (k+1))+1 by omega]
    rfl)
   have HN:=aF (vS h g t T c tbl sk wr (HH.out.but hbt) hrd)
   have HHW:=aF (HH.out.but hbt)
   generalize typeS sk=Z at *
   obtain ⟨x,s'⟩:=Z
   simp only at hst HN
   have HOWN:=aF hown
   have HBT:=aF hbt
   have HFL:=aF hfl
   clear hfl
   clear hown hrd hbt
   go_wp2_with fail
   go_at_call 47
   refine HN.out.mono ?_
   rintro e' w2 ⟨y,rfl,hr2,hb2,hy2⟩
   obtain ⟨W3,hW3⟩:∃W3,w2.alloc (.cells #[.int .i64 y.t.kind,.bool y.t.mu,.int .i64 y.t.reg,.int .i64 y.t.elem,.slice y.A y.t.flds.length y.c] 83)=W3:=⟨_,rfl⟩
   have hbW:Below w2.heap.size w2 W3:=by rw [← hW3];exact (aV _ _).alloc (aW _) _
   have hkW:W3.heap[w2.heap.size]?=some (.cells #[.int .i64 y.t.kind,.bool y.t.mu,.int .i64 y.t.reg,.int .i64 y.t.elem,.slice y.A y.t.flds.length y.c] 83 (0,0)):=by rw [← hW3];exact heap_alloc_new w2 _
   obtain ⟨z0,z1,z2,z3,z4,_⟩:=blk5 hkW
   have hr3:=hr2.keep hbW
   have hb3:But g wr W3:=hb2.trans (But.of_below hbW)
   have HY2:Hid (s'.err=0→y.t=x∧FldAt g W3 y):=aF (fun h0=>⟨(hy2 h0).1,FldAt.but (show FldAt g w2 y from hO (hy2 h0).2 (by omega)) (But.of_below hbW)⟩)
   clear hr2 hb2 hbW hkW hy2
   have y0:=(HHW.out.but hb3).c0
   have HE:=aF (gZ g s' W3 hr3)
   have HR3:=aF hr3
   have HB3:=aF hb3
   clear hr3 hb3 HN
   by_cases he:s'.err=0
   ·rw [he] at HE
    rw [aY he] at hst
    obtain ⟨hyx,hyf⟩:=HY2.out he
    have HYX:=aF hyx
    have HYF:=aF hyf
    clear hyx hyf
    have hown2:(W3.alloc (.cells #[.int .i64 y.t.kind,.bool y.t.mu,.int .i64 y.t.reg,.int .i64 y.t.elem,.slice y.A y.t.flds.length y.c] 83)).ownsRow w.heap.size 83 5 u5 k (ys.flatMap dQ):=
     (cY HOWN.out (fun k hk1 hk2 _=>HB3.out.block k hk2 (by omega))).alloc _
    have hbw:But g w W3:=HBT.out.trans HB3.out
    have hwz:=hbw.size
    have HBW:=aF hbw
    clear hbw
    go_wp2_with (first
     | (at_builtin;refine wpList_append_own _ rfl _ _ 24 rfl w.heap.size 83 i0 (.agg #[.int .i64 0,.bool false,.int .i64 0,.int .i64 0,.slice none 0 0]) 5 56 Tryz.underlying24 hi hz0 hz1 hz2 rfl (by decide) _ _ _ rfl hown2 ⟨W3.heap.size,0,none⟩ 1 1 [.int .i64 y.t.kind,.bool y.t.mu,.int .i64 y.t.reg,.int .i64 y.t.elem,.slice y.A y.t.flds.length y.c] rfl rfl ?c1 ?c2 ?c3 ?c4 ?c5 ?_)
     | (go_at_call 89;refine HE.out.mono ?_;rintro e' w3 ⟨rfl,hw⟩;obtain rfl:=hw.symm))
    case c1=>
     intro j u hj
     rw [add0]
     exact dZ W3 [.int .i64 y.t.kind,.bool y.t.mu,.int .i64 y.t.reg,.int .i64 y.t.elem,.slice y.A y.t.flds.length y.c] 83 j u hj
    case c2=>intro u hu;simp at hu;(rcases hu with rfl | rfl | rfl | rfl | rfl <;> rfl)
    case c3=>unfold maxLen;omega
    case c4=>omega
    case c5=>simp;omega
    intro v' w4 hown' hgrow _
    have hown3:w4.ownsRow w.heap.size 83 5 v' (k+1) ((ys ++ [y]).flatMap dQ):=by
     rw [cA,List.flatMap_singleton];exact hown'
    have hg4:∀j,j<w.heap.size→w4.heap[j]?=W3.heap[j]?:=fun j hj=>(hgrow.block j (by simp;omega) (dG hown2 hj)).trans (Below.heap_alloc _ _ _ (by omega))
    have hb4:But g w w4:=⟨hgrow.os.trans HBW.out.os,hgrow.tape.trans HBW.out.tape,hgrow.output.trans HBW.out.output,by have:=hgrow.size;simp at this;omega,fun j hj hne=>(hg4 j hj).trans (HBW.out.block j hj hne)⟩
    have hr4:PRd w4 g s':=HR3.out.low (by have:=hgrow.size;simp at this;omega) (fun j hj=>hg4 j (by omega))
    have hf4:∀z∈ys ++ [y],FldAt g w4 z:=fun z hz=>by
     have h3:FldAt g W3 z:=by
      rcases List.mem_append.1 hz with h1 | h1
      ·exact (HFL.out z h1).but HB3.out
      ·rw [bR] at h1
       rw [h1]
       exact HYF.out
     have h3':=World.ownsRow.alloc h3 (.cells #[.int .i64 y.t.kind,.bool y.t.mu,.int .i64 y.t.reg,.int .i64 y.t.elem,.slice y.A y.t.flds.length y.c] 83)
     exact cY h3' (fun j _ hj2 hj3=>hgrow.block j hj2 (yU h3' hown2 (by decide) j hj3))
    clear hown' hgrow hown2 hg4
    go_wp2_with fail
    go_roundw
    case rel=>exact ⟨k+1,s',ys ++ [y],by go_num,by omega,by simp [hyl],hown3,hf4,hr4,hb4,fun _=>he,aF (by rw [HQ2.out,hst.out,← HYX.out];simp)⟩
    case measure=>simp [intOf];omega
   ·have e2:(s'.err == 0)=false:=by simp [he]
    have e3:(s'.err != 0)=true:=by simp [he]
    rw [aX he] at hst
    have HHE:=aF he
    have HQ3:Hid (Q=(ys.map (·.t),s')):=aF (by rw [HQ2.out,hst.out];simp)
    clear he
    generalize s'.err=er at HE e2 e3
    go_wp2_with (go_at_call 89;refine HE.out.mono ?_;rintro e' w3 ⟨rfl,hw⟩;obtain rfl:=hw)
    go_ret
    rw [HQ3.out]
    exact ⟨none,0,0,rfl,HR3.out,HBT.out.trans HB3.out,fun h0=>absurd h0 HHE.out⟩
  ·have hkn:k=n:=by omega
   have HQ3:Hid (Q=(ys.map (·.t),sk)):=aF (by rw [HQ2.out,hkn,Nat.sub_self];simp [itemsS])
   obtain ⟨A,cc,hv⟩:∃A cc,u5 = .slice A k cc:=by
    rcases hown.2 with ⟨h1,h2⟩ | ⟨g',cap,cur,h1,_⟩
    ·exact ⟨none,0,by rw [h1,h2]⟩
    ·exact ⟨_,cap,h1⟩
   subst hv
   have HOWN:=aF hown
   have HRD:=aF hrd
   have HBT:=aF hbt
   have HFL:=aF hfl
   clear hfl
   clear hown hrd hbt
   go_wp2_with fail
   go_ret
   rw [HQ3.out]
   exact ⟨A,cc,k,rfl,HRD.out,HBT.out,fun _=>⟨ys,rfl,hyl,HOWN.out,HFL.out⟩⟩
theorem tI {α : Type} {enc : α → List Value} (hk:∀x,(enc x).length=2) {R:Rd α} (hR:∀(w:World) (B b o:Nat) (x : α),(∀j u,(enc x)[j]?=some u→w.cell? ⟨b,o+j,none⟩=some u)→R w B b o x) {w:World} {base n:Nat} {e:TypeId} {v:Value} {xs:List α}
 (h:w.ownsRow base e 2 v n (xs.flatMap enc)) (hn:xs.length=n):∃A c,v = .slice A n c∧Slc 2 R w A c xs:=by
 subst hn
 rcases h.2 with ⟨rfl,hz⟩ | ⟨g,cap,cur,rfl,hg,hh,hnc,hm,_,_⟩
 ·have:xs=[]:=List.length_eq_zero_iff.1 (by omega)
  subst this
  exact ⟨none,0,rfl,Sl.nil,by simp,by omega⟩
 ·refine ⟨some ⟨g,0,none⟩,cap,rfl,⟨fun _=>⟨g,0,rfl,(Array.getElem?_eq_some_iff.1 hh).1,fun i x hx=>hR w _ g _ x (fun j u hu=>?_)⟩,by simpa using hnc,by simp only [maxLen] at hm;omega⟩⟩
  have hj:j<2:=by
   have:=(List.getElem?_eq_some_iff.1 hu).1
   rwa [hk] at this
  have hc:=h.cells (g:=g) rfl (i * 2+j) u ((oU enc hk xs i x hx j hj).trans hu)
  rw [add0] at hc
  rw [Nat.zero_add]
  exact hc
theorem xDE {g:Nat} {w:World} {y:TH} (h:FldAt g w y):GoodH w y:=by
 obtain ⟨A,c,hv,hs,_⟩:=eW (R:=RInt) (fun w B b o x h=>h) h rfl
 injection hv with h1 _ h3
 unfold GoodH
 rw [h1,h3]
 exact ⟨hs.sl,hs.le,hs.big⟩
def set7 (w:World) (k:Nat) (a b c d e f z:Value):World:=((((((w.setCell ⟨k,0,none⟩ a).setCell ⟨k,1,none⟩ b).setCell ⟨k,2,none⟩ c).setCell ⟨k,3,none⟩ d).setCell ⟨k,4,none⟩ e).setCell ⟨k,5,none⟩ f).setCell ⟨k,6,none⟩ z
theorem nF {w:World} {k j:Nat} (a b c d e f z:Value) (h:j≠k):(set7 w k a b c d e f z).heap[j]?=w.heap[j]?:=by
 unfold set7
 rw [bG _ _ _ j (by simpa using h),bG _ _ _ j (by simpa using h),bG _ _ _ j (by simpa using h),bG _ _ _ j (by simpa using h),bG _ _ _ j (by simpa using h),bG _ _ _ j (by simpa using h),bG _ _ _ j (by simpa using h)]
theorem pN (w:World) (k:Nat) (a b c d e f z:Value):(set7 w k a b c d e f z).heap.size=w.heap.size:=by simp [set7]
theorem jR {w w2:World} {n k:Nat} (a b c d e f z:Value) (h:Below n w w2) (hk:n≤k):Below n w (set7 w2 k a b c d e f z):=by
 unfold set7
 exact ((((((h.setCell (p:=⟨k,0,none⟩) hk _).setCell (p:=⟨k,1,none⟩) hk _).setCell (p:=⟨k,2,none⟩) hk _).setCell (p:=⟨k,3,none⟩) hk _).setCell (p:=⟨k,4,none⟩) hk _).setCell (p:=⟨k,5,none⟩) hk _).setCell (p:=⟨k,6,none⟩) hk _
theorem xBY {g k:Nat} {w w2:World} (a b c d e f z:Value) (h:But g w w2) (hk:w.heap.size≤k):But g w (set7 w2 k a b c d e f z):=by
 unfold set7
 exact eO (eO (eO (eO (eO (eO (eO h hk _ _) hk _ _) hk _ _) hk _ _) hk _ _) hk _ _) hk _ _
theorem xBX {g k:Nat} {w:World} {s:Rs} (a b c d e f z:Value) (h:PRd w g s) (hk:g<k):PRd (set7 w k a b c d e f z) g s:=
 h.low (by rw [pN];exact aW _) (fun j hj=>nF _ _ _ _ _ _ _ (by omega))
theorem blk7 {w:World} {k:Nat} {a b c d e f z:Value} {t:TypeId} (h:w.heap[k]?=some (.cells #[a,b,c,d,e,f,z] t (0,0))):
 w.cell? ⟨k,0,none⟩=some a∧w.cell? ⟨k,1,none⟩=some b∧w.cell? ⟨k,2,none⟩=some c∧w.cell? ⟨k,3,none⟩=some d∧w.cell? ⟨k,4,none⟩=some e∧w.cell? ⟨k,5,none⟩=some f∧w.cell? ⟨k,6,none⟩=some z∧(∀i,w.frozen? ⟨k,i,none⟩=false):=
 ⟨by rw [cell_of_row w _ 0 _ _ _ h];rfl,by rw [cell_of_row w _ 1 _ _ _ h];rfl,by rw [cell_of_row w _ 2 _ _ _ h];rfl,by rw [cell_of_row w _ 3 _ _ _ h];rfl,by rw [cell_of_row w _ 4 _ _ _ h];rfl,by rw [cell_of_row w _ 5 _ _ _ h];rfl,by rw [cell_of_row w _ 6 _ _ _ h];rfl,fun i=>by simp [World.frozen?,h]⟩
theorem kI {w:World} {k:Nat} {a b c d e f z:Value} {t:TypeId} (a' b' c' d' e' f' z':Value) (h:w.heap[k]?=some (.cells #[a,b,c,d,e,f,z] t (0,0))):
 (set7 w k a' b' c' d' e' f' z').heap[k]?=some (.cells #[a',b',c',d',e',f',z'] t (0,0)):=by
 simp [set7,World.setCell,Array.getElem?_modify,h]
theorem jL {w:World} {k i:Nat} {a b c d e f z v:Value} {t:TypeId} (h:w.heap[k]?=some (.cells #[a,b,c,d,e,f,z] t (0,0))):
 (w.setCell ⟨k,i,none⟩ v).heap[k]?=some (.cells (#[a,b,c,d,e,f,z].setIfInBounds i v) t (0,0)):=by
 simp [World.setCell,Array.getElem?_modify,h]
def noBH:BH:=⟨none,0,none,0,none,0,none,0,none,0⟩
theorem noBd (w:World):BdAt w jZ noBH:=⟨⟨Sl.nil,by simp [jZ],by simp [noBH]⟩,⟨Sl.nil,by simp [jZ],by simp [noBH]⟩,⟨Sl.nil,by simp [jZ],by simp [noBH]⟩,⟨Sl.nil,by simp [jZ],by simp [noBH]⟩,⟨Sl.nil,by simp [jZ],by simp [noBH]⟩⟩
theorem lW {g k i:Nat} {w X:World} {v:Value} (h:But g w X) (hk:w.heap.size≤k):But g w (X.setCell ⟨k,i,none⟩ v):=eO h hk i v
theorem kY {g k i:Nat} {X:World} {s:Rs} {v:Value} (h:PRd X g s) (hk:g<k):PRd (X.setCell ⟨k,i,none⟩ v) g s:=
 h.low (by simp) (fun j hj=>bG _ _ _ j (by simp;omega))
theorem eL {base n m k i:Nat} {X:World} {e:TypeId} {u v:Value} {xs:List Value} (h:X.ownsRow base e m u n xs) (hk:k<base):(X.setCell ⟨k,i,none⟩ v).ownsRow base e m u n xs:=
 cY h (fun j h1 _ _=>bG _ _ _ j (by simp;omega))
theorem fQ {g base n m:Nat} {X Y:World} {e:TypeId} {u:Value} {xs:List Value} (h:X.ownsRow base e m u n xs) (hb:But g X Y) (hg:g<base):Y.ownsRow base e m u n xs:=
 cY h (fun j h1 h2 _=>hb.block j h2 (by omega))
theorem sL {g k:Nat} {X:World} {y:TH} {cs:Array Value} {z:Nat × Nat} (h:FldAt g X y) (hk:X.heap[k]?=some (.cells cs 28 z)) (i:Nat) (v:Value):FldAt g (X.setCell ⟨k,i,none⟩ v) y:=
 cY h (fun j _ _ hj=>bG _ _ _ j (fun e=>by
  simp only at e
  rw [e] at hj
  exact fH h hk (by decide) hj))
structure Rows (g b0:Nat) (W:World) (rg:List ByteArray) (ot:List (Int × Int)) (ys:List TH) (lc:List Lc) (v1 v2 v3 v4:Value):Prop where
 r1:W.ownsRow b0 9 1 v1 rg.length (rg.flatMap (fun x=>[Value.string x]))
 r2:W.ownsRow b0 79 2 v2 ot.length (ot.flatMap (fun x=>[Value.int .i64 x.1,.int .i64 x.2]))
 r3:W.ownsRow b0 83 5 v3 ys.length (ys.flatMap dQ)
 r3f:∀y∈ys,FldAt g W y
 r4:W.ownsRow b0 87 2 v4 lc.length (lc.flatMap (fun x=>[Value.string x.name,.int .i64 x.type]))
theorem sE (data:List UInt8) (A:Option Addr) (c:Nat) (t:Nat) (T:Option Addr) (ct:Nat) (tbl:List ByteArray) (w:World) (hs:Slc 1 RB w A c data) (hl:data.length≤1000000) (ht:TabAt w t T ct tbl):
 Calls Tryz.prog 14 #[.slice A data.length c,.pointer (some ⟨t,0,none⟩)] w fun e' w'=>∃bh,e' = .returned (.tuple #[.agg (bdC (decS tbl data).1 bh).toArray,.int .i64 (decS tbl data).2])∧BdAt w' (decS tbl data).1 bh∧Below w.heap.size w w':=by
 obtain ⟨W,hW⟩:∃W,w.alloc (.cells #[.string ⟨#[]⟩,.slice none 0 0,.slice none 0 0,.slice none 0 0,.slice none 0 0,.int .i64 0,.slice none 0 0] 28)=W:=⟨_,rfl⟩
 have hb:Below w.heap.size w W:=by rw [← hW];exact (aV _ _).alloc (aW _) _
 have hk:W.heap[w.heap.size]?=some (.cells #[.string ⟨#[]⟩,.slice none 0 0,.slice none 0 0,.slice none 0 0,.slice none 0 0,.int .i64 0,.slice none 0 0] 28 (0,0)):=by rw [← hW];exact heap_alloc_new w _
 have hWs:W.heap.size=w.heap.size+1:=by rw [← hW];simp
 have HNR:=aF (xCR data A c W (hs.keep RB.keeps hb) hl)
 have HT:=aF (ht.keep hb)
 have htl:t<w.heap.size:=(Array.getElem?_eq_some_iff.1 ht.at_).1
 have hTl:=ht.lt
 have HK:=aF hk
 have HW:=aF hb
 obtain ⟨Q,hQ⟩:∃Q,decS tbl data=Q:=⟨_,rfl⟩
 rw [hQ]
 have HQ:=aF hQ
 obtain ⟨N1,hN1⟩:∃x,nameS tbl ⟨data,0⟩=x:=⟨_,rfl⟩
 obtain ⟨R1,hR1⟩:∃x,listS (nameS tbl) N1.2=x:=⟨_,rfl⟩
 obtain ⟨R2,hR2⟩:∃x,listS pairS R1.2=x:=⟨_,rfl⟩
 obtain ⟨R3,hR3⟩:∃x,listS typeS R2.2=x:=⟨_,rfl⟩
 obtain ⟨R4,hR4⟩:∃x,listS (localS tbl) R3.2=x:=⟨_,rfl⟩
 obtain ⟨R5,hR5⟩:∃x,numS R4.2=x:=⟨_,rfl⟩
 have HBODY:Hid (bodyS tbl ⟨data,0⟩=(⟨N1.1,R1.1,R2.1,R3.1,R4.1,R5.1,[]⟩,R5.2)):=aF (by rw [← hR5,← hR4,← hR3,← hR2,← hR1,← hN1];rfl)
 have HST:Hid (R5.2.err=0→N1.2.err=0∧R1.2.err=0∧R2.2.err=0∧R3.2.err=0∧R4.2.err=0):=aF (fun h5=>by
  have h4:R4.2.err=0:=Decidable.byContradiction fun h=>h (by rw [← kF R4.2 h,hR5];exact h5)
  have h3:R3.2.err=0:=Decidable.byContradiction fun h=>h (by rw [← jC (wF tbl) R3.2 h,hR4];exact h4)
  have h2:R2.2.err=0:=Decidable.byContradiction fun h=>h (by rw [← jC xB R2.2 h,hR3];exact h3)
  have h1:R1.2.err=0:=Decidable.byContradiction fun h=>h (by rw [← jC yR R1.2 h,hR2];exact h2)
  have h0:N1.2.err=0:=Decidable.byContradiction fun h=>h (by rw [← jC (qP tbl) N1.2 h,hR1];exact h1)
  exact ⟨h0,h1,h2,h3,h4⟩)
 have HCALL1:=aF (fun h g t T ct w H hr=>hR1 ▸ vW h g t T ct tbl N1.2 w H hr)
 have HCALL2:=aF (fun h g t T ct w H hr=>hR2 ▸ sC h g t T ct tbl R1.2 w H hr)
 have HCALL3:=aF (fun h g t T ct w H hr=>hR3 ▸ vV h g t T ct tbl R2.2 w H hr)
 have HCALL4:=aF (fun h g t T ct w H hr=>hR4 ▸ vX h g t T ct tbl R3.2 w H hr)
 have HCALL5:=aF (fun h g t T ct w H hr=>hR5 ▸ eZ h g t T ct tbl R4.2 w H hr)
 have HCALL0:=aF (fun h g t T ct w H hr=>hN1 ▸ lA h g t T ct tbl ⟨data,0⟩ w H hr)
 clear hs ht hk hb hQ hN1 hR1 hR2 hR3 hR4 hR5
 go_enter Tryz.func14,Tryz.ntmps14
 go_wp2_with fail
 go_at_call 41
 refine HNR.out.mono ?_
 rintro e' w1 ⟨g,rfl,hg,hr1,hb1⟩
 have hgl:=hr1.lt
 obtain ⟨W0,hW0⟩:∃W0,w1.alloc (.cells #[.pointer (some ⟨g,0,none⟩),.pointer (some ⟨t,0,none⟩)] 96)=W0:=⟨_,rfl⟩
 have hb0:Below w1.heap.size w1 W0:=by rw [← hW0];exact (aV _ _).alloc (aW _) _
 have hh0:W0.heap[w1.heap.size]?=some (.cells #[.pointer (some ⟨g,0,none⟩),.pointer (some ⟨t,0,none⟩)] 96 (0,0)):=by rw [← hW0];exact heap_alloc_new w1 _
 have hW0s:W0.heap.size=w1.heap.size+1:=by rw [← hW0];simp
 have hD0:DTab W0 w1.heap.size g t T ct tbl:=⟨hh0,by omega,by omega,(HT.out.keep hb1).keep hb0,fun a ha=>by have:=hTl a ha;omega⟩
 have hr0:=hr1.keep hb0
 have hbW0:Below w.heap.size w W0:=HW.out.trans ((hb1.mono HW.out.size).trans (hb0.mono (by omega)))
 have hk0:W0.heap[w.heap.size]?=some (.cells #[.string ⟨#[]⟩,.slice none 0 0,.slice none 0 0,.slice none 0 0,.slice none 0 0,.int .i64 0,.slice none 0 0] 28 (0,0)):=(hb0.block _ (by omega)).trans ((hb1.block _ (by omega)).trans HK.out)
 have hgw:w.heap.size<g:=by omega
 have HN:=aF (HCALL0.out w1.heap.size g t T ct W0 hD0 hr0)
 have HD0:=aF hD0
 have HBW0:=aF hbW0
 have HK0:=aF hk0
 clear hr1 hb1 hb0 hh0 hD0 hr0 hbW0 hk0 HNR HT HK HW
 go_wp2_with fail
 go_at_call 42
 refine HN.out.mono ?_
 rintro e' w2 ⟨nm,rfl,hnm,hr2,hb2⟩
 have hs2:=hb2.size
 obtain ⟨A2,hA2⟩:∃A2,w2.alloc (.cells #[.string ⟨#[]⟩,.slice none 0 0,.slice none 0 0,.slice none 0 0,.slice none 0 0,.int .i64 0,.slice none 0 0] 28)=A2:=⟨_,rfl⟩
 have hbA:Below w2.heap.size w2 A2:=by rw [← hA2];exact (aV _ _).alloc (aW _) _
 have hkA:A2.heap[w2.heap.size]?=some (.cells #[.string ⟨#[]⟩,.slice none 0 0,.slice none 0 0,.slice none 0 0,.slice none 0 0,.int .i64 0,.slice none 0 0] 28 (0,0)):=by rw [← hA2];exact heap_alloc_new w2 _
 obtain ⟨W3,hW3⟩:∃W3,set7 A2 w2.heap.size (.string nm) (.slice none 0 0) (.slice none 0 0) (.slice none 0 0) (.slice none 0 0) (.int .i64 0) (.slice none 0 0)=W3:=⟨_,rfl⟩
 have hk3:W3.heap[w2.heap.size]?=some (.cells #[.string nm,.slice none 0 0,.slice none 0 0,.slice none 0 0,.slice none 0 0,.int .i64 0,.slice none 0 0] 28 (0,0)):=by rw [← hW3];exact kI _ _ _ _ _ _ _ hkA
 have hb3:But g W0 W3:=by rw [← hW3];exact xBY _ _ _ _ _ _ _ (hb2.trans (But.of_below hbA)) hs2
 have hr3:PRd W3 g N1.2:=by rw [← hW3];exact xBX _ _ _ _ _ _ _ (hr2.keep hbA) (by omega)
 have hW3s:W3.heap.size=w2.heap.size+1:=by rw [← hW3,pN,← hA2];simp
 obtain ⟨a0,a1,a2,a3,a4,a5,a6,a7⟩:=blk7 hkA
 have a70:=a7 0
 have a71:=a7 1
 have a72:=a7 2
 have a73:=a7 3
 have a74:=a7 4
 have a75:=a7 5
 have a76:=a7 6
 have HNM:=aF hnm
 have HR3:=aF hr3
 have HB3:=aF hb3
 have HK3:=aF hk3
 unfold set7 at hW3
 clear hr2 hb2 hbA hkA hr3 hb3 hk3 a7 HN hnm
 go_wp2_with fail
 go_at_call 43
 refine (HCALL1.out w1.heap.size g t T ct W3 (HD0.out.but HB3.out) HR3.out).mono ?_
 rintro e' Y1 ⟨A1',c1',n1',rfl,hr,hb,hrow⟩
 have hkY:=hb.blk HK3.out (by omega)
 have hbX:=HB3.out.trans hb
 have hXs:=HB3.out.size
 have hYs:=hbX.size
 have hXY:=hb.size
 obtain ⟨X1,hX1⟩:∃X,Y1.setCell ⟨w2.heap.size,1,none⟩ (.slice A1' n1' c1')=X:=⟨_,rfl⟩
 have hk':X1.heap[w2.heap.size]?=some (.cells #[.string nm,.slice A1' n1' c1',.slice none 0 0,.slice none 0 0,.slice none 0 0,.int .i64 0,.slice none 0 0] 28 (0,0)):=by rw [← hX1];exact jL hkY
 have hsz1:w2.heap.size+1≤X1.heap.size:=by
  have h9:(Y1.setCell ⟨w2.heap.size,1,none⟩ (.slice A1' n1' c1')).heap.size=Y1.heap.size:=by simp
  rw [hX1] at h9
  omega
 have hb':But g W0 X1:=by rw [← hX1];exact lW hbX hs2
 have hr':PRd X1 g R1.2:=by rw [← hX1];exact kY hr (by omega)
 have hrow1':=fun h0=>(⟨(hrow h0).1,eL (k:=w2.heap.size) (i:=1) (v:= .slice A1' n1' c1') (hO (hrow h0).2 (by omega)) (by omega)⟩:R1.1.length=n1'∧(Y1.setCell ⟨w2.heap.size,1,none⟩ (.slice A1' n1' c1')).ownsRow (w2.heap.size+1) 9 1 (.slice A1' n1' c1') n1' (R1.1.flatMap (fun x=>[Value.string x])))
 rw [hX1] at hrow1'
 obtain ⟨a0,a1,a2,a3,a4,a5,a6,a7⟩:=blk7 hkY
 have a71:=a7 1
 have HROW1:=aF hrow1'
 clear hrow1'
 have HKX1:=aF hk'
 have HBX1:=aF hb'
 have HRX1:=aF hr'
 have y0:=(HD0.out.but hb').c0
 clear hkY hbX hk' hb' hr' hr hb a7 hXs hYs hXY hrow
 go_wp2_with fail
 go_at_call 44
 refine (HCALL2.out w1.heap.size g t T ct X1 (HD0.out.but HBX1.out) HRX1.out).mono ?_
 rintro e' Y2 ⟨A2',c2',n2',rfl,hr,hb,hrow⟩
 have hkY:=hb.blk HKX1.out (by omega)
 have hbX:=HBX1.out.trans hb
 have hXs:=HBX1.out.size
 have hYs:=hbX.size
 have hXY:=hb.size
 obtain ⟨X2,hX2⟩:∃X,Y2.setCell ⟨w2.heap.size,2,none⟩ (.slice A2' n2' c2')=X:=⟨_,rfl⟩
 have hk':X2.heap[w2.heap.size]?=some (.cells #[.string nm,.slice A1' n1' c1',.slice A2' n2' c2',.slice none 0 0,.slice none 0 0,.int .i64 0,.slice none 0 0] 28 (0,0)):=by rw [← hX2];exact jL hkY
 have hsz2:w2.heap.size+1≤X2.heap.size:=by
  have h9:(Y2.setCell ⟨w2.heap.size,2,none⟩ (.slice A2' n2' c2')).heap.size=Y2.heap.size:=by simp
  rw [hX2] at h9
  omega
 have hb':But g W0 X2:=by rw [← hX2];exact lW hbX hs2
 have hr':PRd X2 g R2.2:=by rw [← hX2];exact kY hr (by omega)
 have hrow1':=fun h0=>(⟨(HROW1.out h0).1,eL (k:=w2.heap.size) (i:=2) (v:= .slice A2' n2' c2') (fQ (HROW1.out h0).2 hb (by omega)) (by omega)⟩:R1.1.length=n1'∧(Y2.setCell ⟨w2.heap.size,2,none⟩ (.slice A2' n2' c2')).ownsRow (w2.heap.size+1) 9 1 (.slice A1' n1' c1') n1' (R1.1.flatMap (fun x=>[Value.string x])))
 rw [hX2] at hrow1'
 have hrow2':=fun h0=>(⟨(hrow h0).1,eL (k:=w2.heap.size) (i:=2) (v:= .slice A2' n2' c2') (hO (hrow h0).2 (by omega)) (by omega)⟩:R2.1.length=n2'∧(Y2.setCell ⟨w2.heap.size,2,none⟩ (.slice A2' n2' c2')).ownsRow (w2.heap.size+1) 79 2 (.slice A2' n2' c2') n2' (R2.1.flatMap (fun x=>[Value.int .i64 x.1,.int .i64 x.2])))
 rw [hX2] at hrow2'
 obtain ⟨a0,a1,a2,a3,a4,a5,a6,a7⟩:=blk7 hkY
 have a72:=a7 2
 clear HROW1
 have HROW1:=aF hrow1'
 clear hrow1'
 have HROW2:=aF hrow2'
 clear hrow2'
 have HKX2:=aF hk'
 have HBX2:=aF hb'
 have HRX2:=aF hr'
 have y0:=(HD0.out.but hb').c0
 clear hkY hbX hk' hb' hr' hr hb a7 hXs hYs hXY hrow
 go_wp2_with fail
 go_at_call 46
 refine (HCALL3.out w1.heap.size g t T ct X2 (HD0.out.but HBX2.out) HRX2.out).mono ?_
 rintro e' Y3 ⟨A3',c3',n3',rfl,hr,hb,hrow⟩
 have hkY:=hb.blk HKX2.out (by omega)
 have hbX:=HBX2.out.trans hb
 have hXs:=HBX2.out.size
 have hYs:=hbX.size
 have hXY:=hb.size
 obtain ⟨X3,hX3⟩:∃X,Y3.setCell ⟨w2.heap.size,3,none⟩ (.slice A3' n3' c3')=X:=⟨_,rfl⟩
 have hk':X3.heap[w2.heap.size]?=some (.cells #[.string nm,.slice A1' n1' c1',.slice A2' n2' c2',.slice A3' n3' c3',.slice none 0 0,.int .i64 0,.slice none 0 0] 28 (0,0)):=by rw [← hX3];exact jL hkY
 have hsz3:w2.heap.size+1≤X3.heap.size:=by
  have h9:(Y3.setCell ⟨w2.heap.size,3,none⟩ (.slice A3' n3' c3')).heap.size=Y3.heap.size:=by simp
  rw [hX3] at h9
  omega
 have hb':But g W0 X3:=by rw [← hX3];exact lW hbX hs2
 have hr':PRd X3 g R3.2:=by rw [← hX3];exact kY hr (by omega)
 have hrow1':=fun h0=>(⟨(HROW1.out h0).1,eL (k:=w2.heap.size) (i:=3) (v:= .slice A3' n3' c3') (fQ (HROW1.out h0).2 hb (by omega)) (by omega)⟩:R1.1.length=n1'∧(Y3.setCell ⟨w2.heap.size,3,none⟩ (.slice A3' n3' c3')).ownsRow (w2.heap.size+1) 9 1 (.slice A1' n1' c1') n1' (R1.1.flatMap (fun x=>[Value.string x])))
 rw [hX3] at hrow1'
 have hrow2':=fun h0=>(⟨(HROW2.out h0).1,eL (k:=w2.heap.size) (i:=3) (v:= .slice A3' n3' c3') (fQ (HROW2.out h0).2 hb (by omega)) (by omega)⟩:R2.1.length=n2'∧(Y3.setCell ⟨w2.heap.size,3,none⟩ (.slice A3' n3' c3')).ownsRow (w2.heap.size+1) 79 2 (.slice A2' n2' c2') n2' (R2.1.flatMap (fun x=>[Value.int .i64 x.1,.int .i64 x.2])))
 rw [hX3] at hrow2'
 have hrow3':R3.2.err=0→∃ys:List TH,ys.map (·.t)=R3.1∧ys.length=n3'∧(Y3.setCell ⟨w2.heap.size,3,none⟩ (.slice A3' n3' c3')).ownsRow (w2.heap.size+1) 83 5 (.slice A3' n3' c3') n3' (ys.flatMap dQ)∧∀y∈ys,FldAt g (Y3.setCell ⟨w2.heap.size,3,none⟩ (.slice A3' n3' c3')) y:=fun h0=>by
  obtain ⟨ys,q1,q2,q3,q4⟩:=hrow h0
  exact (⟨ys,q1,q2,eL (X:=Y3) (k:=w2.heap.size) (i:=3) (v:= .slice A3' n3' c3') (hO q3 (by omega)) (by omega),fun y hy=>sL (q4 y hy) hkY 3 (.slice A3' n3' c3')⟩:∃ys:List TH,ys.map (·.t)=R3.1∧ys.length=n3'∧(Y3.setCell ⟨w2.heap.size,3,none⟩ (.slice A3' n3' c3')).ownsRow (w2.heap.size+1) 83 5 (.slice A3' n3' c3') n3' (ys.flatMap dQ)∧∀y∈ys,FldAt g (Y3.setCell ⟨w2.heap.size,3,none⟩ (.slice A3' n3' c3')) y)
 rw [hX3] at hrow3'
 obtain ⟨a0,a1,a2,a3,a4,a5,a6,a7⟩:=blk7 hkY
 have a73:=a7 3
 clear HROW1
 have HROW1:=aF hrow1'
 clear hrow1'
 clear HROW2
 have HROW2:=aF hrow2'
 clear hrow2'
 have HROW3:=aF hrow3'
 clear hrow3'
 have HKX3:=aF hk'
 have HBX3:=aF hb'
 have HRX3:=aF hr'
 have y0:=(HD0.out.but hb').c0
 clear hkY hbX hk' hb' hr' hr hb a7 hXs hYs hXY hrow
 go_wp2_with fail
 go_at_call 48
 refine (HCALL4.out w1.heap.size g t T ct X3 (HD0.out.but HBX3.out) HRX3.out).mono ?_
 rintro e' Y4 ⟨A4',c4',n4',rfl,hr,hb,hrow⟩
 have hkY:=hb.blk HKX3.out (by omega)
 have hbX:=HBX3.out.trans hb
 have hXs:=HBX3.out.size
 have hYs:=hbX.size
 have hXY:=hb.size
 obtain ⟨X4,hX4⟩:∃X,Y4.setCell ⟨w2.heap.size,4,none⟩ (.slice A4' n4' c4')=X:=⟨_,rfl⟩
 have hk':X4.heap[w2.heap.size]?=some (.cells #[.string nm,.slice A1' n1' c1',.slice A2' n2' c2',.slice A3' n3' c3',.slice A4' n4' c4',.int .i64 0,.slice none 0 0] 28 (0,0)):=by rw [← hX4];exact jL hkY
 have hsz4:w2.heap.size+1≤X4.heap.size:=by
  have h9:(Y4.setCell ⟨w2.heap.size,4,none⟩ (.slice A4' n4' c4')).heap.size=Y4.heap.size:=by simp
  rw [hX4] at h9
  omega
 have hb':But g W0 X4:=by rw [← hX4];exact lW hbX hs2
 have hr':PRd X4 g R4.2:=by rw [← hX4];exact kY hr (by omega)
 have hrow1':=fun h0=>(⟨(HROW1.out h0).1,eL (k:=w2.heap.size) (i:=4) (v:= .slice A4' n4' c4') (fQ (HROW1.out h0).2 hb (by omega)) (by omega)⟩:R1.1.length=n1'∧(Y4.setCell ⟨w2.heap.size,4,none⟩ (.slice A4' n4' c4')).ownsRow (w2.heap.size+1) 9 1 (.slice A1' n1' c1') n1' (R1.1.flatMap (fun x=>[Value.string x])))
 rw [hX4] at hrow1'
 have hrow2':=fun h0=>(⟨(HROW2.out h0).1,eL (k:=w2.heap.size) (i:=4) (v:= .slice A4' n4' c4') (fQ (HROW2.out h0).2 hb (by omega)) (by omega)⟩:R2.1.length=n2'∧(Y4.setCell ⟨w2.heap.size,4,none⟩ (.slice A4' n4' c4')).ownsRow (w2.heap.size+1) 79 2 (.slice A2' n2' c2') n2' (R2.1.flatMap (fun x=>[Value.int .i64 x.1,.int .i64 x.2])))
 rw [hX4] at hrow2'
 have hrow3':R3.2.err=0→∃ys:List TH,ys.map (·.t)=R3.1∧ys.length=n3'∧(Y4.setCell ⟨w2.heap.size,4,none⟩ (.slice A4' n4' c4')).ownsRow (w2.heap.size+1) 83 5 (.slice A3' n3' c3') n3' (ys.flatMap dQ)∧∀y∈ys,FldAt g (Y4.setCell ⟨w2.heap.size,4,none⟩ (.slice A4' n4' c4')) y:=fun h0=>by
  obtain ⟨ys,q1,q2,q3,q4⟩:=HROW3.out h0
  exact (⟨ys,q1,q2,eL (X:=Y4) (k:=w2.heap.size) (i:=4) (v:= .slice A4' n4' c4') (fQ q3 hb (by omega)) (by omega),fun y hy=>sL ((q4 y hy).but hb) hkY 4 (.slice A4' n4' c4')⟩:∃ys:List TH,ys.map (·.t)=R3.1∧ys.length=n3'∧(Y4.setCell ⟨w2.heap.size,4,none⟩ (.slice A4' n4' c4')).ownsRow (w2.heap.size+1) 83 5 (.slice A3' n3' c3') n3' (ys.flatMap dQ)∧∀y∈ys,FldAt g (Y4.setCell ⟨w2.heap.size,4,none⟩ (.slice A4' n4' c4')) y)
 rw [hX4] at hrow3'
 have hrow4':=fun h0=>(⟨(hrow h0).1,eL (k:=w2.heap.size) (i:=4) (v:= .slice A4' n4' c4') (hO (hrow h0).2 (by omega)) (by omega)⟩:R4.1.length=n4'∧(Y4.setCell ⟨w2.heap.size,4,none⟩ (.slice A4' n4' c4')).ownsRow (w2.heap.size+1) 87 2 (.slice A4' n4' c4') n4' (R4.1.flatMap (fun x=>[Value.string x.name,.int .i64 x.type])))
 rw [hX4] at hrow4'
 obtain ⟨a0,a1,a2,a3,a4,a5,a6,a7⟩:=blk7 hkY
 have a74:=a7 4
 clear HROW1
 have HROW1:=aF hrow1'
 clear hrow1'
 clear HROW2
 have HROW2:=aF hrow2'
 clear hrow2'
 clear HROW3
 have HROW3:=aF hrow3'
 clear hrow3'
 have HROW4:=aF hrow4'
 clear hrow4'
 have HKX4:=aF hk'
 have HBX4:=aF hb'
 have HRX4:=aF hr'
 have y0:=(HD0.out.but hb').c0
 clear hkY hbX hk' hb' hr' hr hb a7 hXs hYs hXY hrow
 go_wp2_with fail
 go_at_call 50
 refine (HCALL5.out w1.heap.size g t T ct X4 (HD0.out.but HBX4.out) HRX4.out).mono ?_
 rintro e' Y5 ⟨rfl,hr,hb⟩
 have hkY:=hb.blk HKX4.out (by omega)
 have hbX:=HBX4.out.trans hb
 have hXs:=HBX4.out.size
 have hYs:=hbX.size
 have hXY:=hb.size
 obtain ⟨X5,hX5⟩:∃X,Y5.setCell ⟨w2.heap.size,5,none⟩ (.int .i64 R5.1)=X:=⟨_,rfl⟩
 have hk':X5.heap[w2.heap.size]?=some (.cells #[.string nm,.slice A1' n1' c1',.slice A2' n2' c2',.slice A3' n3' c3',.slice A4' n4' c4',.int .i64 R5.1,.slice none 0 0] 28 (0,0)):=by rw [← hX5];exact jL hkY
 have hsz5:w2.heap.size+1≤X5.heap.size:=by
  have h9:(Y5.setCell ⟨w2.heap.size,5,none⟩ (.int .i64 R5.1)).heap.size=Y5.heap.size:=by simp
  rw [hX5] at h9
  omega
 have hb':But g W0 X5:=by rw [← hX5];exact lW hbX hs2
 have hr':PRd X5 g R5.2:=by rw [← hX5];exact kY hr (by omega)
 have hrow1':=fun h0=>(⟨(HROW1.out h0).1,eL (k:=w2.heap.size) (i:=5) (v:= .int .i64 R5.1) (fQ (HROW1.out h0).2 hb (by omega)) (by omega)⟩:R1.1.length=n1'∧(Y5.setCell ⟨w2.heap.size,5,none⟩ (.int .i64 R5.1)).ownsRow (w2.heap.size+1) 9 1 (.slice A1' n1' c1') n1' (R1.1.flatMap (fun x=>[Value.string x])))
 rw [hX5] at hrow1'
 have hrow2':=fun h0=>(⟨(HROW2.out h0).1,eL (k:=w2.heap.size) (i:=5) (v:= .int .i64 R5.1) (fQ (HROW2.out h0).2 hb (by omega)) (by omega)⟩:R2.1.length=n2'∧(Y5.setCell ⟨w2.heap.size,5,none⟩ (.int .i64 R5.1)).ownsRow (w2.heap.size+1) 79 2 (.slice A2' n2' c2') n2' (R2.1.flatMap (fun x=>[Value.int .i64 x.1,.int .i64 x.2])))
 rw [hX5] at hrow2'
 have hrow3':R3.2.err=0→∃ys:List TH,ys.map (·.t)=R3.1∧ys.length=n3'∧(Y5.setCell ⟨w2.heap.size,5,none⟩ (.int .i64 R5.1)).ownsRow (w2.heap.size+1) 83 5 (.slice A3' n3' c3') n3' (ys.flatMap dQ)∧∀y∈ys,FldAt g (Y5.setCell ⟨w2.heap.size,5,none⟩ (.int .i64 R5.1)) y:=fun h0=>by
  obtain ⟨ys,q1,q2,q3,q4⟩:=HROW3.out h0
  exact (⟨ys,q1,q2,eL (X:=Y5) (k:=w2.heap.size) (i:=5) (v:= .int .i64 R5.1) (fQ q3 hb (by omega)) (by omega),fun y hy=>sL ((q4 y hy).but hb) hkY 5 (.int .i64 R5.1)⟩:∃ys:List TH,ys.map (·.t)=R3.1∧ys.length=n3'∧(Y5.setCell ⟨w2.heap.size,5,none⟩ (.int .i64 R5.1)).ownsRow (w2.heap.size+1) 83 5 (.slice A3' n3' c3') n3' (ys.flatMap dQ)∧∀y∈ys,FldAt g (Y5.setCell ⟨w2.heap.size,5,none⟩ (.int .i64 R5.1)) y)
 rw [hX5] at hrow3'
 have hrow4':=fun h0=>(⟨(HROW4.out h0).1,eL (k:=w2.heap.size) (i:=5) (v:= .int .i64 R5.1) (fQ (HROW4.out h0).2 hb (by omega)) (by omega)⟩:R4.1.length=n4'∧(Y5.setCell ⟨w2.heap.size,5,none⟩ (.int .i64 R5.1)).ownsRow (w2.heap.size+1) 87 2 (.slice A4' n4' c4') n4' (R4.1.flatMap (fun x=>[Value.string x.name,.int .i64 x.type])))
 rw [hX5] at hrow4'
 obtain ⟨a0,a1,a2,a3,a4,a5,a6,a7⟩:=blk7 hkY
 have a75:=a7 5
 clear HROW1
 have HROW1:=aF hrow1'
 clear hrow1'
 clear HROW2
 have HROW2:=aF hrow2'
 clear hrow2'
 clear HROW3
 have HROW3:=aF hrow3'
 clear hrow3'
 clear HROW4
 have HROW4:=aF hrow4'
 clear hrow4'
 have HKX5:=aF hk'
 have HBX5:=aF hb'
 have HRX5:=aF hr'
 have y0:=(HD0.out.but hb').c0
 clear hkY hbX hk' hb' hr' hr hb a7 hXs hYs hXY
 have HEND:=aF (xCT g R5.2 X5 HRX5.out)
 have hX5s:=HBX5.out.size
 by_cases hend:endS R5.2=0
 ·have HQ5:Hid (Q=(⟨N1.1,R1.1,R2.1,R3.1,R4.1,R5.1,[]⟩,0)):=aF (by
   rw [← HQ.out]
   unfold decS
   rw [HBODY.out]
   rw [aY hend])
  have herr:R5.2.err=0:=by
   unfold endS at hend
   by_cases h:R5.2.err=0
   ·exact h
   ·rw [aX h] at hend;exact hend
  obtain ⟨e0,e1,e2,e3,e4⟩:=HST.out herr
  obtain ⟨l1,o1⟩:=HROW1.out e1
  obtain ⟨l2,o2⟩:=HROW2.out e2
  obtain ⟨ys,m3,l3,o3,o3f⟩:=HROW3.out e3
  obtain ⟨l4,o4⟩:=HROW4.out e4
  have hnm:=HNM.out e0
  subst hnm l1 l2 l3 l4
  have O1:=aF o1
  have O2:=aF o2
  have O3:=aF o3
  have O3F:=aF o3f
  have O4:=aF o4
  have M3:=aF m3
  rw [hend] at HEND
  clear hend herr e0 e1 e2 e3 e4 o1 o2 o3 o3f o4 m3 HROW1 HROW2 HROW3 HROW4 HNM
  go_wp2_with fail
  go_at_call 51
  refine HEND.out.mono ?_
  rintro e' w6 ⟨rfl,hb6⟩
  have hk6:=(hb6.block _ (Array.getElem?_eq_some_iff.1 HKX5.out).1).trans HKX5.out
  have hk06:w6.heap[w.heap.size]?=some (.cells #[.string ⟨#[]⟩,.slice none 0 0,.slice none 0 0,.slice none 0 0,.slice none 0 0,.int .i64 0,.slice none 0 0] 28 (0,0)):=(hb6.block _ (by omega)).trans (HBX5.out.blk HK0.out (by omega))
  obtain ⟨b0,b1,b2,b3,b4,b5,b6,b7⟩:=blk7 hk6
  obtain ⟨d0,d1,d2,d3,d4,d5,d6,d7⟩:=blk7 hk06
  have d70:=d7 0
  have d71:=d7 1
  have d72:=d7 2
  have d73:=d7 3
  have d74:=d7 4
  have d75:=d7 5
  have d76:=d7 6
  have HB6:=aF hb6
  have HK06:=aF hk06
  have hs6:=hb6.size
  clear hb6 hk6 hk06 b7 d7
  go_wp2_with fail
  generalize hW7:((((((w6.setCell ⟨w.heap.size,0,none⟩ (.string N1.1)).setCell ⟨w.heap.size,1,none⟩ (.slice A1' R1.1.length c1')).setCell ⟨w.heap.size,2,none⟩ (.slice A2' R2.1.length c2')).setCell ⟨w.heap.size,3,none⟩ (.slice A3' ys.length c3')).setCell ⟨w.heap.size,4,none⟩ (.slice A4' R4.1.length c4')).setCell ⟨w.heap.size,5,none⟩ (.int .i64 R5.1)).setCell ⟨w.heap.size,6,none⟩ (.slice none 0 0)=W7
  have hW7':set7 w6 w.heap.size (.string N1.1) (.slice A1' R1.1.length c1') (.slice A2' R2.1.length c2') (.slice A3' ys.length c3') (.slice A4' R4.1.length c4') (.int .i64 R5.1) (.slice none 0 0)=W7:=hW7
  have n:=kI (.string N1.1) (.slice A1' R1.1.length c1') (.slice A2' R2.1.length c2') (.slice A3' ys.length c3') (.slice A4' R4.1.length c4') (.int .i64 R5.1) (.slice none 0 0) HK06.out
  have hB7:Below w.heap.size w W7:=by
   rw [← hW7']
   exact jR _ _ _ _ _ _ _ (HBW0.out.trans ((HBX5.out.below (by omega) (by omega)).trans (HB6.out.mono (by omega)))) (aW _)
  have hfar:∀j,w2.heap.size+1≤j→j<X5.heap.size→W7.heap[j]?=X5.heap[j]?:=fun j h1 h2=>by rw [← hW7',nF _ _ _ _ _ _ _ (by omega)];exact HB6.out.block j h2
  have q1:=cY O1.out (fun j h1 h2 _=>hfar j h1 h2)
  have q2:=cY O2.out (fun j h1 h2 _=>hfar j h1 h2)
  have q3:=cY O3.out (fun j h1 h2 _=>hfar j h1 h2)
  have q4:=cY O4.out (fun j h1 h2 _=>hfar j h1 h2)
  have q3f:∀y∈ys,GoodH W7 y:=fun y hy=>xDE (g:=g) (cY (O3F.out y hy) (fun j h1 h2 _=>by rw [← hW7',nF _ _ _ _ _ _ _ (by omega)];exact HB6.out.block j h2))
  rw [hW7'] at n
  clear hW7 hW7' hfar
  rw [flat1] at q1
  obtain ⟨B1,k1,hv1,p1,_⟩:=eW (R:=RN) (fun w B b o x h=>h) q1 rfl
  obtain ⟨B2,k2,hv2,p2⟩:=tI (R:=RPr) (fun _=>rfl) (fun w B b o x h=>⟨h 0 _ rfl,h 1 _ rfl⟩) q2 rfl
  obtain ⟨B3,k3,hv3,p3⟩:=gG q3 q3f
  obtain ⟨B4,k4,hv4,p4⟩:=tI (R:=RLc) (fun _=>rfl) (fun w B b o x h=>⟨h 0 _ rfl,h 1 _ rfl⟩) q4 rfl
  injection hv1 with hv1 _ hc1
  injection hv2 with hv2 _ hc2
  injection hv3 with hv3 _ hc3
  injection hv4 with hv4 _ hc4
  subst hv1 hv2 hv3 hv4 hc1 hc2 hc3 hc4
  rw [M3.out] at p3
  have hyl:ys.length=R3.1.length:=by rw [← M3.out];simp
  obtain ⟨u0,u1,u2,u3,u4,u5,u6,_⟩:=blk7 n
  rw [hyl] at u3
  rw [HQ5.out]
  refine bodyPost_ret (v:= .tuple #[.agg #[.string N1.1,.slice A1' R1.1.length c1',.slice A2' R2.1.length c2',.slice A3' R3.1.length c3',.slice A4' R4.1.length c4',.int .i64 R5.1,.slice none 0 0],.int .i64 0]) (by simp [results,Tryz.results14,go_sem,u0,u1,u2,u3,u4,u5,u6] <;> rfl) rfl ?_
  exact ⟨⟨A1',c1',A2',c2',A3',c3',A4',c4',none,0⟩,rfl,⟨p1,p2,p3,p4,⟨Sl.nil,by simp,by simp⟩⟩,hB7⟩
 ·have HQ5:Hid (Q=(jZ,endS R5.2)):=aF (by
   rw [← HQ.out]
   unfold decS
   rw [HBODY.out]
   rw [aX hend])
  have e2:(endS R5.2 == 0)=false:=by simp [hend]
  have e3:(endS R5.2 != 0)=true:=by simp [hend]
  clear hend HROW1 HROW2 HROW3 HROW4 HNM HST
  generalize endS R5.2=er at *
  go_wp2_with fail
  go_at_call 51
  refine HEND.out.mono ?_
  rintro e' w6 ⟨rfl,hb6⟩
  have hk06:w6.heap[w.heap.size]?=some (.cells #[.string ⟨#[]⟩,.slice none 0 0,.slice none 0 0,.slice none 0 0,.slice none 0 0,.int .i64 0,.slice none 0 0] 28 (0,0)):=(hb6.block _ (by omega)).trans (HBX5.out.blk HK0.out (by omega))
  obtain ⟨d0,d1,d2,d3,d4,d5,d6,d7⟩:=blk7 hk06
  have d70:=d7 0
  have d71:=d7 1
  have d72:=d7 2
  have d73:=d7 3
  have d74:=d7 4
  have d75:=d7 5
  have d76:=d7 6
  have HB6:=aF hb6
  have HK06:=aF hk06
  have hs6:=hb6.size
  clear hb6 hk06 d7
  go_wp2_with fail
  generalize hW7:((((((w6.setCell ⟨w.heap.size,0,none⟩ (.string ⟨#[]⟩)).setCell ⟨w.heap.size,1,none⟩ (.slice none 0 0)).setCell ⟨w.heap.size,2,none⟩ (.slice none 0 0)).setCell ⟨w.heap.size,3,none⟩ (.slice none 0 0)).setCell ⟨w.heap.size,4,none⟩ (.slice none 0 0)).setCell ⟨w.heap.size,5,none⟩ (.int .i64 0)).setCell ⟨w.heap.size,6,none⟩ (.slice none 0 0)=W7
  have hW7':set7 w6 w.heap.size (.string ⟨#[]⟩) (.slice none 0 0) (.slice none 0 0) (.slice none 0 0) (.slice none 0 0) (.int .i64 0) (.slice none 0 0)=W7:=hW7
  have n:=kI (.string ⟨#[]⟩) (.slice none 0 0) (.slice none 0 0) (.slice none 0 0) (.slice none 0 0) (.int .i64 0) (.slice none 0 0) HK06.out
  have hB7:Below w.heap.size w W7:=by
   rw [← hW7']
   exact jR _ _ _ _ _ _ _ (HBW0.out.trans ((HBX5.out.below (by omega) (by omega)).trans (HB6.out.mono (by omega)))) (aW _)
  rw [hW7'] at n
  clear hW7 hW7'
  obtain ⟨u0,u1,u2,u3,u4,u5,u6,_⟩:=blk7 n
  rw [HQ5.out]
  refine bodyPost_ret (v:= .tuple #[.agg #[.string ⟨#[]⟩,.slice none 0 0,.slice none 0 0,.slice none 0 0,.slice none 0 0,.int .i64 0,.slice none 0 0],.int .i64 er]) (by simp [results,Tryz.results14,go_sem,u0,u1,u2,u3,u4,u5,u6] <;> rfl) rfl ?_
  exact ⟨noBH,rfl,noBd _,hB7⟩
theorem wH {α : Type} (f:Rs→ α × Rs) (n:Nat) (s:Rs):itemsS f (n+1) s=if (f s).2.err=0 then ((f s).1 :: (itemsS f n (f s).2).1,(itemsS f n (f s).2).2) else ([],(f s).2):=rfl
def RRl (w:World) (g:Nat) (s:Rs):Prop:=RRd w g s∧s.rest.length≤1000000
theorem RRl.keep {w w':World} {g:Nat} {s:Rs} (h:RRl w g s) (hb:Below w.heap.size w w'):RRl w' g s:=⟨h.1.keep hb,h.2⟩
theorem RRl.low {w w':World} {g:Nat} {s:Rs} (h:RRl w g s) (hsz:w.heap.size≤w'.heap.size) (hb:∀k,k≤g→w'.heap[k]?=w.heap[k]?):RRl w' g s:=⟨h.1.low hsz hb,h.2⟩
theorem RRl.err {w:World} {g:Nat} {s:Rs} (h:RRl w g s):w.cell? ⟨g,1,none⟩=some (.int .i64 s.err):=h.1.err
theorem RRl.lt {w:World} {g:Nat} {s:Rs} (h:RRl w g s):g<w.heap.size:=by
 obtain ⟨A,c,hg,_⟩:=h.1
 exact (Array.getElem?_eq_some_iff.1 hg).1
def Keeps (g k1:Nat) (e:TypeId) (X Y:World):Prop:=∀(base:Nat) (e':TypeId) (m:Nat) (u:Value) (n:Nat) (xs:List Value),g<base→e'≠e→(k1<base∨e'≠28)→X.ownsRow base e' m u n xs→Y.ownsRow base e' m u n xs
theorem Keeps.trans {g k1:Nat} {e:TypeId} {X Y Z:World} (h:Keeps g k1 e X Y) (h2:Keeps g k1 e Y Z):Keeps g k1 e X Z:=fun b e' m u n xs a c d h3=>h2 b e' m u n xs a c d (h b e' m u n xs a c d h3)
theorem Keeps.but {g k1:Nat} {e:TypeId} {X Y:World} (h:But g X Y):Keeps g k1 e X Y:=fun _b _e' _m _u _n _xs a _ _ h3=>fQ h3 h a
theorem Keeps.alloc {g k1:Nat} {e:TypeId} (X:World) (o:Obj):Keeps g k1 e X (X.alloc o):=fun _b _e' _m _u _n _xs _ _ _ h3=>h3.alloc o
theorem Keeps.grow {g k1:Nat} {e:TypeId} {X Y:World} {b m n:Nat} {v:Value} {xs:List Value} (h:X.ownsRow b e m v n xs) (hg:X.grownBy Y v.ownBlock):Keeps g k1 e X Y:=fun _b' _e' _m' _u _n' _xs' _ hne _ h3=>
 cY h3 (fun j _ h2 h4=>hg.block j h2 (yU h3 h hne j h4))
theorem Keeps.put {g k1 i:Nat} {e:TypeId} {X:World} {cs:Array Value} {z:Nat × Nat} {v:Value} (h:X.heap[k1]?=some (.cells cs 28 z)):Keeps g k1 e X (X.setCell ⟨k1,i,none⟩ v):=fun b' e' m' u n' xs' _ _ hor h3=>by
 rcases hor with h4 | h4
 ·exact eL h3 h4
 ·exact cY h3 (fun j _ _ hj=>bG _ _ _ j (fun e=>by
   simp only at e
   rw [e] at hj
   exact fH h3 h h4 hj))
structure DI (g k0 k1:Nat) (W0 X:World) (nm:ByteArray) (v1 v2 v3 v4:Value) (s:Rs):Prop where
 b1:X.heap[k1]?=some (.cells #[.string nm,v1,v2,v3,v4,.int .i64 0,.slice none 0 0] 28 (0,0))
 b0:X.heap[k0]?=some (.cells #[.string ⟨#[]⟩,.slice none 0 0,.slice none 0 0,.slice none 0 0,.slice none 0 0,.int .i64 0,.slice none 0 0] 28 (0,0))
 rd:RRl X g s
 bt:But g W0 X
 sz:k1+1≤X.heap.size
theorem DI.but {g k0 k1:Nat} {W0 X Y:World} {nm:ByteArray} {v1 v2 v3 v4:Value} {s s':Rs} (h:DI g k0 k1 W0 X nm v1 v2 v3 v4 s) (hb:But g X Y) (hr:RRl Y g s') (h1:k1≠g) (h0:k0≠g):DI g k0 k1 W0 Y nm v1 v2 v3 v4 s':=
 ⟨hb.blk h.b1 h1,hb.blk h.b0 h0,hr,h.bt.trans hb,bX h.sz hb.size⟩
def RowS (k1:Nat) (X:World) (v:Value) (Q:List ByteArray × Rs):Prop:=∃A c n xs,v = .slice A n c∧xs.length=n∧X.ownsRow (k1+1) 9 1 v n (xs.flatMap (fun x=>[Value.string x]))∧(Q.2.err=0→Q.1=xs)
def RowP (k1:Nat) (X:World) (v:Value) (Q:List (Int × Int) × Rs):Prop:=∃A c n xs,v = .slice A n c∧xs.length=n∧X.ownsRow (k1+1) 79 2 v n (xs.flatMap (fun x=>[Value.int .i64 x.1,.int .i64 x.2]))∧(Q.2.err=0→Q.1=xs)
def RowT (g k1:Nat) (X:World) (v:Value) (Q:List Ty × Rs):Prop:=∃A c n,∃ys:List TH,v = .slice A n c∧ys.length=n∧X.ownsRow (k1+1) 83 5 v n (ys.flatMap dQ)∧(Q.2.err=0→Q.1=ys.map (·.t)∧∀y∈ys,FldAt g X y)
def RowL (k1:Nat) (X:World) (v:Value) (Q:List Lc × Rs):Prop:=∃A c n xs,v = .slice A n c∧xs.length=n∧X.ownsRow (k1+1) 87 2 v n (xs.flatMap (fun x=>[Value.string x.name,.int .i64 x.type]))∧(Q.2.err=0→Q.1=xs)
theorem RowS.keep {g k1:Nat} {e:TypeId} {X Y:World} {v:Value} {Q:List ByteArray × Rs} (h:RowS k1 X v Q) (hg:g≤k1) (hk:Keeps g k1 e X Y) (hne:9≠e):RowS k1 Y v Q:=by
 obtain ⟨A,c,n,xs,h1,h2,h3,h4⟩:=h
 exact ⟨A,c,n,xs,h1,h2,hk _ _ _ _ _ _ (by omega) hne (.inl (by omega)) h3,h4⟩
theorem RowP.keep {g k1:Nat} {e:TypeId} {X Y:World} {v:Value} {Q:List (Int × Int) × Rs} (h:RowP k1 X v Q) (hg:g≤k1) (hk:Keeps g k1 e X Y) (hne:79≠e):RowP k1 Y v Q:=by
 obtain ⟨A,c,n,xs,h1,h2,h3,h4⟩:=h
 exact ⟨A,c,n,xs,h1,h2,hk _ _ _ _ _ _ (by omega) hne (.inl (by omega)) h3,h4⟩
theorem RowL.keep {g k1:Nat} {e:TypeId} {X Y:World} {v:Value} {Q:List Lc × Rs} (h:RowL k1 X v Q) (hg:g≤k1) (hk:Keeps g k1 e X Y) (hne:87≠e):RowL k1 Y v Q:=by
 obtain ⟨A,c,n,xs,h1,h2,h3,h4⟩:=h
 exact ⟨A,c,n,xs,h1,h2,hk _ _ _ _ _ _ (by omega) hne (.inl (by omega)) h3,h4⟩
theorem FldAt.keep {g k1:Nat} {e:TypeId} {X Y:World} {y:TH} (h:FldAt g X y) (hk:Keeps g k1 e X Y) (hne:3≠e):FldAt g Y y:=hk _ _ _ _ _ _ (Nat.lt_succ_self _) hne (.inr (by decide)) h
theorem RowT.keep {g k1:Nat} {e:TypeId} {X Y:World} {v:Value} {Q:List Ty × Rs} (h:RowT g k1 X v Q) (hg:g≤k1) (hk:Keeps g k1 e X Y) (hne:83≠e) (hne2:3≠e):RowT g k1 Y v Q:=by
 obtain ⟨A,c,n,ys,h1,h2,h3,h4⟩:=h
 exact ⟨A,c,n,ys,h1,h2,hk _ _ _ _ _ _ (by omega) hne (.inl (by omega)) h3,fun h0=>⟨(h4 h0).1,fun y hy=>((h4 h0).2 y hy).keep hk hne2⟩⟩
theorem iL {X:World} {b m n:Nat} {e:TypeId} {v:Value} {xs:List Value} (h:X.ownsRow b e m v n xs):∃A c,v = .slice A n c:=by
 rcases h.2 with ⟨h1,h2⟩ | ⟨g',cap,cur,h1,_⟩
 ·exact ⟨none,0,by rw [h1,h2]⟩
 ·exact ⟨_,cap,h1⟩
structure At16 {α : Type} (f:Rs→ α × Rs) (Q:List α × Rs) (n k:Nat) (sk:Rs) (xs:List α):Prop where
 good:sk.err=0→Q=(xs ++ (itemsS f (n - k) sk).1,(itemsS f (n - k) sk).2)
 bad:sk.err≠0→Q.2=sk
theorem At16.start {α : Type} {f:Rs→ α × Rs} {s:Rs} {n:Nat} {s0:Rs} {Q:List α × Rs} (h:listS f s=Q) (hc:countS 65535 s=(n,s0)):At16 f Q n 0 s0 []:=by
 have hz:=fN 65535 s
 unfold listS at h
 rw [hc] at h hz
 simp only at h hz
 exact ⟨fun _=>by rw [← h];rfl,fun h1=>by rw [← h,hz h1];rfl⟩
theorem At16.next {α : Type} {f:Rs→ α × Rs} {Q:List α × Rs} {n k:Nat} {sk s':Rs} {xs:List α} {x : α} (h:At16 f Q n k sk xs) (hk:k<n) (he:sk.err=0) (hf:f sk=(x,s')):At16 f Q n (k+1) s' (xs ++ [x]):=by
 have h1:=h.good he
 rw [show n - k=(n - (k+1))+1 by omega,wH,hf] at h1
 simp only at h1
 refine ⟨fun h0=>?_,fun h0=>?_⟩
 ·rw [aY h0] at h1
  rw [h1,bK];rfl
 ·rw [aX h0] at h1
  rw [h1]
theorem At16.done {α : Type} {f:Rs→ α × Rs} {Q:List α × Rs} {n k:Nat} {sk:Rs} {xs:List α} (h:At16 f Q n k sk xs) (hk:k≤n) (hx:¬(k<n∧sk.err=0)):Q.2=sk∧(Q.2.err=0→Q.1=xs):=by
 by_cases he:sk.err=0
 ·have hkn:k=n:=by
   rcases Nat.lt_or_ge k n with h | h
   ·exact absurd ⟨h,he⟩ hx
   ·omega
  have h1:=h.good he
  rw [hkn,Nat.sub_self] at h1
  simp only [itemsS,List.append_nil] at h1
  rw [h1]
  exact ⟨rfl,fun _=>rfl⟩
 ·have h1:=h.bad he
  exact ⟨h1,fun h2=>absurd (h1 ▸ h2) he⟩
theorem xBA (ts:List Ty) (A:Option Addr) (c:Nat) (w:World) (hs:Slc 5 RTy w A c ts) (hl:ts.length≤200):
 Calls Tryz.prog 74 #[.slice A ts.length c] w fun e' w'=>(∃q:Bool,e' = .returned (.bool q))∧Below w.heap.size w w':=by
 obtain ⟨i0,hi,hz0,hz1,hz2⟩:=info_parts eE
 have hle:=hs.le
 have hbg:=hs.big
 have HS:=aF hs
 clear hs
 go_enter Tryz.func74,Tryz.ntmps74
 go_wp2_with fail
 go_loopw [3,11] (fun v i wr=>∃(k:Nat) (xs:List Int),k≤ts.length∧i = .int .i64 k∧xs.length=k∧Hid (wr.ownsRow w.heap.size 3 1 v k (xs.map (Value.int .i64)))∧Hid (Below w.heap.size w wr)) (fun _ i _=>ts.length - (intOf i).toNat)
 case atStart=>exact ⟨0,[],by omega,rfl,rfl,aF (World.ownsRow_nil _ _ _ _),aF (aV _ _)⟩
 case round=>
  obtain ⟨k,xs,hk,rfl,hxl,HO,HB⟩:=hrel
  obtain ⟨A',c',hv⟩:=iL HO.out
  subst hv
  have hsz:=HB.out.size
  by_cases hlt:k<ts.length
  next=>
   obtain ⟨b1,o1,rfl,hb1,r1⟩:=HS.out.sl.at_ hlt
   obtain ⟨r1,r2,r3,r4,A2,c2,r5,r6,r7,r8⟩:=RTy.keeps _ _ _ w.heap.size _ _ _ (aW _) hb1 HB.out r1
   generalize ts[k]=x at *
   have HF:Hid (Sl 1 RInt wr w.heap.size A2 x.flds):=aF r8
   obtain ⟨B',d',hB',hsl,-⟩:=eW (R:=RInt) (fun w B b o x h=>h) HO.out hxl
   simp only [Value.slice.injEq,true_and] at hB'
   obtain ⟨rfl,rfl⟩:=hB'
   have HX:=aF hsl
   have hls:=dL hb1
   clear r8 hsl
   have HFK:Hid (∀X,Below w.heap.size w X→∀b7 o7 j (f:Int),b7<w.heap.size→RInt wr w.heap.size b7 (o7+j * 1) f→X.cell? ⟨b7,o7+j,none⟩=some (.int .i64 f)):=aF (fun X hX b7 o7 j f hb7 h=>by
    rw [Nat.mul_one] at h
    have h1:w.cell? ⟨b7,o7+j,none⟩=some (.int .i64 f):=(HB.out.cell (p:=⟨b7,o7+j,none⟩) hb7).symm.trans h
    exact cell_keep hX h1)
   obtain ⟨kd,mu,rg,el,fl⟩:=x
   simp only at r1 r2 r3 r4 r5 r6 r7 HF
   by_cases hg:kd=3∧0≤el∧el<k
   next=>
    obtain ⟨rfl,h0,h1⟩:=hg
    obtain ⟨e,rfl⟩:=bF h0
    obtain ⟨b8,o8,rfl,hb8,hxe⟩:=HX.out.sl.at_ (show e<xs.length by omega)
    have x1:wr.cell? ⟨b8,o8+e,none⟩=some (.int .i64 xs[e]):=by simpa [RInt] using hxe
    generalize xs[e]=y at x1
    clear hxe
    have hls8:=dL hb8
    go_wp2_with fail
    clear r1 r2 r3 r4 r5
    clear HX
    all_goals try (exfalso;omega)
    all_goals
     have HO2:=aF (fun o=>HO.out.alloc o)
     have HB2:=aF (fun o=>HB.out.alloc hsz o)
     go_loopw [6,40] (fun n u wr2=>∃(j:Nat) (m:Int),j≤fl.length∧u = .int .i64 j∧n = .int .i64 m∧Hid (wr2.ownsRow w.heap.size 3 1 (.slice (some ⟨b8,o8,none⟩) k c') k (xs.map (Value.int .i64)))∧Hid (Below w.heap.size w wr2)) (fun _ u _=>fl.length - (intOf u).toNat)
     case atStart=>exact ⟨0,_,by omega,rfl,rfl,aF (HO2.out _),aF (HB2.out _)⟩
     case round=>
      clear HO2 HB2 HO HB
      obtain ⟨j,m,hj,rfl,rfl,HO,HB⟩:=hrel
      have hsz:=HB.out.size
      by_cases hjl:j<fl.length
      ·obtain ⟨b7,o7,rfl,hb7,hxj⟩:=HF.out.at_ hjl
       obtain ⟨f,hf⟩:∃f,fl[j]=f:=⟨_,rfl⟩
       rw [hf] at hxj
       have x0:wr.cell? ⟨b7,o7+j,none⟩=some (.int .i64 f):=HFK.out wr HB.out b7 o7 j f hb7 hxj
       clear hxj hf
       by_cases hg:0≤f∧f<k
       ·obtain ⟨e,rfl⟩:=bF hg.1
        obtain ⟨B',d',hB',hsl,-⟩:=eW (R:=RInt) (fun w B b o x h=>h) HO.out hxl
        simp only [Value.slice.injEq,true_and] at hB'
        obtain ⟨hB1,hd1⟩:=hB'
        subst hd1
        subst hB1
        obtain ⟨b8,o8,hB9,hb8,hxe⟩:=hsl.sl.at_ (show e<xs.length by omega)
        cases hB9
        have x1:wr.cell? ⟨b8,o8+e,none⟩=some (.int .i64 xs[e]):=by simpa [RInt] using hxe
        generalize xs[e]=y at x1
        clear hxe hsl
        go_wp2_with fail
        all_goals first
         | (exfalso;omega)
         | (go_ret;exact ⟨by first | exact ⟨_,rfl⟩ | exact .inl rfl | exact .inr rfl,HB.out⟩)
         | (go_roundw
            case rel=>exact ⟨j+1,_,by omega,by go_num,rfl,HO,HB⟩
            case measure=>simp [intOf];omega)
       ·go_wp2_with fail
        all_goals first
         | (exfalso;omega)
         | (go_ret;exact ⟨by first | exact ⟨_,rfl⟩ | exact .inl rfl | exact .inr rfl,HB.out⟩)
         | (go_roundw
            case rel=>exact ⟨j+1,_,by omega,by go_num,rfl,HO,HB⟩
            case measure=>simp [intOf];omega)
      ·have hown2:=HO.out.alloc (.cells #[.int .i64 m] 3)
       go_wp2_with (at_builtin;refine wpList_append_own _ rfl _ _ 51 rfl w.heap.size 3 i0 (.int .i64 0) 1 8 Tryz.underlying51 hi hz0 hz1 hz2 rfl (by decide) _ _ _ rfl hown2 ⟨wr.heap.size,0,none⟩ 1 1 [.int .i64 m] rfl rfl (fun j u hj=>by rw [add0];exact dZ _ [.int .i64 m] _ j u hj) (fun u hu=>by simp at hu;subst hu;rfl) (by unfold maxLen;omega) (by omega) (by simp;omega) ?_)
       intro v' w2 hown' hgrow _
       have HO2:Hid (w2.ownsRow w.heap.size 3 1 v' (k+1) ((xs ++ [m]).map (Value.int .i64))):=aF (by rw [bS];exact hown')
       have HB2:Hid (Below w.heap.size w w2):=aF ((HB.out.alloc hsz _).grown hgrow (by simp;omega) (fun g hg=>(hown2.lt g hg).1))
       clear hown' hgrow hown2
       go_wp2_with fail
       go_roundw
       case rel=>exact ⟨k+1,xs ++ [m],by omega,by go_num,by simp [hxl],HO2,HB2⟩
       case measure=>simp [intOf];omega
   next=>
   go_wp2_with fail
   clear r1 r2 r3 r4 r5
   clear HX
   all_goals try (exfalso;omega)
   all_goals
    have HO2:=aF (fun o=>HO.out.alloc o)
    have HB2:=aF (fun o=>HB.out.alloc hsz o)
    go_loopw [6,40] (fun n u wr2=>∃(j:Nat) (m:Int),j≤fl.length∧u = .int .i64 j∧n = .int .i64 m∧Hid (wr2.ownsRow w.heap.size 3 1 (.slice A' k c') k (xs.map (Value.int .i64)))∧Hid (Below w.heap.size w wr2)) (fun _ u _=>fl.length - (intOf u).toNat)
    case atStart=>exact ⟨0,_,by omega,rfl,rfl,aF (HO2.out _),aF (HB2.out _)⟩
    case round=>
     clear HO2 HB2 HO HB
     obtain ⟨j,m,hj,rfl,rfl,HO,HB⟩:=hrel
     have hsz:=HB.out.size
     by_cases hjl:j<fl.length
     ·obtain ⟨b7,o7,rfl,hb7,hxj⟩:=HF.out.at_ hjl
      obtain ⟨f,hf⟩:∃f,fl[j]=f:=⟨_,rfl⟩
      rw [hf] at hxj
      have x0:wr.cell? ⟨b7,o7+j,none⟩=some (.int .i64 f):=HFK.out wr HB.out b7 o7 j f hb7 hxj
      clear hxj hf
      by_cases hg:0≤f∧f<k
      ·obtain ⟨e,rfl⟩:=bF hg.1
       obtain ⟨B',d',hB',hsl,-⟩:=eW (R:=RInt) (fun w B b o x h=>h) HO.out hxl
       simp only [Value.slice.injEq,true_and] at hB'
       obtain ⟨hB1,hd1⟩:=hB'
       subst hd1
       subst hB1
       obtain ⟨b8,o8,hB9,hb8,hxe⟩:=hsl.sl.at_ (show e<xs.length by omega)
       cases hB9
       have x1:wr.cell? ⟨b8,o8+e,none⟩=some (.int .i64 xs[e]):=by simpa [RInt] using hxe
       generalize xs[e]=y at x1
       clear hxe hsl
       go_wp2_with fail
       all_goals first
        | (exfalso;omega)
        | (go_ret;exact ⟨by first | exact ⟨_,rfl⟩ | exact .inl rfl | exact .inr rfl,HB.out⟩)
        | (go_roundw
           case rel=>exact ⟨j+1,_,by omega,by go_num,rfl,HO,HB⟩
           case measure=>simp [intOf];omega)
      ·go_wp2_with fail
       all_goals first
        | (exfalso;omega)
        | (go_ret;exact ⟨by first | exact ⟨_,rfl⟩ | exact .inl rfl | exact .inr rfl,HB.out⟩)
        | (go_roundw
           case rel=>exact ⟨j+1,_,by omega,by go_num,rfl,HO,HB⟩
           case measure=>simp [intOf];omega)
     ·have hown2:=HO.out.alloc (.cells #[.int .i64 m] 3)
      go_wp2_with (at_builtin;refine wpList_append_own _ rfl _ _ 51 rfl w.heap.size 3 i0 (.int .i64 0) 1 8 Tryz.underlying51 hi hz0 hz1 hz2 rfl (by decide) _ _ _ rfl hown2 ⟨wr.heap.size,0,none⟩ 1 1 [.int .i64 m] rfl rfl (fun j u hj=>by rw [add0];exact dZ _ [.int .i64 m] _ j u hj) (fun u hu=>by simp at hu;subst hu;rfl) (by unfold maxLen;omega) (by omega) (by simp;omega) ?_)
      intro v' w2 hown' hgrow _
      have HO2:Hid (w2.ownsRow w.heap.size 3 1 v' (k+1) ((xs ++ [m]).map (Value.int .i64))):=aF (by rw [bS];exact hown')
      have HB2:Hid (Below w.heap.size w w2):=aF ((HB.out.alloc hsz _).grown hgrow (by simp;omega) (fun g hg=>(hown2.lt g hg).1))
      clear hown' hgrow hown2
      go_wp2_with fail
      go_roundw
      case rel=>exact ⟨k+1,xs ++ [m],by omega,by go_num,by simp [hxl],HO2,HB2⟩
      case measure=>simp [intOf];omega
  next=>
   clear HO
   go_wp2_with fail
   go_ret
   exact ⟨by first | exact ⟨_,rfl⟩ | exact .inl rfl | exact .inr rfl,HB.out⟩
end
end Go.Proofs.YtbnljlpefpllcaaGreatDoor
