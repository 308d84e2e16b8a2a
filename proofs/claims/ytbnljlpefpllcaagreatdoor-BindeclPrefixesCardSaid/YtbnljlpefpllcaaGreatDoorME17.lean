/-
  Parts of the proof: V66 V37 V38 V38A V38B V39A V67A.
-/
import Derived.Test.YtbnljlpefpllcaaGreatDoorME0
import Derived.Test.YtbnljlpefpllcaaGreatDoorME14
import Derived.Test.YtbnljlpefpllcaaGreatDoorME5
import Derived.Test.YtbnljlpefpllcaaGreatDoorME15
import Derived.Test.YtbnljlpefpllcaaGreatDoorME3
import Derived.Test.YtbnljlpefpllcaaGreatDoorME16
import Derived.Test.YtbnljlpefpllcaaGreatDoorME12
import Derived.Test.YtbnljlpefpllcaaGreatDoorME11
namespace Go.Proofs.YtbnljlpefpllcaaGreatDoor
set_option maxRecDepth 100000
set_option maxHeartbeats 16000000
section
open Go Go.RowKit
structure NmOk (b:Bdy):Prop where
 name:b.name.size≤9223372036854775807
 regs:∀s∈b.regions,s.size≤9223372036854775807
 locs:∀x∈b.locals,x.name.size≤9223372036854775807
 blks:∀x∈b.blocks,x.term.name.size≤9223372036854775807
def dR6 (b:Bdy):Int:=if b.blocks.length=0∨65535<b.blocks.length then 15 else 0
def dR5 (b:Bdy):Int:=if b.args<0∨(b.locals.length:Int)<b.args then 3 else dR6 b
def dR4 (b:Bdy):Int:=if 65535<b.locals.length then 15 else if localsE b.types.length [] b.locals=0 then dR5 b else localsE b.types.length [] b.locals
def dR3 (b:Bdy):Int:=if typesC b.regions.length b.types=0 then dR4 b else typesC b.regions.length b.types
def dR2 (b:Bdy):Int:=if pairsC b.regions.length b.outl=0 then dR3 b else pairsC b.regions.length b.outl
theorem xHO (b:Bdy):dR4 b=if localsC b=0 then dR6 b else localsC b:=by
 unfold dR4 dR5 localsC
 by_cases h1:65535<b.locals.length
 ·simp [h1]
 ·rw [aX h1,aX h1]
  by_cases h2:localsE b.types.length [] b.locals=0
  ·rw [aY h2,aY h2]
   by_cases h3:b.args<0∨(b.locals.length:Int)<b.args
   ·simp [h3]
   ·simp [h3]
  ·rw [aX h2,aX h2,aX h2]
theorem wQ (b:Bdy):declC b=if isIdent b.name=false then 12 else if namesC b.regions=0 then dR2 b else namesC b.regions:=by
 unfold declC
 by_cases h0:isIdent b.name=false
 ·rw [aY h0,aY h0]
 rw [aX h0,aX h0]
 obtain ⟨q,hq⟩:∃q,firstE [namesC b.regions,pairsC b.regions.length b.outl,typesC b.regions.length b.types,localsC b]=q:=⟨_,rfl⟩
 rw [hq]
 simp only [firstE] at hq
 subst hq
 by_cases h1:namesC b.regions=0
 ·rw [aY h1,aY h1]
  unfold dR2
  by_cases h2:pairsC b.regions.length b.outl=0
  ·rw [aY h2,aY h2]
   unfold dR3
   by_cases h3:typesC b.regions.length b.types=0
   ·rw [aY h3,aY h3,xHO]
    unfold dR6
    by_cases h4:localsC b=0
    ·simp [h4]
    ·simp [h4]
   ·simp [h3]
  ·simp [h2]
 ·simp [h1]
theorem tY (s:ByteArray) (l:List ByteArray):memN s l.reverse=memN s l:=by
 simp [memN]
theorem yD (b:Bdy) (bh:BH) (w:World) (H:BdAt w b bh) (hz:NmOk b):
 Calls Tryz.prog 61 #[.agg (bdC b bh).toArray] w fun e' w'=>e' = .returned (.int .i64 (declC b))∧Below w.heap.size w w':=by
 obtain ⟨A1,c1,A2,c2,A3,c3,A4,c4,A5,c5⟩:=bh
 obtain ⟨iS,iS0,iS1,iS2,iS3⟩:=info_parts oP
 have HH:=aF H
 have HZ:=aF hz
 have r1:=H.reg.le
 have r2:=H.reg.big
 have l1:=H.loc.le
 have l2:=H.loc.big
 have t1:=H.typ.le
 have t2:=H.typ.big
 have b1:=H.blk.le
 have b2:=H.blk.big
 simp only at r1 r2 l1 l2 t1 t2 b1 b2
 obtain ⟨R,hR⟩:∃R,declC b=R:=⟨_,rfl⟩
 rw [hR]
 rw [wQ] at hR
 have HR:=aF hR.symm
 have HI:=aF (fun W=>fY b.name W hz.name)
 clear hR H hz
 unfold bdC
 simp only
 have HCW:=aF (cW w [Value.string b.name,.slice A1 b.regions.length c1,.slice A2 b.outl.length c2,.slice A3 b.types.length c3,.slice A4 b.locals.length c4,.int .i64 b.args,.slice A5 b.blocks.length c5] 28)
 have HBW:=aF ((aV w.heap.size w).alloc (aW _) (.cells ([Value.string b.name,.slice A1 b.regions.length c1,.slice A2 b.outl.length c2,.slice A3 b.types.length c3,.slice A4 b.locals.length c4,.int .i64 b.args,.slice A5 b.blocks.length c5]).toArray 28))
 have HSZ:w.heap.size<(w.alloc (.cells ([Value.string b.name,.slice A1 b.regions.length c1,.slice A2 b.outl.length c2,.slice A3 b.types.length c3,.slice A4 b.locals.length c4,.int .i64 b.args,.slice A5 b.blocks.length c5]).toArray 28)).heap.size:=by simp
 cases hid:isIdent b.name
 ·rw [hid] at HI HR
  have HF:Hid (R=12):=aF HR.out
  clear hid HR
  go_enter Tryz.func61,Tryz.ntmps61
  go_wp2_with (go_at_call 67;refine (HI.out _).mono ?_;rintro e' w9 ⟨rfl,hw⟩;obtain rfl:=hw.symm)
  go_ret
  exact ⟨by rw [HF.out];rfl,HBW.out⟩
 rw [hid] at HI HR
 have HQ:Hid (R=if namesC b.regions=0 then dR2 b else namesC b.regions):=aF HR.out
 clear hid HR
 by_cases hrl:65535<b.regions.length
 ·have HF:Hid (R=15):=aF (by rw [HQ.out];unfold namesC;simp [hrl])
  clear HQ
  go_enter Tryz.func61,Tryz.ntmps61
  go_wp2_with (go_at_call 67;refine (HI.out _).mono ?_;rintro e' w9 ⟨rfl,hw⟩;obtain rfl:=hw.symm)
  go_ret
  exact ⟨by rw [HF.out];rfl,HBW.out⟩
 have HQ2:Hid (R=if namesE (b.regions.take 0).reverse (b.regions.drop 0)=0 then dR2 b else namesE (b.regions.take 0).reverse (b.regions.drop 0)):=aF (by
  rw [HQ.out];unfold namesC;rw [aX hrl];rfl)
 clear HQ
 go_enter Tryz.func61,Tryz.ntmps61
 go_wp2_with (go_at_call 67;refine (HI.out _).mono ?_;rintro e' w9 ⟨rfl,hw⟩;obtain rfl:=hw.symm)
 clear HI
 go_loopw [3] (fun v wr=>∃k:Nat,k≤b.regions.length∧v = .int .i64 k∧Hid (aA (bdM b A1 c1 A2 c2 A3 c3 A4 c4 A5 c5 []) wr w.heap.size)∧Hid (Below w.heap.size w wr)∧w.heap.size<wr.heap.size∧Hid (R=if namesE (b.regions.take k).reverse (b.regions.drop k)=0 then dR2 b else namesE (b.regions.take k).reverse (b.regions.drop k))) (fun v _=>b.regions.length - (intOf v).toNat)
 case atStart=>exact ⟨0,by omega,rfl,HCW,HBW,HSZ,HQ2⟩
 case round=>
  clear HCW HBW HSZ HQ2
  obtain ⟨k,hk,rfl,HCC,HB,hsz,hr⟩:=hrel
  obtain ⟨y0,y1,y2,y3,y4,y5,y6⟩:=aQ HCC.out
  by_cases hlt:k<b.regions.length
  ·obtain ⟨b3,o3,hA1,hb3,hx⟩:=HH.out.reg.sl.at_ hlt
   simp only at hA1
   subst hA1
   have hd:=cU hlt
   have hss:=HZ.out.regs _ (bM hlt)
   have htk:b.regions.take (k+1)=b.regions.take k ++ [b.regions[k]]:=bE hlt
   obtain ⟨s,hsx⟩:∃s,b.regions[k]=s:=⟨_,rfl⟩
   rw [hsx] at hx hd hss htk
   have P0:=aF (show w.cell? ⟨b3,o3+k,none⟩=some (.string s) by simpa [RN] using hx)
   have x0:=cell_keep HB.out P0.out
   have HIS:=aF (fun W=>fY s W hss)
   have HN:Hid (R=if isIdent s=false then 12 else if memN s (b.regions.take k)=true then 21 else if namesE (b.regions.take (k+1)).reverse (b.regions.drop (k+1))=0 then dR2 b else namesE (b.regions.take (k+1)).reverse (b.regions.drop (k+1))):=aF (by
    rw [hr.out,hd,namesE,tY,htk,List.reverse_append,List.reverse_singleton,List.singleton_append]
    by_cases h1:isIdent s=false
    ·simp [h1]
    ·rw [aX h1,aX h1]
     by_cases h2:memN s (b.regions.take k)=true
     ·simp [h2]
     ·rw [aX h2,aX h2])
   clear hx hd htk hsx hr
   cases hid:isIdent s
   ·rw [hid] at HIS HN
    have HF:Hid (R=12):=aF HN.out
    clear hid HN
    go_wp2_with (go_at_call 67;refine (HIS.out _).mono ?_;rintro e' w9 ⟨rfl,hw⟩;obtain rfl:=hw.symm)
    go_ret
    exact ⟨by rw [HF.out];rfl,HB.out⟩
   rw [hid] at HIS HN
   have HX:=aF (fun W (hb:Below w.heap.size w W)=>jD (b.regions.take k) s (some ⟨b3,o3,none⟩) c1 W ((HH.out.reg.takeN k).keep RN.keeps hb))
   rw [cN,Nat.min_eq_left hk] at HX
   have HCUT:Hid (∀W,(Instr.slice 22 (.slice (some ⟨b3,o3,none⟩) b.regions.length c1) none (some (.int .i64 (k:Int))) none).run Tryz.prog W = .ok (.slice (some ⟨b3,o3,none⟩) k c1) W):=aF (fun W=>by
    have:=nI (P:=Tryz.prog) 22 9 (some ⟨b3,o3,none⟩) b.regions.length c1 k 1 Tryz.underlying22 Tryz.sizeOf9 (by omega) r1 W
    simpa [cutA,Addr.add] using this)
   have HNG:=jF s 0 (b.regions.take k)
   have HN2:Hid ((0≤idxN s 0 (b.regions.take k)→R=21)∧(¬0≤idxN s 0 (b.regions.take k)→R=if namesE (b.regions.take (k+1)).reverse (b.regions.drop (k+1))=0 then dR2 b else namesE (b.regions.take (k+1)).reverse (b.regions.drop (k+1)))):=aF (by
    have h:=HN.out
    simp only [Bool.true_eq_false,if_false] at h
    constructor
    ·intro h1
     rw [h,aY (HNG.1 h1)]
    ·intro h1
     rw [h,aX (fun hc=>h1 (HNG.2 hc))])
   generalize idxN s 0 (b.regions.take k)=q at HX HN2
   clear hid HN HNG
   go_wp2_with (go_at_call 67;refine (HIS.out _).mono ?_;rintro e' w9 ⟨rfl,hw⟩;obtain rfl:=hw.symm)
   clear y0 y1 y2 y3 y4 y5 y6
   clear x0
   have hS:(aA (bdM b (some ⟨b3,o3,none⟩) c1 A2 c2 A3 c3 A4 c4 A5 c5 []) wr.drew w.heap.size)∧Below w.heap.size w wr.drew:=⟨HCC.out,HB.out.drew⟩
   refine cP (S:=fun X=>(aA (bdM b (some ⟨b3,o3,none⟩) c1 A2 c2 A3 c3 A4 c4 A5 c5 []) X w.heap.size)∧Below w.heap.size w X) [0,1,2,3,4,5,6,7,8,9,10] (by kernel_rfl) ?_
   (iterate 3 (refine cQ (v:=?_) ?_ hS ?_;rotate_left;(next=>(rintro X ⟨hX,hZ⟩;obtain ⟨s0,s1,s2,s3,s4,s5,s6⟩:=aQ hX;have x0:=cell_keep hZ P0.out;(try simp only [aH]);go_simp;rfl));simp only [aH,Act.put,aJ]))
   refine dA (v:= .slice (some ⟨b3,o3,none⟩) k c1) (by kernel_rfl) (fun _ _ _ h=>h) (Or.inl ⟨by rfl,?_⟩) hS ?_
   next=>
    rintro X ⟨hX,hZ⟩
    (try simp only [aH])
    have hcut:=HCUT.out X
    go_simp
   (simp only [aH,Act.put,aJ])
   (iterate 5 (refine cQ (v:=?_) ?_ hS ?_;rotate_left;(next=>(rintro X ⟨hX,hZ⟩;obtain ⟨s0,s1,s2,s3,s4,s5,s6⟩:=aQ hX;have x0:=cell_keep hZ P0.out;(try simp only [aH]);go_simp;rfl));simp only [aH,Act.put,aJ]))
   (refine cS (by kernel_rfl) (fun K1 hK1=>?_);simp only [aH,Act.put,aJ];rw [aY (by rfl)];go_simp)
   refine (HX.out _ hS.2).mono ?_
   rintro e' w2 ⟨rfl,hw⟩
   obtain rfl:=hw.symm
   refine hK1.out _ _ (fun _=>hS) ?_
   clear hK1
   (iterate 1 (refine cQ (v:=?_) ?_ hS ?_;rotate_left;(next=>(rintro X -;(try simp only [aH]);go_simp;rfl));simp only [aH,Act.put,aJ]))
   refine cV (by kernel_rfl) ?_
   have HC2:=aF hS.1
   have HB2:=aF hS.2
   have hsz2:w.heap.size<wr.drew.heap.size:=hsz
   clear hS
   by_cases hq:0≤q
   ·have HF:=aF (HN2.out.1 hq)
    have e1:decide (0≤q)=true:=by simp [hq]
    clear HN2
    go_wp2_with fail
    all_goals first
     | (exfalso;omega)
     | (go_ret;exact ⟨by rw [HF.out];rfl,HB2.out⟩)
   ·have HF:=aF (HN2.out.2 (by omega))
    have e1:decide (0≤q)=false:=by simp [hq]
    clear HN2
    go_wp2_with fail
    all_goals try (exfalso;omega)
    go_roundw
    case rel=>exact ⟨k+1,by omega,by go_num,HC2,HB2,hsz2,HF⟩
    case measure=>simp [intOf];omega
  ·have HR2:Hid (R=dR2 b):=aF (by rw [hr.out,bD (by omega:b.regions.length≤k)];rfl)
   have HP:=aF (fun W (hb:Below w.heap.size w W)=>vH b.outl (b.regions.length:Int) A2 c2 W (HH.out.keep hb).out)
   have HT:=aF (fun W (hb:Below w.heap.size w W)=>kW b.types (b.regions.length:Int) A3 c3 W (HH.out.keep hb).typ)
   unfold dR2 dR3 at HR2
   obtain ⟨q4,hq4⟩:∃q4,dR4 b=q4:=⟨_,rfl⟩
   rw [hq4] at HR2
   have HQ4:=aF hq4
   generalize pairsC (b.regions.length:Int) b.outl=q2 at HP HR2
   generalize typesC (b.regions.length:Int) b.types=q3 at HT HR2
   clear hr hq4
   by_cases h2:q2=0
   case neg=>
    have HF:Hid (R=q2):=aF (by rw [HR2.out,aX h2])
    have e1:(q2 != 0)=true:=by simp [h2]
    clear HR2 h2
    go_wp2_with (go_at_call 103;refine (HP.out _ HB.out).mono ?_;rintro e' w9 ⟨rfl,hw⟩;obtain rfl:=hw.symm)
    go_ret
    exact ⟨by rw [HF.out];rfl,HB.out⟩
   subst h2
   by_cases h3:q3=0
   case neg=>
    have HF:Hid (R=q3):=aF (by rw [HR2.out,aY rfl,aX h3])
    have e1:(q3 != 0)=true:=by simp [h3]
    clear HR2 h3
    go_wp2_with (first | (go_at_call 25;refine (HT.out _ HB.out).mono ?_;rintro e' w2 ⟨rfl,hb2⟩;have HB2:=aF (HB.out.trans (hb2.mono HB.out.size));clear hb2) | (go_at_call 103;refine (HP.out _ HB.out).mono ?_;rintro e' w9 ⟨rfl,hw⟩;obtain rfl:=hw.symm))
    go_ret
    exact ⟨by rw [HF.out];rfl,HB2.out⟩
   subst h3
   have HR4:Hid (R=q4):=aF (by rw [HR2.out];rfl)
   clear HR2
   by_cases hll:65535<b.locals.length
   ·have HF:Hid (R=15):=aF (by rw [HR4.out,← HQ4.out,dR4,aY hll])
    clear HR4 HQ4
    go_wp2_with (first | (go_at_call 25;refine (HT.out _ HB.out).mono ?_;rintro e' w2 ⟨rfl,hb2⟩;have HB2:=aF (HB.out.trans (hb2.mono HB.out.size));have HC2:=aF (cells_kept HCC.out hb2);have hsz2:=bN hsz hb2.size;clear hb2 y0 y1 y2 y3 y4 y5 y6;have y4:=HC2.out 4 _ rfl) | (go_at_call 103;refine (HP.out _ HB.out).mono ?_;rintro e' w9 ⟨rfl,hw⟩;obtain rfl:=hw.symm))
    all_goals first
     | (exfalso;omega)
     | (go_ret;exact ⟨by rw [HF.out];rfl,HB2.out⟩)
   have HRL:Hid (R=if localsE b.types.length (((b.locals.take 0).map (·.name)).reverse) (b.locals.drop 0)=0 then dR5 b else localsE b.types.length (((b.locals.take 0).map (·.name)).reverse) (b.locals.drop 0)):=aF (by rw [HR4.out,← HQ4.out,dR4,aX hll];rfl)
   clear HR4 HQ4
   go_wp2_with (first | (go_at_call 25;refine (HT.out _ HB.out).mono ?_;rintro e' w2 ⟨rfl,hb2⟩;have HB2:=aF (HB.out.trans (hb2.mono HB.out.size));have HC2:=aF (cells_kept HCC.out hb2);have hsz2:=bN hsz hb2.size;clear hb2 y0 y1 y2 y3 y4 y5 y6;have y4:=HC2.out 4 _ rfl) | (go_at_call 103;refine (HP.out _ HB.out).mono ?_;rintro e' w9 ⟨rfl,hw⟩;obtain rfl:=hw.symm))
   all_goals try (exfalso;omega)
   clear y4 HB HCC hsz
   go_loopw [5,6] (fun v i wr=>∃k:Nat,k≤b.locals.length∧i = .int .i64 k∧Hid (aA (bdM b A1 c1 A2 c2 A3 c3 A4 c4 A5 c5 []) wr w.heap.size)∧Hid (Below w.heap.size w wr)∧w.heap.size<wr.heap.size∧Hid (wr.ownsRow (w.heap.size+1) 9 1 v k (((b.locals.take k).map (·.name)).map Value.string))∧Hid (R=if localsE b.types.length (((b.locals.take k).map (·.name)).reverse) (b.locals.drop k)=0 then dR5 b else localsE b.types.length (((b.locals.take k).map (·.name)).reverse) (b.locals.drop k))) (fun _ i _=>b.locals.length - (intOf i).toNat)
   case atStart=>exact ⟨0,by omega,rfl,HC2,HB2,hsz2,aF (World.ownsRow_nil _ _ _ _),HRL⟩
   case round=>
    clear HC2 HB2 hsz2 HRL
    obtain ⟨k,hk,rfl,HCC,HB,hsz,HO,hr⟩:=hrel
    have hxl:((b.locals.take k).map (·.name)).length=k:=by simp;omega
    obtain ⟨B',d',hv,hsl,-⟩:=eW (R:=RN) (fun w B b o x h=>h) HO.out hxl
    subst hv
    have HSL:=aF hsl
    clear hsl
    have y4:=HCC.out 4 _ rfl
    have y3:=HCC.out 3 _ rfl
    by_cases hlt:k<b.locals.length
    ·obtain ⟨b3,o3,hA4,hb3,hx⟩:=HH.out.loc.sl.at_ hlt
     simp only at hA4
     subst hA4
     have hd:=cU hlt
     have hss:=HZ.out.locs _ (bM hlt)
     have htk:b.locals.take (k+1)=b.locals.take k ++ [b.locals[k]]:=bE hlt
     obtain ⟨s,hsx⟩:∃s,b.locals[k]=s:=⟨_,rfl⟩
     rw [hsx] at hx hd hss htk
     obtain ⟨h0,h1⟩:=hx
     have P0:=aF h0
     have P1:=aF h1
     have x0:=cell_keep HB.out P0.out
     have x1:=cell_keep HB.out P1.out
     have HIS:=aF (fun W=>fY s.name W hss)
     have HIX:=aF (jD _ s.name B' d' wr HSL.out)
     rw [hxl] at HIX
     have HNG:=jF s.name 0 ((b.locals.take k).map (·.name))
     have HN:Hid (R=if isIdent s.name=false then 12 else if 0≤idxN s.name 0 ((b.locals.take k).map (·.name)) then 21 else if s.type<0∨(b.types.length:Int)≤s.type then 3 else if localsE b.types.length (((b.locals.take (k+1)).map (·.name)).reverse) (b.locals.drop (k+1))=0 then dR5 b else localsE b.types.length (((b.locals.take (k+1)).map (·.name)).reverse) (b.locals.drop (k+1))):=aF (by
      rw [hr.out,hd,localsE,tY,htk,bS,cK,cM,List.reverse_append,List.reverse_singleton,List.singleton_append]
      by_cases h1:isIdent s.name=false
      ·simp [h1]
      ·rw [aX h1,aX h1]
       by_cases h2:memN s.name ((b.locals.take k).map (·.name))=true
       ·rw [aY h2,aY (HNG.2 h2)];rfl
       ·rw [aX h2,aX (fun hc=>h2 (HNG.1 hc))]
        by_cases h3:s.type<0∨(b.types.length:Int)≤s.type
        ·rw [aY h3,aY h3];rfl
        ·rw [aX h3,aX h3])
     have HTK:Hid ((((b.locals.take (k+1)).map (·.name)).map Value.string)=(((b.locals.take k).map (·.name)).map Value.string) ++ [Value.string s.name]):=aF (by rw [htk];simp)
     generalize idxN s.name 0 ((b.locals.take k).map (·.name))=q at HIX HN
     clear h0 h1 hd htk hsx hr HNG hss
     cases hid:isIdent s.name
     ·rw [hid] at HIS HN
      have HF:Hid (R=12):=aF HN.out
      clear hid HN
      go_wp2_with (go_at_call 67;refine (HIS.out _).mono ?_;rintro e' w9 ⟨rfl,hw⟩;obtain rfl:=hw.symm)
      go_ret
      exact ⟨by rw [HF.out];rfl,HB.out⟩
     rw [hid] at HIS HN
     by_cases hq:0≤q
     ·have HF:Hid (R=21):=aF (by rw [HN.out,aX (by simp),aY hq])
      have e1:decide (0≤q)=true:=by simp [hq]
      clear hid HN
      go_wp2_with (first | (go_at_call 40;refine HIX.out.mono ?_;rintro e' w9 ⟨rfl,hw⟩;obtain rfl:=hw.symm) | (go_at_call 67;refine (HIS.out _).mono ?_;rintro e' w9 ⟨rfl,hw⟩;obtain rfl:=hw.symm))
      all_goals first
       | (exfalso;omega)
       | (go_ret;exact ⟨by rw [HF.out];rfl,HB.out⟩)
     have e1:decide (0≤q)=false:=by simp;omega
     by_cases ht:s.type<0∨(b.types.length:Int)≤s.type
     ·have HF:Hid (R=3):=aF (by rw [HN.out,aX (by simp),aX hq,aY ht])
      clear hid HN
      by_cases ht0:s.type<0
      ·have e2:decide (s.type<0)=true:=by simp [ht0]
       clear ht
       go_wp2_with (first | (go_at_call 40;refine HIX.out.mono ?_;rintro e' w9 ⟨rfl,hw⟩;obtain rfl:=hw.symm) | (go_at_call 67;refine (HIS.out _).mono ?_;rintro e' w9 ⟨rfl,hw⟩;obtain rfl:=hw.symm))
       all_goals try (exfalso;omega)
       go_quiet (fail)
       all_goals go_wp2_with fail
       all_goals first
        | (exfalso;omega)
        | (go_ret;exact ⟨by rw [HF.out];rfl,bA HB.out _⟩)
      ·have e2:decide (s.type<0)=false:=by simp;omega
       have e3:decide ((b.types.length:Int)≤s.type)=true:=by simp;omega
       clear ht
       go_wp2_with (first | (go_at_call 40;refine HIX.out.mono ?_;rintro e' w9 ⟨rfl,hw⟩;obtain rfl:=hw.symm) | (go_at_call 67;refine (HIS.out _).mono ?_;rintro e' w9 ⟨rfl,hw⟩;obtain rfl:=hw.symm))
       all_goals try (exfalso;omega)
       go_quiet (fail)
       all_goals go_wp2_with fail
       all_goals first
        | (exfalso;omega)
        | (go_ret;exact ⟨by rw [HF.out];rfl,bA HB.out _⟩)
     ·have HF:=aF (show R=_ by rw [HN.out,aX (by simp),aX hq,aX ht])
      have e2:decide (s.type<0)=false:=by simp;omega
      have e3:decide ((b.types.length:Int)≤s.type)=false:=by simp;omega
      clear hid HN ht
      go_wp2_with (first | (go_at_call 40;refine HIX.out.mono ?_;rintro e' w9 ⟨rfl,hw⟩;obtain rfl:=hw.symm) | (go_at_call 67;refine (HIS.out _).mono ?_;rintro e' w9 ⟨rfl,hw⟩;obtain rfl:=hw.symm))
      all_goals try (exfalso;omega)
      go_quiet (fail)
      obtain ⟨W,hW⟩:∃W,wr.drewN nq=W:=⟨_,rfl⟩
      have HB2:Hid (Below w.heap.size w W):=aF (by rw [← hW];exact bA HB.out _)
      have HO2:Hid (W.ownsRow (w.heap.size+1) 9 1 (.slice B' k d') k (((b.locals.take k).map (·.name)).map Value.string)):=aF (by rw [← hW];exact HO.out)
      have HC2:Hid (aA (bdM b A1 c1 A2 c2 A3 c3 (some ⟨b3,o3,none⟩) c4 A5 c5 []) W w.heap.size):=aF (by rw [← hW];exact HCC.out)
      have hsz2:w.heap.size<W.heap.size:=by rw [← hW];exact hsz
      rw [hW]
      clear hW HO HB HCC y3 y4 x0 x1 hsz
      have y4:=HC2.out 4 _ rfl
      have x0:=cell_keep HB2.out P0.out
      obtain ⟨L,hL⟩:∃L,((b.locals.take k).map (·.name)).map Value.string=L:=⟨_,rfl⟩
      rw [hL] at HO2 HTK
      clear hL
      have hown2:=HO2.out.alloc (.cells #[.string s.name] 9)
      go_wp2_with (at_builtin;refine wpList_append_own _ rfl _ _ 22 rfl (w.heap.size+1) 9 iS (.string { data:= #[] }) 1 16 Tryz.underlying22 iS0 iS1 iS2 iS3 rfl (by decide) _ _ _ rfl hown2 ⟨W.heap.size,0,none⟩ 1 1 [.string s.name] rfl rfl (kC _ _) (kB _) (by unfold maxLen;omega) (by omega) (by simp;omega) ?_)
      intro v' w2 hown' hgrow _
      have HO3:Hid (w2.ownsRow (w.heap.size+1) 9 1 v' (k+1) (((b.locals.take (k+1)).map (·.name)).map Value.string)):=aF (by rw [HTK.out];exact hown')
      have hb3':Below (w.heap.size+1) W w2:=((aV _ _).alloc (by omega) _).grown hgrow (by simp;omega) (fun g hg=>(hown2.lt g hg).1)
      have HC3:Hid (aA (bdM b A1 c1 A2 c2 A3 c3 (some ⟨b3,o3,none⟩) c4 A5 c5 []) w2 w.heap.size):=aF (fun i v hi=>(hb3'.cell (p:=⟨w.heap.size,i,none⟩) (by simp)).trans (HC2.out i v hi))
      have HB3:Hid (Below w.heap.size w w2):=aF (HB2.out.trans (hb3'.mono (by omega)))
      have hsz3:w.heap.size<w2.heap.size:=bN hsz2 hb3'.size
      clear hown' hgrow hown2 hb3' y4 x0
      go_wp2_with fail
      go_roundw
      case rel=>exact ⟨k+1,by omega,by go_num,HC3,HB3,hsz3,HO3,HF⟩
      case measure=>simp [intOf];omega
    ·have HR5:Hid (R=dR5 b):=aF (by rw [hr.out,bD (by omega:b.locals.length≤k)];rfl)
     obtain ⟨-,-,-,-,-,y5,y6⟩:=aQ HCC.out
     clear hr HO HSL hxl
     by_cases ha:b.args<0∨(b.locals.length:Int)<b.args
     ·have HF:Hid (R=3):=aF (by rw [HR5.out,dR5,aY ha])
      clear HR5
      go_wp2_with fail
      all_goals first
       | (exfalso;omega)
       | (go_ret;exact ⟨by rw [HF.out];rfl,HB.out⟩)
     have HR6:Hid (R=dR6 b):=aF (by rw [HR5.out,dR5,aX ha])
     clear HR5
     unfold dR6 at HR6
     obtain ⟨nb,hnb⟩:∃n,b.blocks.length=n:=⟨_,rfl⟩
     rw [hnb] at HR6 y6 b1
     clear hnb
     by_cases hb0:nb=0
     ·subst hb0
      have HF:Hid (R=15):=aF (by rw [HR6.out];rfl)
      clear HR6
      go_wp2_with fail
      all_goals first
       | (exfalso;omega)
       | (go_ret;exact ⟨by rw [HF.out];rfl,HB.out⟩)
     have e1:((nb:Int) == 0)=false:=by simp;omega
     by_cases hb:65535<nb
     ·have HF:Hid (R=15):=aF (by rw [HR6.out,aY (.inr hb)])
      clear HR6
      go_wp2_with fail
      all_goals first
       | (exfalso;omega)
       | (go_ret;exact ⟨by rw [HF.out];rfl,HB.out⟩)
     ·have HF:Hid (R=0):=aF (by rw [HR6.out,aX (by omega)])
      clear HR6
      go_wp2_with fail
      all_goals first
       | (exfalso;omega)
       | (go_ret;exact ⟨by rw [HF.out];rfl,HB.out⟩)
end
section
open Go Go.RowKit Go.Maps
structure TabsOk (w:World):Prop where
 un:Slc 2 RPr w (some ⟨0,0,none⟩) 2 iQ
 bi:Slc 2 RPr w (some ⟨1,0,none⟩) 6 gJ
theorem TabsOk.keep {w w':World} (h:TabsOk w) (hb:Below w.heap.size w w'):TabsOk w':=⟨h.un.keep RPr.keeps hb,h.bi.keep RPr.keeps hb⟩
theorem xBU (W:World) (x:Int) (T:TypeId) (k:Nat) (hk:k=W.heap.size):Slc 1 RInt (W.alloc (.cells #[.int .i64 x] T)) (some ⟨k,0,none⟩) 1 [x]:=by
 subst hk
 refine ⟨fun _=>⟨_,_,rfl,by simp,fun i q hi=>?_⟩,by simp,by omega⟩
 show (W.alloc _).cell? ⟨W.heap.size,0+i * 1,none⟩=_
 rw [World.cell?_alloc_at _ _ _ _ (by simp),Nat.zero_add,Nat.mul_one]
 match i,hi with
 | 0,hi=>simp at hi;subst hi;rfl
 | i+1,hi=>simp at hi
theorem uZ {b:Bdy} {bh:BH} {r:Nat} {w:World} (H:Ck w b bh r) (hT:TabsOk w) (rv:Rvl) (t:Nat) (ht:t<b.types.length) (A B:Option Addr) (c d:Nat) (hp:Slc 2 RPj w A c rv.place.proj) (hl:Slc 4 ROp w B d rv.args):
 Calls Tryz.prog 126 #[.agg (ckC b bh r).toArray,.agg (rvC rv A c B d).toArray,.int .i64 t] w fun e' w'=>e' = .returned (.int .i64 (rvE b rv t))∧Below w.heap.size w w':=by
 have HU:=aF (fun W=>uT rv A B c d W)
 obtain ⟨R,hR⟩:∃R,rvE b rv t=R:=⟨_,rfl⟩
 rw [hR]
 have HR:Hid (R=if rv.kind<0∨4<rv.kind then 14 else if unusedR rv=false then 2 else if rv.kind=0 then opsE b rv.args [(t:Int)] else if rv.kind=1 then borE b rv t else if rv.kind=2 then operE b rv t iQ else if rv.kind=3 then operE b rv t gJ else if b.types[t].kind≠4∨b.types[t].flds.length≠rv.args.length then 22 else opsE b rv.args b.types[t].flds):=aF (by
  rw [← hR,rvE]
  simp only [bV]
  rw [bB ht])
 have HH:=aF H
 have HT:=aF hT
 have HL:=aF hl
 have HP:=aF hp
 have hle:=hl.le
 have hbig:=hl.big
 clear hR H hT hl hp
 unfold ckC
 by_cases h0:rv.kind<0∨4<rv.kind
 ·have HF:Hid (R=14):=aF (by rw [HR.out,aY h0])
  clear HR HU
  unfold rvC
  go_enter Tryz.func126,Tryz.ntmps126
  go_wp2_with fail
  all_goals first
   | (exfalso;omega)
   | (go_ret;exact ⟨by rw [HF.out];rfl,aG⟩)
 obtain ⟨u,hu⟩:∃u,unusedR rv=u:=⟨_,rfl⟩
 rw [hu] at HU HR
 cases u
 ·have HF:Hid (R=2):=aF (by rw [HR.out,aX h0,aY rfl])
  have h1:¬rv.kind<0:=by omega
  have h2:¬4<rv.kind:=by omega
  clear HR h0
  unfold rvC at HU ⊢
  go_enter Tryz.func126,Tryz.ntmps126
  go_wp2_with (go_at_call 176;refine (HU.out _).mono ?_;rintro e' w1 ⟨rfl,hb1⟩;have HB:=aF ((bel2 _ _ _).trans (hb1.mono (bel2 _ _ _).size));obtain ⟨y,z⟩:=cR hb1;have HY:=aF y;have HZ:=aF z;obtain ⟨y0,y1,y2,y3,y4,y5,y6,y7⟩:=aR HY.out;obtain ⟨z0,z1,z2,z3,z4,z5,z6⟩:=aQ HZ.out;have hlw:=hb1.size;simp only [bH] at hlw;have hlw1:w.heap.size+1<w1.heap.size:=hlw;have hlw0:w.heap.size<w1.heap.size:=cC hlw;clear y z hb1)
  all_goals first
   | (exfalso;omega)
   | (go_ret;exact ⟨by rw [HF.out];rfl,HB.out⟩)
 have HR2:Hid (R=if rv.kind=0 then opsE b rv.args [(t:Int)] else if rv.kind=1 then borE b rv t else if rv.kind=2 then operE b rv t iQ else if rv.kind=3 then operE b rv t gJ else if b.types[t].kind≠4∨b.types[t].flds.length≠rv.args.length then 22 else opsE b rv.args b.types[t].flds):=aF (by rw [HR.out,aX h0,aX (by simp)])
 clear HR
 rcases (show rv.kind=0∨rv.kind=1∨rv.kind=2∨rv.kind=3∨rv.kind=4 by omega) with hk | hk | hk | hk | hk
 ·have HF:Hid (R=opsE b rv.args [(t:Int)]):=aF (by rw [HR2.out,aY hk])
  have HC:=aF (fun (W:World) (hb:Below w.heap.size w W) (C:Option Addr) (f:Nat) (hf:Slc 1 RInt W C f [(t:Int)])=>fV (HH.out.keep hb) rv.args [(t:Int)] B C d f (HL.out.keep ROp.keeps hb) hf (by simp;omega))
  clear HR2 hu h0
  unfold rvC at HU ⊢
  unfold ckC at HC
  rw [hk] at HU ⊢
  go_enter Tryz.func126,Tryz.ntmps126
  go_wp2_with (first | (go_at_call 176;refine (HU.out _).mono ?_;rintro e' w1 ⟨rfl,hb1⟩;have HB:=aF ((bel2 _ _ _).trans (hb1.mono (bel2 _ _ _).size));obtain ⟨y,z⟩:=cR hb1;have HY:=aF y;have HZ:=aF z;obtain ⟨y0,y1,y2,y3,y4,y5,y6,y7⟩:=aR HY.out;obtain ⟨z0,z1,z2,z3,z4,z5,z6⟩:=aQ HZ.out;have hlw:=hb1.size;simp only [bH] at hlw;have hlw1:w.heap.size+1<w1.heap.size:=hlw;have hlw0:w.heap.size<w1.heap.size:=cC hlw;clear y z hb1) | (go_at_call 131;refine (HC.out _ (HB.out.alloc HB.out.size _) _ _ (xBU _ _ _ _ rfl)).mono ?_;rintro e' w2 ⟨rfl,hb2⟩;have HB2:=aF ((HB.out.alloc HB.out.size _).trans (hb2.mono (HB.out.alloc HB.out.size _).size));clear hb2))
  go_ret
  exact ⟨by rw [HF.out];rfl,HB2.out⟩
 ·have HF:Hid (R=borE b rv t):=aF (by rw [HR2.out,aX (by omega),aY hk])
  have HC:=aF (fun (W:World) (hb:Below w.heap.size w W)=>wU (HH.out.keep hb) rv t ht A B c d (HP.out.keep RPj.keeps hb))
  clear HR2 hu h0
  unfold rvC at HU HC ⊢
  unfold ckC at HC
  rw [hk] at HU HC ⊢
  go_enter Tryz.func126,Tryz.ntmps126
  go_wp2_with (first | (go_at_call 176;refine (HU.out _).mono ?_;rintro e' w1 ⟨rfl,hb1⟩;have HB:=aF ((bel2 _ _ _).trans (hb1.mono (bel2 _ _ _).size));obtain ⟨y,z⟩:=cR hb1;have HY:=aF y;have HZ:=aF z;obtain ⟨y0,y1,y2,y3,y4,y5,y6,y7⟩:=aR HY.out;obtain ⟨z0,z1,z2,z3,z4,z5,z6⟩:=aQ HZ.out;have hlw:=hb1.size;simp only [bH] at hlw;have hlw1:w.heap.size+1<w1.heap.size:=hlw;have hlw0:w.heap.size<w1.heap.size:=cC hlw;clear y z hb1) | (go_at_call 177;refine (HC.out _ HB.out).mono ?_;rintro e' w2 ⟨rfl,hb2⟩;have HB2:=aF (HB.out.trans (hb2.mono HB.out.size));clear hb2))
  go_ret
  exact ⟨by rw [HF.out];rfl,HB2.out⟩
 ·have HF:Hid (R=operE b rv t iQ):=aF (by rw [HR2.out,aX (by omega),aX (by omega),aY hk])
  have HC:=aF (fun (W:World) (hb:Below w.heap.size w W)=>jB (HH.out.keep hb) rv t ht iQ A B _ c d 2 (HL.out.keep ROp.keeps hb) (HT.out.keep hb).un)
  clear HR2 hu h0
  unfold rvC at HU HC ⊢
  unfold ckC at HC
  rw [hk] at HU HC ⊢
  go_enter Tryz.func126,Tryz.ntmps126
  go_wp2_with (go_at_call 176;refine (HU.out _).mono ?_;rintro e' w1 ⟨rfl,hb1⟩;have HB:=aF ((bel2 _ _ _).trans (hb1.mono (bel2 _ _ _).size));obtain ⟨y,z⟩:=cR hb1;have HY:=aF y;have HZ:=aF z;obtain ⟨y0,y1,y2,y3,y4,y5,y6,y7⟩:=aR HY.out;obtain ⟨z0,z1,z2,z3,z4,z5,z6⟩:=aQ HZ.out;have hlw:=hb1.size;simp only [bH] at hlw;have hlw1:w.heap.size+1<w1.heap.size:=hlw;have hlw0:w.heap.size<w1.heap.size:=cC hlw;clear y z hb1)
  clear y0 y1 y2 y3 y4 y5 y6 y7 z0 z1 z2 z3 z4 z5 z6
  have hS:(aA (bdH b bh [.pointer (some ⟨r,0,none⟩)]) w1.drew w.heap.size)∧(aA [Value.int .i64 2,.int .i64 rv.op,.int .i64 rv.reg,.bool rv.mu,.int .i64 rv.place.loc,.slice A rv.place.proj.length c,.slice B rv.args.length d] w1.drew (w.heap.size+1)):=⟨HY.out,HZ.out⟩
  refine cP (S:=fun X=>(aA (bdH b bh [.pointer (some ⟨r,0,none⟩)]) X w.heap.size)∧(aA [Value.int .i64 2,.int .i64 rv.op,.int .i64 rv.reg,.bool rv.mu,.int .i64 rv.place.loc,.slice A rv.place.proj.length c,.slice B rv.args.length d] X (w.heap.size+1))) [0,1,2,3,4,5] (by kernel_rfl) ?_
  (iterate 4 (refine cQ (v:=?_) ?_ hS ?_;rotate_left;(next=>(rintro X ⟨hX,hY⟩;obtain ⟨s0,s1,s2,s3,s4,s5,s6,s7⟩:=aR hX;obtain ⟨u0,u1,u2,u3,u4,u5,u6⟩:=aQ hY;(try simp only [aH]);go_simp;rfl));simp only [aH,Act.put,aJ]))
  (refine cS (by kernel_rfl) (fun K1 hK1=>?_);simp only [aH,Act.put,aJ];rw [aY (by rfl)];go_simp)
  refine (HC.out _ HB.out.drew).mono ?_
  rintro e' w2 ⟨rfl,hb⟩
  replace hS:=bI (cells_kept hS.1 hb) (cells_kept hS.2 hb)
  have HB2:=aF (HB.out.drew.trans (hb.mono HB.out.size))
  clear hb
  refine hK1.out _ _ (fun _=>hS) ?_
  (iterate 1 (refine cQ (v:=?_) ?_ hS ?_;rotate_left;(next=>(rintro X -;(try simp only [aH]);go_simp;rfl));simp only [aH,Act.put,aJ]))
  refine cV (by kernel_rfl) ?_
  go_wp2_with fail
  go_ret
  exact ⟨by rw [HF.out];rfl,HB2.out⟩
 ·have HF:Hid (R=operE b rv t gJ):=aF (by rw [HR2.out,aX (by omega),aX (by omega),aX (by omega),aY hk])
  have HC:=aF (fun (W:World) (hb:Below w.heap.size w W)=>jB (HH.out.keep hb) rv t ht gJ A B _ c d 6 (HL.out.keep ROp.keeps hb) (HT.out.keep hb).bi)
  clear HR2 hu h0
  unfold rvC at HU HC ⊢
  unfold ckC at HC
  rw [hk] at HU HC ⊢
  go_enter Tryz.func126,Tryz.ntmps126
  go_wp2_with (go_at_call 176;refine (HU.out _).mono ?_;rintro e' w1 ⟨rfl,hb1⟩;have HB:=aF ((bel2 _ _ _).trans (hb1.mono (bel2 _ _ _).size));obtain ⟨y,z⟩:=cR hb1;have HY:=aF y;have HZ:=aF z;obtain ⟨y0,y1,y2,y3,y4,y5,y6,y7⟩:=aR HY.out;obtain ⟨z0,z1,z2,z3,z4,z5,z6⟩:=aQ HZ.out;have hlw:=hb1.size;simp only [bH] at hlw;have hlw1:w.heap.size+1<w1.heap.size:=hlw;have hlw0:w.heap.size<w1.heap.size:=cC hlw;clear y z hb1)
  clear y0 y1 y2 y3 y4 y5 y6 y7 z0 z1 z2 z3 z4 z5 z6
  have hS:(aA (bdH b bh [.pointer (some ⟨r,0,none⟩)]) w1.drew w.heap.size)∧(aA [Value.int .i64 3,.int .i64 rv.op,.int .i64 rv.reg,.bool rv.mu,.int .i64 rv.place.loc,.slice A rv.place.proj.length c,.slice B rv.args.length d] w1.drew (w.heap.size+1)):=⟨HY.out,HZ.out⟩
  refine cP (S:=fun X=>(aA (bdH b bh [.pointer (some ⟨r,0,none⟩)]) X w.heap.size)∧(aA [Value.int .i64 3,.int .i64 rv.op,.int .i64 rv.reg,.bool rv.mu,.int .i64 rv.place.loc,.slice A rv.place.proj.length c,.slice B rv.args.length d] X (w.heap.size+1))) [0,1,2,3,4,5] (by kernel_rfl) ?_
  (iterate 4 (refine cQ (v:=?_) ?_ hS ?_;rotate_left;(next=>(rintro X ⟨hX,hY⟩;obtain ⟨s0,s1,s2,s3,s4,s5,s6,s7⟩:=aR hX;obtain ⟨u0,u1,u2,u3,u4,u5,u6⟩:=aQ hY;(try simp only [aH]);go_simp;rfl));simp only [aH,Act.put,aJ]))
  (refine cS (by kernel_rfl) (fun K1 hK1=>?_);simp only [aH,Act.put,aJ];rw [aY (by rfl)];go_simp)
  refine (HC.out _ HB.out.drew).mono ?_
  rintro e' w2 ⟨rfl,hb⟩
  replace hS:=bI (cells_kept hS.1 hb) (cells_kept hS.2 hb)
  have HB2:=aF (HB.out.drew.trans (hb.mono HB.out.size))
  clear hb
  refine hK1.out _ _ (fun _=>hS) ?_
  (iterate 1 (refine cQ (v:=?_) ?_ hS ?_;rotate_left;(next=>(rintro X -;(try simp only [aH]);go_simp;rfl));simp only [aH,Act.put,aJ]))
  refine cV (by kernel_rfl) ?_
  go_wp2_with fail
  go_ret
  exact ⟨by rw [HF.out];rfl,HB2.out⟩
 ·obtain ⟨bb,oo,hA3,hbb,hxx⟩:=HH.out.at_.typ.sl.at_ ht
  have hgd:=HH.out.ok.tyok t ht
  obtain ⟨ty,hty⟩:∃ty,b.types[t]=ty:=⟨_,rfl⟩
  have hle3:=HH.out.at_.typ.le
  have hbig3:=HH.out.at_.typ.big
  rw [hty] at hxx hgd HR2
  obtain ⟨q0,q1,q2,q3,A5,c5,q4,q6,q7,q8⟩:=hxx
  have HFS:Hid (Slc 1 RInt w A5 c5 ty.flds):=aF ⟨q8,q6,q7⟩
  have HF0:Hid (R=if ty.kind≠4∨ty.flds.length≠rv.args.length then 22 else opsE b rv.args ty.flds):=aF (by rw [HR2.out,aX (by omega),aX (by omega),aX (by omega),aX (by omega)])
  have HC:=aF (fun (W:World) (hb:Below w.heap.size w W)=>fV (HH.out.keep hb) rv.args ty.flds B A5 d c5 (HL.out.keep ROp.keeps hb) (HFS.out.keep RInt.keeps hb) (fun x hx=>by have:=hgd.2 x hx;omega))
  obtain ⟨p1,hp1⟩:∃p,(ty.kind != 4)=p:=⟨_,rfl⟩
  obtain ⟨p2,hp2⟩:∃p,((ty.flds.length:Int) != (rv.args.length:Int))=p:=⟨_,rfl⟩
  have HF1:Hid (R=if p1=true∨p2=true then 22 else opsE b rv.args ty.flds):=aF (by
   rw [HF0.out,← hp1,← hp2]
   simp only [bne_iff_ne,ne_eq,Int.ofNat_inj])
  generalize opsE b rv.args ty.flds=oe at HC HF1
  have HF:Hid (R=firstE [fail22 (p1 || p2),oe]):=aF (by rw [HF1.out];cases p1 <;> cases p2 <;> simp [firstE,fail22])
  have HP1:=aF hp1
  have HP2:=aF hp2
  clear HR2 HF0 HF1 hu h0 hty hgd q8
  unfold rvC at HU ⊢
  unfold ckC at HC
  rw [hA3] at HC ⊢
  rw [hk] at HU ⊢
  go_enter Tryz.func126,Tryz.ntmps126
  go_wp2_with (go_at_call 176;refine (HU.out _).mono ?_;rintro e' w1 ⟨rfl,hb1⟩;have HB:=aF ((bel2 _ _ _).trans (hb1.mono (bel2 _ _ _).size));obtain ⟨y,z⟩:=cR hb1;have HY:=aF y;have HZ:=aF z;obtain ⟨y0,y1,y2,y3,y4,y5,y6,y7⟩:=aR HY.out;obtain ⟨z0,z1,z2,z3,z4,z5,z6⟩:=aQ HZ.out;have v0:=cell_keep HB.out q0;have v1:=cell_keep HB.out q1;have v2:=cell_keep HB.out q2;have v3:=cell_keep HB.out q3;have v4:=cell_keep HB.out q4;have hlw:=hb1.size;simp only [bH] at hlw;have hlw1:w.heap.size+1<w1.heap.size:=hlw;have hlw0:w.heap.size<w1.heap.size:=cC hlw;clear y z hb1)
  have HBX:=aF ((HB.out.alloc HB.out.size (.cells (tyL ty A5 c5).toArray 83)).drew)
  have hS:(∀i v,[Value.string b.name,.slice bh.A1 b.regions.length bh.c1,.slice bh.A2 b.outl.length bh.c2,.slice (some ⟨bb,oo,none⟩) b.types.length bh.c3,.slice bh.A4 b.locals.length bh.c4,.int .i64 b.args,.slice bh.A5 b.blocks.length bh.c5,.pointer (some ⟨r,0,none⟩)][i]?=some v→(w1.alloc (.cells (tyL ty A5 c5).toArray 83)).drew.cell? ⟨w.heap.size,i,none⟩=some v)∧(∀i v,[Value.int .i64 4,.int .i64 rv.op,.int .i64 rv.reg,.bool rv.mu,.int .i64 rv.place.loc,.slice A rv.place.proj.length c,.slice B rv.args.length d][i]?=some v→(w1.alloc (.cells (tyL ty A5 c5).toArray 83)).drew.cell? ⟨w.heap.size+1,i,none⟩=some v)∧(∀i v,(tyL ty A5 c5)[i]?=some v→(w1.alloc (.cells (tyL ty A5 c5).toArray 83)).drew.cell? ⟨w1.heap.size,i,none⟩=some v):=
   ⟨fun i v hi=>cell_keep (((aV _ _).alloc (aW _) _).drew) (HY.out i v hi),fun i v hi=>cell_keep (((aV _ _).alloc (aW _) _).drew) (HZ.out i v hi),cW w1 (tyL ty A5 c5) _⟩
  clear y0 y1 y2 y3 y4 y5 y6 y7 z0 z1 z2 z3 z4 z5 z6 v0 v1 v2 v3 v4 q0 q1 q2 q3 q4
  refine cP (S:=fun X=>(aA (bdM b bh.A1 bh.c1 bh.A2 bh.c2 (some ⟨bb,oo,none⟩) bh.c3 bh.A4 bh.c4 bh.A5 bh.c5 [.pointer (some ⟨r,0,none⟩)]) X w.heap.size)∧(aA [Value.int .i64 4,.int .i64 rv.op,.int .i64 rv.reg,.bool rv.mu,.int .i64 rv.place.loc,.slice A rv.place.proj.length c,.slice B rv.args.length d] X (w.heap.size+1))∧(aA (tyL ty A5 c5) X w1.heap.size)) [0,1,2,3,4,5,6,7,8,9,10,11,13,14,15,16,17,12,18,19,20,21] (by kernel_rfl) ?_
  (iterate 3 (refine cQ (v:=?_) ?_ hS ?_;rotate_left;(next=>(rintro X ⟨hX,hY,hZ⟩;have u0:=hZ 0 _ rfl;(try simp only [aH]);go_simp;rfl));simp only [aH,Act.put,aJ]))
  try rw [HP1.out]
  cases p1
  ·(iterate 1 (refine cQ (v:=?_) ?_ hS ?_;rotate_left;(next=>(rintro X -;(try simp only [aH]);go_simp;rfl));simp only [aH,Act.put,aJ]))
   (iterate 6 (refine cQ (v:=?_) ?_ hS ?_;rotate_left;(next=>(rintro X ⟨hX,hY,hZ⟩;have u4:=hZ 4 _ rfl;have u6:=hY 6 _ rfl;(try simp only [aH]);go_simp;rfl));simp only [aH,Act.put,aJ]))
   (iterate 1 (refine cQ (v:=?_) ?_ hS ?_;rotate_left;(next=>(rintro X -;(try simp only [aH]);go_simp;rfl));simp only [aH,Act.put,aJ]))
   try rw [HP2.out]
   (iterate 1 (refine cQ (v:=?_) ?_ hS ?_;rotate_left;(next=>(rintro X -;(try simp only [aH]);go_simp;rfl));simp only [aH,Act.put,aJ]))
   (iterate 5 (refine cQ (v:=?_) ?_ hS ?_;rotate_left;(next=>(rintro X ⟨hX,hY,hZ⟩;obtain ⟨s0,s1,s2,s3,s4,s5,s6,s7⟩:=aR hX;have u4:=hZ 4 _ rfl;have u6:=hY 6 _ rfl;(try simp only [aH]);go_simp;rfl));simp only [aH,Act.put,aJ]))
   (refine cS (by kernel_rfl) (fun K1 hK1=>?_);simp only [aH,Act.put,aJ];rw [aY (by rfl)];go_simp)
   refine (eC _ _).mono ?_
   rintro e' w3 ⟨rfl,hw⟩
   obtain rfl:=hw.symm
   refine hK1.out _ _ (fun _=>hS) ?_
   clear hK1
   (refine cS (by kernel_rfl) (fun K1 hK1=>?_);simp only [aH,Act.put,aJ];rw [aY (by rfl)];go_simp)
   refine (HC.out _ HBX.out).mono ?_
   rintro e' w2 ⟨rfl,hb⟩
   replace hS:=bI (cells_kept hS.1 hb) (bI (cells_kept hS.2.1 hb) (cells_kept hS.2.2 hb))
   have HB2:=aF (HBX.out.trans (hb.mono HBX.out.size))
   clear hb
   refine hK1.out _ _ (fun _=>hS) ?_
   clear hK1
   (refine cS (by kernel_rfl) (fun K1 hK1=>?_);simp only [aH,Act.put,aJ];rw [aY (by rfl)];go_simp)
   replace hS:=bI (fun i v hi=>cell_keep ((aV _ _).alloc (aW _) (.cells #[Value.int .i64 (fail22 p2),.int .i64 oe] 35)) (hS.1 i v hi)) (bI (fun i v hi=>cell_keep ((aV _ _).alloc (aW _) (.cells #[Value.int .i64 (fail22 p2),.int .i64 oe] 35)) (hS.2.1 i v hi)) (fun i v hi=>cell_keep ((aV _ _).alloc (aW _) (.cells #[Value.int .i64 (fail22 p2),.int .i64 oe] 35)) (hS.2.2 i v hi)))
   refine hK1.out _ _ (fun _=>hS) ?_
   clear hK1
   (refine cS (by kernel_rfl) (fun K1 hK1=>?_);simp only [aH,Act.put,aJ];rw [aY (by rfl)];go_simp)
   refine (gB [fail22 p2,oe] _ 2 _ (pJ _ _ _ _ _ rfl)).mono ?_
   rintro e' w4 ⟨rfl,hw⟩
   obtain rfl:=hw.symm
   refine hK1.out _ _ (fun _=>hS) ?_
   clear hK1
   (iterate 1 (refine cQ (v:=?_) ?_ hS ?_;rotate_left;(next=>(rintro X -;(try simp only [aH]);go_simp;rfl));simp only [aH,Act.put,aJ]))
   refine cV (by kernel_rfl) ?_
   go_wp2_with fail
   go_ret
   exact ⟨by rw [HF.out];rfl,HB2.out.alloc HB2.out.size _⟩
  ·(iterate 1 (refine cQ (v:=?_) ?_ hS ?_;rotate_left;(next=>(rintro X -;(try simp only [aH]);go_simp;rfl));simp only [aH,Act.put,aJ]))
   (iterate 7 (refine dA (v:=undef) (by kernel_rfl) (fun _ _ _ h=>h) (Or.inr ⟨by rfl,rfl⟩) hS ?_;simp only [aH,Act.put,aJ]))
   (iterate 1 (refine cQ (v:=?_) ?_ hS ?_;rotate_left;(next=>(rintro X -;(try simp only [aH]);go_simp;rfl));simp only [aH,Act.put,aJ]))
   (iterate 5 (refine cQ (v:=?_) ?_ hS ?_;rotate_left;(next=>(rintro X ⟨hX,hY,hZ⟩;obtain ⟨s0,s1,s2,s3,s4,s5,s6,s7⟩:=aR hX;have u4:=hZ 4 _ rfl;have u6:=hY 6 _ rfl;(try simp only [aH]);go_simp;rfl));simp only [aH,Act.put,aJ]))
   (refine cS (by kernel_rfl) (fun K1 hK1=>?_);simp only [aH,Act.put,aJ];rw [aY (by rfl)];go_simp)
   refine (eC _ _).mono ?_
   rintro e' w3 ⟨rfl,hw⟩
   obtain rfl:=hw.symm
   refine hK1.out _ _ (fun _=>hS) ?_
   clear hK1
   (refine cS (by kernel_rfl) (fun K1 hK1=>?_);simp only [aH,Act.put,aJ];rw [aY (by rfl)];go_simp)
   refine (HC.out _ HBX.out).mono ?_
   rintro e' w2 ⟨rfl,hb⟩
   replace hS:=bI (cells_kept hS.1 hb) (bI (cells_kept hS.2.1 hb) (cells_kept hS.2.2 hb))
   have HB2:=aF (HBX.out.trans (hb.mono HBX.out.size))
   clear hb
   refine hK1.out _ _ (fun _=>hS) ?_
   clear hK1
   (refine cS (by kernel_rfl) (fun K1 hK1=>?_);simp only [aH,Act.put,aJ];rw [aY (by rfl)];go_simp)
   replace hS:=bI (fun i v hi=>cell_keep ((aV _ _).alloc (aW _) (.cells #[Value.int .i64 (fail22 true),.int .i64 oe] 35)) (hS.1 i v hi)) (bI (fun i v hi=>cell_keep ((aV _ _).alloc (aW _) (.cells #[Value.int .i64 (fail22 true),.int .i64 oe] 35)) (hS.2.1 i v hi)) (fun i v hi=>cell_keep ((aV _ _).alloc (aW _) (.cells #[Value.int .i64 (fail22 true),.int .i64 oe] 35)) (hS.2.2 i v hi)))
   refine hK1.out _ _ (fun _=>hS) ?_
   clear hK1
   (refine cS (by kernel_rfl) (fun K1 hK1=>?_);simp only [aH,Act.put,aJ];rw [aY (by rfl)];go_simp)
   refine (gB [fail22 true,oe] _ 2 _ (pJ _ _ _ _ _ rfl)).mono ?_
   rintro e' w4 ⟨rfl,hw⟩
   obtain rfl:=hw.symm
   refine hK1.out _ _ (fun _=>hS) ?_
   clear hK1
   (iterate 1 (refine cQ (v:=?_) ?_ hS ?_;rotate_left;(next=>(rintro X -;(try simp only [aH]);go_simp;rfl));simp only [aH,Act.put,aJ]))
   refine cV (by kernel_rfl) ?_
   go_wp2_with fail
   go_ret
   exact ⟨by rw [HF.out];rfl,HB2.out.alloc HB2.out.size _⟩
def stC (s:Stm) (A0:Option Addr) (c0:Nat) (A:Option Addr) (c:Nat) (B:Option Addr) (d:Nat):List Value:=[.int .i64 s.kind,.int .i64 s.place.loc,.slice A0 s.place.proj.length c0,.int .i64 s.rv.kind,.int .i64 s.rv.op,.int .i64 s.rv.reg,.bool s.rv.mu,.int .i64 s.rv.place.loc,.slice A s.rv.place.proj.length c,.slice B s.rv.args.length d,.int .i64 s.loc]
theorem bel3 (w:World) (x y z:Obj):Below w.heap.size w (((w.alloc x).alloc y).alloc z):=aG
theorem dK {w w1:World} {l1 l2 l3:List Value} {t1 t2 t3:TypeId} (hb:Below (((w.alloc (.cells l1.toArray t1)).alloc (.cells l2.toArray t2)).alloc (.cells l3.toArray t3)).heap.size (((w.alloc (.cells l1.toArray t1)).alloc (.cells l2.toArray t2)).alloc (.cells l3.toArray t3)) w1):
 (∀i v,l1[i]?=some v→w1.cell? ⟨w.heap.size,i,none⟩=some v)∧(∀i v,l2[i]?=some v→w1.cell? ⟨w.heap.size+1,i,none⟩=some v)∧(∀i v,l3[i]?=some v→w1.cell? ⟨w.heap.size+1+1,i,none⟩=some v):=by
 refine ⟨fun i v hi=>cell_keep hb ?_,fun i v hi=>cell_keep hb ?_,fun i v hi=>cell_keep hb ?_⟩
 ·exact cell_keep (((aV _ _).alloc (aW _) _).alloc (by simp) _) (cW w l1 t1 i v hi)
 ·have:=cW (w.alloc (.cells l1.toArray t1)) l2 t2 i v hi
  rw [bH] at this
  exact cell_keep ((aV _ _).alloc (aW _) _) this
 ·have:=cW ((w.alloc (.cells l1.toArray t1)).alloc (.cells l2.toArray t2)) l3 t3 i v hi
  simp only [bH] at this
  exact this
theorem xBR {b:Bdy} {bh:BH} {r:Nat} {w:World} (H:Ck w b bh r) (hT:TabsOk w) (s:Stm) (A0 A B:Option Addr) (c0 c d:Nat) (hp0:Slc 2 RPj w A0 c0 s.place.proj) (hp:Slc 2 RPj w A c s.rv.place.proj) (hl:Slc 4 ROp w B d s.rv.args) (hk:s.kind=0) (hloc:s.loc≠0):
 Calls Tryz.prog 79 #[.agg (ckC b bh r).toArray,.agg (stC s A0 c0 A c B d).toArray] w fun e' w'=>e' = .returned (.int .i64 (stE b s))∧Below w.heap.size w w':=by
 have HZZ:=aF fI
 have HH:=aF H
 have HT:=aF hT
 have HP0:=aF hp0
 have HP:=aF hp
 have HL:=aF hl
 have hle:=hl.le
 have hbig:=hl.big
 have hlocl:=H.at_.loc.le
 have hlocb:=H.at_.loc.big
 obtain ⟨R,hR⟩:∃R,stE b s=R:=⟨_,rfl⟩
 rw [hR]
 have HR:=aF hR
 obtain ⟨q1,hq1⟩:∃q,zeroP s.place=q:=⟨_,rfl⟩
 obtain ⟨q2,hq2⟩:∃q,(s.rv.kind == 0)=q:=⟨_,rfl⟩
 obtain ⟨q3,hq3⟩:∃q,(s.rv.op == 0)=q:=⟨_,rfl⟩
 obtain ⟨q4,hq4⟩:∃q,((s.rv.args.length:Int) == 0)=q:=⟨_,rfl⟩
 obtain ⟨q5,hq5⟩:∃q,(s.rv.reg == 0)=q:=⟨_,rfl⟩
 obtain ⟨q6,hq6⟩:∃q,s.rv.mu=q:=⟨_,rfl⟩
 obtain ⟨q7,hq7⟩:∃q,zeroP s.rv.place=q:=⟨_,rfl⟩
 have HBL:Hid (blankR s.rv=(q2 && q3 && q4 && q5 && !q6 && q7)):=aF (by
  unfold blankR
  rw [← hq2,← hq3,← hq4,← hq5,← hq6,← hq7,fA]
  rfl)
 have HQ1:=aF hq1
 have HQ7:=aF hq7
 have HQ2:=aF hq2
 have HQ3:=aF hq3
 have HQ4:=aF hq4
 have HQ5:=aF hq5
 have HQ6:=aF hq6
 clear hq1 hq2 hq3 hq4 hq5 hq7
 have HF:Hid (R=2):=aF (by rw [← HR.out,stE,aY hk,aY hloc])
 have e1:(s.loc != 0)=true:=by simp [hloc]
 clear HBL
 clear HR hR H hT hp0 hp hl
 clear hloc
 rcases (show q1=false∨(q1=true∧q2=false)∨(q1=true∧q2=true∧q3=false)∨(q1=true∧q2=true∧q3=true∧q4=false)∨(q1=true∧q2=true∧q3=true∧q4=true∧q5=false)∨(q1=true∧q2=true∧q3=true∧q4=true∧q5=true∧q6=true)∨(q1=true∧q2=true∧q3=true∧q4=true∧q5=true∧q6=false) by cases q1 <;> cases q2 <;> cases q3 <;> cases q4 <;> cases q5 <;> cases q6 <;> simp) with rfl | ⟨rfl,rfl⟩ | ⟨rfl,rfl,rfl⟩ | ⟨rfl,rfl,rfl,rfl⟩ | ⟨rfl,rfl,rfl,rfl,rfl⟩ | ⟨rfl,rfl,rfl,rfl,rfl,rfl⟩ | ⟨rfl,rfl,rfl,rfl,rfl,rfl⟩
 all_goals
  have g2:=HQ2.out
  have g3:=HQ3.out
  have g4:=HQ4.out
  have g5:=HQ5.out
  have g6:=HQ6.out
  unfold ckC at *
  unfold stC
  rw [hk]
  go_enter Tryz.func79,Tryz.ntmps79
  go_wp2_with (first | (go_at_call 124;refine (HZZ.out _ _ _ _).mono ?_;rintro e' w2 ⟨rfl,hb2⟩;rw [HQ7.out];have HB2:=aF (HB.out.trans (hb2.mono HB.out.size));have HY2:=aF (cells_kept HY.out hb2);have HZ3:=aF (cells_kept HZ.out hb2);have HU2:=aF (cells_kept HU.out hb2);clear y0 y1 y2 y3 y4 y5 y6 y7 z0 z1 z2 z10 u0 u1 u2 u3 u4 u5 u6 HY HZ HU HB;have HB:=HB2;have HY:=HY2;have HZ:=HZ3;have HU:=HU2;obtain ⟨y0,y1,y2,y3,y4,y5,y6,y7⟩:=aR HY.out;obtain ⟨z0,z1,z2,-,-,-,-,-,-,-,z10⟩:=aU HZ.out;obtain ⟨u0,u1,u2,u3,u4,u5,u6⟩:=aQ HU.out;clear hb2 HB2 HY2 HZ3 HU2) | (go_at_call 124;refine (HZZ.out _ _ _ _).mono ?_;rintro e' w1 ⟨rfl,hb1⟩;rw [HQ1.out];have HB:=aF ((bel3 _ _ _ _).trans (hb1.mono (bel3 _ _ _ _).size));obtain ⟨y,z,u⟩:=dK hb1;have HY:=aF y;have HZ:=aF z;have HU:=aF u;obtain ⟨y0,y1,y2,y3,y4,y5,y6,y7⟩:=aR HY.out;obtain ⟨z0,z1,z2,-,-,-,-,-,-,-,z10⟩:=aU HZ.out;obtain ⟨u0,u1,u2,u3,u4,u5,u6⟩:=aQ HU.out;clear y z u hb1))
  all_goals first
   | (exfalso;omega)
   | (go_ret;exact ⟨by rw [HF.out];rfl,by first | exact HBW2.out | exact HBW.out | exact HB.out⟩)
theorem xBO {b:Bdy} {bh:BH} {r:Nat} {w:World} (H:Ck w b bh r) (hT:TabsOk w) (s:Stm) (A0 A B:Option Addr) (c0 c d:Nat) (hp0:Slc 2 RPj w A0 c0 s.place.proj) (hp:Slc 2 RPj w A c s.rv.place.proj) (hl:Slc 4 ROp w B d s.rv.args) (hk:s.kind=0) (hloc:s.loc=0) (hw:writE b s.place≠0):
 Calls Tryz.prog 79 #[.agg (ckC b bh r).toArray,.agg (stC s A0 c0 A c B d).toArray] w fun e' w'=>e' = .returned (.int .i64 (stE b s))∧Below w.heap.size w w':=by
 have HZZ:=aF fI
 have HH:=aF H
 have HT:=aF hT
 have HP0:=aF hp0
 have HP:=aF hp
 have HL:=aF hl
 have hle:=hl.le
 have hbig:=hl.big
 have hlocl:=H.at_.loc.le
 have hlocb:=H.at_.loc.big
 obtain ⟨R,hR⟩:∃R,stE b s=R:=⟨_,rfl⟩
 rw [hR]
 have HR:=aF hR
 obtain ⟨q1,hq1⟩:∃q,zeroP s.place=q:=⟨_,rfl⟩
 obtain ⟨q2,hq2⟩:∃q,(s.rv.kind == 0)=q:=⟨_,rfl⟩
 obtain ⟨q3,hq3⟩:∃q,(s.rv.op == 0)=q:=⟨_,rfl⟩
 obtain ⟨q4,hq4⟩:∃q,((s.rv.args.length:Int) == 0)=q:=⟨_,rfl⟩
 obtain ⟨q5,hq5⟩:∃q,(s.rv.reg == 0)=q:=⟨_,rfl⟩
 obtain ⟨q6,hq6⟩:∃q,s.rv.mu=q:=⟨_,rfl⟩
 obtain ⟨q7,hq7⟩:∃q,zeroP s.rv.place=q:=⟨_,rfl⟩
 have HBL:Hid (blankR s.rv=(q2 && q3 && q4 && q5 && !q6 && q7)):=aF (by
  unfold blankR
  rw [← hq2,← hq3,← hq4,← hq5,← hq6,← hq7,fA]
  rfl)
 have HQ1:=aF hq1
 have HQ7:=aF hq7
 have HQ2:=aF hq2
 have HQ3:=aF hq3
 have HQ4:=aF hq4
 have HQ5:=aF hq5
 have HQ6:=aF hq6
 clear hq1 hq2 hq3 hq4 hq5 hq7
 have HF:Hid (R=writE b s.place):=aF (by rw [← HR.out,stE,aY hk,aX (by simp [hloc]),aY hw])
 have e1:(s.loc != 0)=false:=by simp [hloc]
 have HW:=aF (fun (W:World) (hb:Below w.heap.size w W)=>gM b bh r s.place A0 c0 W (HH.out.keep hb).at_ (HP0.out.keep RPj.keeps hb) HH.out.ok.okay)
 generalize writE b s.place=we at HF HW hw
 have e2:(we != 0)=true:=by simp [hw]
 clear HBL hloc hw
 clear HR hR H hT hp0 hp hl
 rcases (show q1=false∨(q1=true∧q2=false)∨(q1=true∧q2=true∧q3=false)∨(q1=true∧q2=true∧q3=true∧q4=false)∨(q1=true∧q2=true∧q3=true∧q4=true∧q5=false)∨(q1=true∧q2=true∧q3=true∧q4=true∧q5=true∧q6=true)∨(q1=true∧q2=true∧q3=true∧q4=true∧q5=true∧q6=false) by cases q1 <;> cases q2 <;> cases q3 <;> cases q4 <;> cases q5 <;> cases q6 <;> simp) with rfl | ⟨rfl,rfl⟩ | ⟨rfl,rfl,rfl⟩ | ⟨rfl,rfl,rfl,rfl⟩ | ⟨rfl,rfl,rfl,rfl,rfl⟩ | ⟨rfl,rfl,rfl,rfl,rfl,rfl⟩ | ⟨rfl,rfl,rfl,rfl,rfl,rfl⟩
 all_goals
  have g2:=HQ2.out
  have g3:=HQ3.out
  have g4:=HQ4.out
  have g5:=HQ5.out
  have g6:=HQ6.out
  unfold ckC at *
  unfold stC
  rw [hk]
  go_enter Tryz.func79,Tryz.ntmps79
  go_wp2_with (first | (go_at_call 124;refine (HZZ.out _ _ _ _).mono ?_;rintro e' w2 ⟨rfl,hb2⟩;rw [HQ7.out];have HB2:=aF (HB.out.trans (hb2.mono HB.out.size));have HY2:=aF (cells_kept HY.out hb2);have HZ3:=aF (cells_kept HZ.out hb2);have HU2:=aF (cells_kept HU.out hb2);clear y0 y1 y2 y3 y4 y5 y6 y7 z0 z1 z2 z10 u0 u1 u2 u3 u4 u5 u6 HY HZ HU HB;have HB:=HB2;have HY:=HY2;have HZ:=HZ3;have HU:=HU2;obtain ⟨y0,y1,y2,y3,y4,y5,y6,y7⟩:=aR HY.out;obtain ⟨z0,z1,z2,-,-,-,-,-,-,-,z10⟩:=aU HZ.out;obtain ⟨u0,u1,u2,u3,u4,u5,u6⟩:=aQ HU.out;clear hb2 HB2 HY2 HZ3 HU2) | (go_at_call 124;refine (HZZ.out _ _ _ _).mono ?_;rintro e' w1 ⟨rfl,hb1⟩;rw [HQ1.out];have HB:=aF ((bel3 _ _ _ _).trans (hb1.mono (bel3 _ _ _ _).size));obtain ⟨y,z,u⟩:=dK hb1;have HY:=aF y;have HZ:=aF z;have HU:=aF u;obtain ⟨y0,y1,y2,y3,y4,y5,y6,y7⟩:=aR HY.out;obtain ⟨z0,z1,z2,-,-,-,-,-,-,-,z10⟩:=aU HZ.out;obtain ⟨u0,u1,u2,u3,u4,u5,u6⟩:=aQ HU.out;clear y z u hb1) | (go_at_call 125;refine (HW.out _ HB.out).mono ?_;rintro e' w3 ⟨rfl,hb3⟩;have HBW:=aF (HB.out.trans (hb3.mono HB.out.size));have HY3:=aF (cells_kept HY.out hb3);have HU3:=aF (cells_kept HU.out hb3);clear y0 y1 y2 y3 y4 y5 y6 y7 u0 u1 u2 u3 u4 u5 u6;obtain ⟨y0,y1,y2,y3,y4,y5,y6,y7⟩:=aR HY3.out;obtain ⟨u0,u1,u2,u3,u4,u5,u6⟩:=aQ HU3.out;clear hb3))
  all_goals first
   | (exfalso;omega)
   | (go_ret;exact ⟨by rw [HF.out];rfl,by first | exact HBW2.out | exact HBW.out | exact HB.out⟩)
theorem tD {b:Bdy} {bh:BH} {r:Nat} {w:World} (H:Ck w b bh r) (t:Trm) (A B C:Option Addr) (c d f:Nat) (ht:Slc 1 RInt w A c t.targets) (hl:Slc 4 ROp w B d t.args) (hp:Slc 2 RPj w C f t.place.proj) (hk:(t.kind<0∨5<t.kind)∨(¬(t.kind<0∨5<t.kind)∧fieldsT t=false)):
 Calls Tryz.prog 80 #[.agg (ckC b bh r).toArray,.agg (tmC t A c B d C f).toArray] w fun e' w'=>e' = .returned (.int .i64 (tmE b t))∧Below w.heap.size w w':=by
 have HFD:=aF (fun W=>gC t A B C c d f W)
 have HH:=aF H
 have HTG:=aF ht
 have HL:=aF hl
 have HP:=aF hp
 have hle:=hl.le
 have hbig:=hl.big
 have hle2:=ht.le
 have hbig2:=ht.big
 have hblkl:=H.at_.blk.le
 have hblkb:=H.at_.blk.big
 obtain ⟨R,hR⟩:∃R,tmE b t=R:=⟨_,rfl⟩
 rw [hR]
 have HR:=aF hR
 clear hR H ht hl hp
 rcases hk with h0 | ⟨h0,hfd⟩
 ·have HF:Hid (R=14):=aF (by rw [← HR.out,tmE,aY h0])
  clear HR HFD
  unfold ckC tmC
  go_enter Tryz.func80,Tryz.ntmps80
  go_wp2_with fail
  all_goals first
   | (exfalso;omega)
   | (go_ret;exact ⟨by rw [HF.out];rfl,aG⟩)
 ·have HF:Hid (R=2):=aF (by rw [← HR.out,tmE,aX h0,aY hfd])
  rw [hfd] at HFD
  clear HR hfd
  unfold ckC
  unfold tmC at *
  go_enter Tryz.func80,Tryz.ntmps80
  go_wp2_with (go_at_call 127;refine (HFD.out _).mono ?_;rintro e' w1 ⟨rfl,hb1⟩;have HB:=aF ((bel2 _ _ _).trans (hb1.mono (bel2 _ _ _).size));obtain ⟨y,z⟩:=cR hb1;have HY:=aF y;have HZ:=aF z;obtain ⟨y0,y1,y2,y3,y4,y5,y6,y7⟩:=aR HY.out;obtain ⟨z0,z1,z2,z3,z4,z5⟩:=aP HZ.out;clear y z hb1)
  all_goals first
   | (exfalso;omega)
   | (go_ret;exact ⟨by rw [HF.out];rfl,HB.out⟩)
end
section
open Go Go.RowKit
theorem gL (w:World) (l m k:List Value) (t1 t2 t3:TypeId):(∀i v,l[i]?=some v→(((w.alloc (.cells l.toArray t1)).alloc (.cells m.toArray t2)).alloc (.cells k.toArray t3)).drew.cell? ⟨w.heap.size,i,none⟩=some v)∧(∀i v,m[i]?=some v→(((w.alloc (.cells l.toArray t1)).alloc (.cells m.toArray t2)).alloc (.cells k.toArray t3)).drew.cell? ⟨w.heap.size+1,i,none⟩=some v)∧(∀i v,k[i]?=some v→(((w.alloc (.cells l.toArray t1)).alloc (.cells m.toArray t2)).alloc (.cells k.toArray t3)).drew.cell? ⟨w.heap.size+1+1,i,none⟩=some v)∧Below w.heap.size w (((w.alloc (.cells l.toArray t1)).alloc (.cells m.toArray t2)).alloc (.cells k.toArray t3)).drew:=
 ⟨(dK (aV _ _)).1,(dK (aV _ _)).2.1,(dK (aV _ _)).2.2,Below.drew (bel3 _ _ _ _)⟩
end
end Go.Proofs.YtbnljlpefpllcaaGreatDoor
