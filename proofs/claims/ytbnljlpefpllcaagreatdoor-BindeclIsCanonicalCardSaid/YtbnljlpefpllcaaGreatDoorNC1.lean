/-
  BindeclIsCanonical: a statement of Bindecl (part 1)
-/
import Derived.Test.YtbnljlpefpllcaaGreatDoorME0
import Derived.Test.YtbnljlpefpllcaaGreatDoorME1
import Derived.Test.YtbnljlpefpllcaaGreatDoorME2
import Derived.Test.YtbnljlpefpllcaaGreatDoorME3
import Derived.Test.YtbnljlpefpllcaaGreatDoorME4
import Derived.Test.YtbnljlpefpllcaaGreatDoorME5
import Derived.Test.YtbnljlpefpllcaaGreatDoorME6
import Derived.Test.YtbnljlpefpllcaaGreatDoorME7
import Derived.Test.YtbnljlpefpllcaaGreatDoorME9
import Derived.Test.YtbnljlpefpllcaaGreatDoorME10
import Derived.Test.YtbnljlpefpllcaaGreatDoorME11
import Derived.Test.YtbnljlpefpllcaaGreatDoorME12
import Derived.Test.YtbnljlpefpllcaaGreatDoorME14
import Derived.Test.YtbnljlpefpllcaaGreatDoorME15
import Derived.Test.YtbnljlpefpllcaaGreatDoorME16
import Derived.Test.YtbnljlpefpllcaaGreatDoorME17
import Derived.Test.YtbnljlpefpllcaaGreatDoorME18
import Derived.Test.YtbnljlpefpllcaaGreatDoorME20
import Derived.Test.YtbnljlpefpllcaaGreatDoorME24
import Derived.Test.YtbnljlpefpllcaaGreatDoorME25
import Derived.Lib.Hide
import Derived.Below
import Derived.WalkSmall
import Derived.Laws.World
import Derived.Test.YtbnljlpefpllcaaGreatDoorProg
import Derived.WalkKit
import Derived.WalkSpells
import Derived.WalkLawsBesides
import Derived.Deep.RegionHeld3
import Derived.Deep.DeepFit
import Derived.Deep.QuietTactic
import Derived.BigQuiet
import Derived.OwnWalk
import Derived.Maps.AppendAt
import Derived.Deep.DeepCutAuto
import Derived.StillTailTactics
import Derived.RangeFuncNested
import Derived.RangeFuncBound
import Derived.RangeFuncCalls
import Derived.RangeFuncLeaves
import Derived.OwnWalkIn
import Derived.TacticsInMore
import Derived.LoopNIn
import Derived.LoopIn
import Derived.Laws.Bits64b
import Derived.Shelf.Abstract
import Derived.OrdersHeld
import Derived.Deep.RegionHeld
import Derived.Lib.SliceRun
import Derived.Test.YtbnljlpefpllcaaGreatDoorSg
import Derived.Deep.AppendSrc
import Derived.Maps.OwnSet
import Derived.Maps.OwnOps
import Derived.StringKeys
import Derived.Laws.MathBits
import Derived.Test.YtbnljlpefpllcaaGreatDoorSh
import Derived.WideKeyPair
import Derived.WideKeyArr
import Derived.Deep.MidRow
import Derived.Deep.LoopGhost
import Derived.Lib.SlicesCompact
import Derived.Sort.Walk0
import Derived.Sort.OwnSorted
import Derived.Test.YtbnljlpefpllcaaGreatDoorRows
import Derived.ProofKit
import Derived.Deep.Slices
import Derived.Deep.Fields
import Derived.Lib.SmallJoins
import Derived.OpenShut
import Derived.LaidMore
import Derived.Stop.Joined
import Derived.Stop.LaidErr
import Derived.Lay
import Derived.SevenTiedAt
import Derived.ChangeKeysEq
import Derived.Deep.CutBlock
import Derived.Test.YtbnljlpefpllcaaGreatDoorTie
import Derived.Test.YtbnljlpefpllcaaGreatDoorCards
import Derived.SizedLaws
namespace Go.Proofs.YtbnljlpefpllcaaGreatDoor
set_option maxRecDepth 100000
set_option maxHeartbeats 16000000
section
open Go Go.RowKit
theorem cL : type_of% @List.mem_append := @List.mem_append
end
section
open Go Go.RowKit
theorem pow7 (k:Nat):2 ^ (7 * (k+1))=128 * 2 ^ (7 * k):=by rw [show 7 * (k+1)=7+7 * k by omega,Nat.pow_add]
end
section
open Go Go.RowKit
theorem xIO (l:List ByteArray) (x:ByteArray):x∈tabB [] l↔x∈l:=by
 have h:=tE (bl x) (l.map bl) []
 rw [show ([]:List (List UInt8))=([]:List ByteArray).map bl from rfl,← rI] at h
 simp only [List.mem_map,cM,List.not_mem_nil,false_or] at h
 constructor
 ·intro hx
  obtain ⟨y,hy,e⟩:=h.1 ⟨x,hx,rfl⟩
  exact xEK e ▸ hy
 ·intro hx
  obtain ⟨y,hy,e⟩:=h.2 ⟨x,hx,rfl⟩
  exact xEK e ▸ hy
def Can {α : Type} (f:Rs→ α × Rs) (g : α → List UInt8):Prop:=∀s,(f s).2.err=0→s.err=0∧s.rest=g (f s).1 ++ (f s).2.rest
theorem xHW:∀(l:List UInt8) (k m f v j:Nat),k≤9→9≤f+k→getG k m l=(v,j,0)→∃n r,v=m+n * 2 ^ (7 * k)∧(0<k→0<n)∧l=putF f n ++ r∧j=k+(putF f n).length
 | [],k,m,f,v,j,_,_,h=>by simp [uH] at h
 | c :: r,k,m,f,v,j,hk,hf,h=>by
   rw [gT] at h
   by_cases h1:k=9∧1<c.toNat
   ·rw [aY h1] at h;simp at h
   rw [aX h1] at h
   by_cases h2:c.toNat<128
   ·rw [aY h2] at h
    by_cases h3:0<k∧c.toNat=0
    ·rw [aY h3] at h;simp at h
    rw [aX h3] at h
    simp only [Prod.mk.injEq,and_true] at h
    refine ⟨c.toNat,r,h.1.symm,fun h0=>by omega,?_,?_⟩
    ·rw [jW h2];simp
    ·rw [jW h2];simp [h.2]
   ·rw [aX h2] at h
    have hk9:k<9:=by
     rcases Nat.lt_or_ge k 9 with e | e
     ·exact e
     ·exact absurd ⟨by omega,by omega⟩ h1
    cases f with
    | zero=>omega
    | succ f=>
      obtain ⟨n,r',e1,e2,e3,e4⟩:=xHW r (k+1) _ f v j (by omega) (by omega) h
      have hn:=e2 (by omega)
      have hc:c.toNat<256:=c.toNat_lt
      have hm:(c.toNat - 128+128 * n) % 128+128=c.toNat:=by omega
      have hd:(c.toNat - 128+128 * n) / 128=n:=by omega
      refine ⟨c.toNat - 128+128 * n,r',?_,fun _=>by omega,?_,?_⟩
      ·rw [e1,pow7,Nat.add_mul,Nat.mul_comm 128 n,← Nat.mul_assoc,Nat.add_assoc]
      ·rw [tQ (by omega),hm,hd,List.cons_append,← e3];simp
      ·rw [tQ (by omega),hd,e4,bJ];omega
theorem xHV {l:List UInt8} {v j:Nat} (h:getL l=(v,j,0)):l=putL v ++ l.drop j:=by
 obtain ⟨n,r,e1,_,e3,e4⟩:=xHW l 0 0 10 v j (by omega) (by omega) h
 have:v=n:=by simpa using e1
 subst this
 have:j=(putF 10 v).length:=by omega
 subst this
 conv=>lhs;rw [e3]
 rw [e3,List.drop_left]
 rfl
theorem xID (most:Nat) (s:Rs) (h:(uintS most s).2.err=0):s.err=0∧(uintS most s).1≤most∧s.rest=putL (uintS most s).1 ++ (uintS most s).2.rest:=by
 unfold uintS at h ⊢
 by_cases h0:s.err=0
 ·rw [aY h0] at h ⊢
  by_cases h1:(getL s.rest).2.2=0
  ·rw [aY h1] at h ⊢
   by_cases h2:most<(getL s.rest).1
   ·rw [aY h2] at h;simp at h
   ·rw [aX h2] at h ⊢
    refine ⟨h0,by simp only;omega,?_⟩
    exact xHV (v:=(getL s.rest).1) (j:=(getL s.rest).2.1) (by rw [← h1])
  ·rw [aX h1] at h
   exact absurd h h1
 ·rw [aX h0] at h
  exact absurd h h0
theorem xHU:Can numS putI:=fun s h=>by
 obtain ⟨h0,_,h2⟩:=xID 65535 s h
 exact ⟨h0,by unfold numS putI;simpa using h2⟩
theorem xHX {t:List ByteArray} (hn:t.Nodup):Can (nameS t) (nameW t):=fun s h=>by
 unfold nameS at h ⊢
 by_cases h0:(uintS 65535 s).2.err=0
 ·obtain ⟨a,_,b⟩:=xID 65535 s h0
  rw [aY h0] at h ⊢
  cases hg:t[(uintS 65535 s).1]? with
  | none=>rw [hg] at h;simp at h
  | some x=>
    rw [hg] at h
    refine ⟨a,?_⟩
    show s.rest=nameW t x ++ (uintS 65535 s).2.rest
    have hw:nameW t x=putL (uintS 65535 s).1:=by
     unfold nameW putI
     rw [xGF hn _ 0 x hg]
     congr 1
     omega
    rw [hw]
    exact b
 ·rw [aX h0] at h
  exact absurd h h0
theorem xIE:Can pairS pairW:=fun s h=>by
 obtain ⟨a,b⟩:=xHU (numS s).2 h
 obtain ⟨c,d⟩:=xHU s a
 refine ⟨c,?_⟩
 rw [d,b]
 simp [pairS,pairW]
theorem xIB {α : Type} {f:Rs→ α × Rs} {g : α → List UInt8} (hf:Can f g):∀n s,s.err=0→(itemsS f n s).2.err=0→(itemsS f n s).1.length=n∧s.rest=(itemsS f n s).1.flatMap g ++ (itemsS f n s).2.rest
 | 0,_,_,_=>⟨rfl,rfl⟩
 | n+1,s,h0,h=>by
   unfold itemsS at h ⊢
   by_cases h1:(f s).2.err=0
   ·rw [aY h1] at h ⊢
    obtain ⟨a,b⟩:=hf s h1
    obtain ⟨c,d⟩:=xIB hf n (f s).2 h1 h
    refine ⟨by simp [c],?_⟩
    simp only [List.flatMap_cons,bK]
    rw [← d]
    exact b
   ·rw [aX h1] at h
    exact absurd h h1
theorem xIL (most:Nat) (s:Rs) (h:(countS most s).2.err=0):s.err=0∧(countS most s).1≤most∧s.rest=putL (countS most s).1 ++ (countS most s).2.rest:=by
 unfold countS at h ⊢
 by_cases h0:s.err=0
 ·rw [aY h0] at h ⊢
  by_cases h1:(getL s.rest).2.2=0
  ·rw [aY h1] at h ⊢
   by_cases h2:most<(getL s.rest).1
   ·rw [aY h2] at h;simp at h
   ·rw [aX h2] at h ⊢
    split at h
    ·simp at h
    ·rename_i h3
     rw [aX h3]
     refine ⟨h0,by simp only;omega,?_⟩
     exact xHV (v:=(getL s.rest).1) (j:=(getL s.rest).2.1) (by rw [← h1])
  ·rw [aX h1] at h
   exact absurd h h1
 ·rw [aX h0] at h
  exact absurd h h0
theorem xHT {α : Type} {f:Rs→ α × Rs} {g : α → List UInt8} (hs:Stay f) (hf:Can f g):Can (listS f) (listW g):=fun s h=>by
 by_cases hc:(countS 65535 s).2.err=0
 ·obtain ⟨a,_,b⟩:=xIL 65535 s hc
  obtain ⟨c,d⟩:=xIB hf _ _ hc h
  refine ⟨a,?_⟩
  unfold listS listW
  rw [c,b,d,bK]
 ·have:=wI hs (countS 65535 s).1 _ hc
  unfold listS at h
  rw [this] at h
  exact absurd h hc
theorem xIS (s:Rs) (h:(byteS s).2.err=0):s.err=0∧∃c:UInt8,(byteS s).1=c.toNat∧s.rest=c :: (byteS s).2.rest:=by
 unfold byteS at h ⊢
 by_cases h0:s.err=0
 ·rw [aY h0] at h ⊢
  cases hr:s.rest with
  | nil=>rw [hr] at h;simp at h
  | cons c r=>exact ⟨h0,c,rfl,rfl⟩
 ·rw [aX h0] at h
  exact absurd h h0
theorem xIN:Can typeS typeW:=fun s h=>by
 unfold typeS at h ⊢
 by_cases h0:(byteS s).2.err=0
 ·obtain ⟨a,c,hc,hr⟩:=xIS s h0
  rw [aY h0] at h ⊢
  have hc8:c.toNat<256:=c.toNat_lt
  have hcc:∀k:Nat,c.toNat=k→c=k.toUInt8:=fun k e=>by rw [← e];simp
  by_cases h1:(byteS s).1=3∨(byteS s).1=5
  ·rw [aY h1] at h ⊢
   obtain ⟨d,e⟩:=xIE _ h
   refine ⟨a,?_⟩
   rw [hr,e]
   rw [hc] at h1
   rcases h1 with h1 | h1
   ·have:=hcc 3 h1
    subst this
    simp [typeW,pairW,hc]
   ·have:=hcc 5 h1
    subst this
    simp [typeW,pairW,hc]
  ·rw [aX h1] at h ⊢
   by_cases h2:(byteS s).1=4
   ·rw [aY h2] at h ⊢
    obtain ⟨d,e⟩:=xHT kF xHU _ h
    refine ⟨a,?_⟩
    rw [hr,e]
    rw [hc] at h2
    have:=hcc 4 h2
    subst this
    simp [typeW]
   ·rw [aX h2] at h ⊢
    by_cases h3:5<(byteS s).1
    ·rw [aY h3] at h;simp at h
    ·rw [aX h3] at h ⊢
     refine ⟨a,?_⟩
     rw [hr]
     have e:typeW ⟨((byteS s).1:Int),false,0,0,[]⟩=[c]:=by
      unfold typeW
      rw [aX (by simp only;omega),aX (by simp only;omega),hc]
      simp
     rw [e];rfl
 ·rw [aX h0] at h
  exact absurd h h0
theorem xII {t:List ByteArray} (hn:t.Nodup):Can (localS t) (localW t):=fun s h=>by
 obtain ⟨a,b⟩:=xHU (nameS t s).2 h
 obtain ⟨c,d⟩:=xHX hn s a
 refine ⟨c,?_⟩
 rw [d,b]
 simp [localS,localW]
theorem xIV {t:List ByteArray} (hn:t.Nodup) {data:List UInt8} {b:Bdy} (h:decS t data=(b,0)):declW t b=data:=by
 unfold decS at h
 by_cases h0:endS (bodyS t ⟨data,0⟩).2=0
 ·rw [aY h0] at h
  have hb:(bodyS t ⟨data,0⟩).1=b:=by simpa using h
  subst hb
  unfold endS at h0
  by_cases h1:(bodyS t ⟨data,0⟩).2.err=0
  ·rw [aY h1] at h0
   have hr:(bodyS t ⟨data,0⟩).2.rest=[]:=by
    by_cases h2:0<(bodyS t ⟨data,0⟩).2.rest.length
    ·rw [aY h2] at h0;cases h0
    ·exact List.length_eq_zero_iff.1 (by omega)
   unfold bodyS at h1 hr ⊢
   simp only at h1 hr ⊢
   obtain ⟨a1,b1⟩:=xHU _ h1
   obtain ⟨a2,b2⟩:=xHT (wF t) (xII hn) _ a1
   obtain ⟨a3,b3⟩:=xHT xB xIN _ a2
   obtain ⟨a4,b4⟩:=xHT yR xIE _ a3
   obtain ⟨a5,b5⟩:=xHT (qP t) (xHX hn) _ a4
   obtain ⟨a6,b6⟩:=xHX hn _ a5
   simp only at b6
   unfold declW
   simp only
   conv=>rhs;rw [b6,b5,b4,b3,b2,b1,hr]
   simp
  ·rw [aX h1] at h0
   exact absurd h0 h1
 ·rw [aX h0] at h
  simp only [Prod.mk.injEq] at h
  exact absurd h.2 h0
end
section
open Go Go.ChangeShapes Go.WideShapes Go.ChangeAt Go.RowKit Go.Joins Go.Deep
variable {H:Type} {enc:TypeId × Value→H} {w:World} {base:Nat} {spare:Nat→Bool} {held:Bool}
theorem xIQ {r:Reach} {b0:Nat} {v:Value} {d:DataW H} {p:List MemPlace} (hv:Value.okWide Tryz.prog w r b0 34 v) (h:DataW.Trod enc Tryz.prog w base spare held 34 v d p):
 ∃(A:Option Addr) (c:Nat) (xs:List UInt8),v = .slice A xs.length c∧Slc 1 RB w A c xs:=by
 obtain ⟨a0,len,cap,rfl⟩:=okWide_slice Tryz.underlying34 hv
 obtain ⟨fuel,hf⟩:=h
 obtain ⟨A,c,xs,hts,hs⟩:=sI (R:=RB) (k:=1) Tryz.underlying34 (by kernel_rfl) (by omega) hf (fun b o m cs' y hl' hc ht=>by
  obtain ⟨k0,q0,_,hw⟩:=DataW.trod_int (k:= .u8) Tryz.underlying5 ht
  subst q0
  have hb:0≤k0∧k0≤255:=by
   simp [Lit.wf,IntKind.min,IntKind.max,IntKind.signed,IntKind.bits] at hw
   omega
  refine ⟨UInt8.ofNat k0.toNat,?_⟩
  have hz:((UInt8.ofNat k0.toNat).toNat:Int)=k0:=by
   rw [UInt8.toNat_ofNat']
   omega
  show w.cell? ⟨b,o,none⟩=some (.int .u8 ((UInt8.ofNat k0.toNat).toNat:Int))
  rw [hz]
  exact hc 0 (by omega))
 have hvv:Value.slice a0 len cap = .slice A xs.length c:=by simpa [Value.cells] using hts
 exact ⟨A,c,xs,hvv,hs⟩
end
section
open Go Go.RowKit
theorem xIT (a b:Int) (w:World):Sem.run Tryz.prog (binOp .neq 79 (.agg #[.int .i64 a,.int .i64 b]) (.agg #[.int .i64 a,.int .i64 b])) w = .ok (.bool false) w:=by
 have u3:=Tryz.underlying3
 have a3:=Tryz.isAgg3
 have z3:=Tryz.sizeOf3
 obtain ⟨i0,hi,hz0,hz1,hz2⟩:=info_parts eE
 rw [run_neq_struct,show (10000:Nat)=9999+1 from rfl,run_equalIn_array w 9999 _ _ Tryz.underlying79 hi]
 have hc:Tryz.prog.cellsOf 3=1:=by kernel_rfl
 rw [hc]
 simp [Op.eqItems,List.range_succ,go_sem,part]
theorem xIX (a:ByteArray) (b:Int) (w:World):Sem.run Tryz.prog (binOp .neq 87 (.agg #[.string a,.int .i64 b]) (.agg #[.string a,.int .i64 b])) w = .ok (.bool false) w:=by
 have u3:=Tryz.underlying3
 have a3:=Tryz.isAgg3
 have z3:=Tryz.sizeOf3
 have u9:=Tryz.underlying9
 have a9:=Tryz.isAgg9
 have z9:=Tryz.sizeOf9
 have hS:Tryz.prog.underlying 87=some (.struct (Tryz.prog.fieldsOf 87)):=by kernel_rfl
 have hp:Tryz.prog.stoodInHeld 87=false:=by kernel_rfl
 rw [run_neq_struct,show (10000:Nat)=9999+1 from rfl,run_equalIn_agg w 9999 87 _ _ hS hp]
 simp only [Program.fieldsOf,Tryz.underlying87]
 go_simp
theorem xIP (xs:List ByteArray) (A B:Option Addr) (c d:Nat) (w:World) (hs:Slc 1 RN w A c xs) (ht:Slc 1 RN w B d xs):
 Calls Tryz.prog 57 #[.slice A xs.length c,.slice B xs.length d] w fun e' w'=>e' = .returned (.bool true)∧Below w.heap.size w w':=by
 have hle:=hs.le
 have hbg:=hs.big
 have hle2:=ht.le
 have hbg2:=ht.big
 have HS:=aF hs
 have HT:=aF ht
 have neqPr:=xIT
 clear hs ht
 go_enter Tryz.func57,Tryz.ntmps57
 go_wp2_with fail
 go_loopw [5] (fun v wr=>∃i:Nat,i≤xs.length∧v = .int .i64 i∧Hid (Below w.heap.size w wr)) (fun v _=>xs.length - (intOf v).toNat)
 case atStart=>exact ⟨0,by omega,rfl,aF (aV _ _)⟩
 case round=>
  obtain ⟨i,hi,rfl,HB⟩:=hrel
  by_cases hlt:i<xs.length
  ·obtain ⟨b,o,rfl,hb,y⟩:=(HS.out.keep RN.keeps HB.out).sl.at_ hlt
   obtain ⟨b2,o2,rfl,hb2,z⟩:=(HT.out.keep RN.keeps HB.out).sl.at_ hlt
   generalize xs[i]=x at *
   have p0:wr.cell? ⟨b,o+i,none⟩=some (.string x):=by simpa [RN] using y
   have q0:wr.cell? ⟨b2,o2+i,none⟩=some (.string x):=by simpa [RN] using z
   clear y z
   go_wp2_with fail
   go_quiet (fail)
   go_wp2_with fail
   go_roundw
   case rel=>exact ⟨i+1,by omega,by go_num,aF (bA HB.out _)⟩
   case measure=>simp [intOf];omega
  ·go_wp2_with fail
   go_ret
   exact ⟨rfl,HB.out⟩
theorem xIF (xs:List (Int × Int)) (A B:Option Addr) (c d:Nat) (w:World) (hs:Slc 2 RPr w A c xs) (ht:Slc 2 RPr w B d xs):
 Calls Tryz.prog 58 #[.slice A xs.length c,.slice B xs.length d] w fun e' w'=>e' = .returned (.bool true)∧Below w.heap.size w w':=by
 have hle:=hs.le
 have hbg:=hs.big
 have hle2:=ht.le
 have hbg2:=ht.big
 have HS:=aF hs
 have HT:=aF ht
 have neqPr:=xIT
 clear hs ht
 go_enter Tryz.func58,Tryz.ntmps58
 go_wp2_with fail
 go_loopw [5] (fun v wr=>∃i:Nat,i≤xs.length∧v = .int .i64 i∧Hid (Below w.heap.size w wr)) (fun v _=>xs.length - (intOf v).toNat)
 case atStart=>exact ⟨0,by omega,rfl,aF (aV _ _)⟩
 case round=>
  obtain ⟨i,hi,rfl,HB⟩:=hrel
  by_cases hlt:i<xs.length
  ·obtain ⟨b,o,rfl,hb,y⟩:=(HS.out.keep RPr.keeps HB.out).sl.at_ hlt
   obtain ⟨b2,o2,rfl,hb2,z⟩:=(HT.out.keep RPr.keeps HB.out).sl.at_ hlt
   generalize xs[i]=x at *
   have p0:wr.cell? ⟨b,o+i * 2,none⟩=some (.int .i64 x.1):=y.1
   have p1:wr.cell? ⟨b,o+i * 2+1,none⟩=some (.int .i64 x.2):=y.2
   have q0:wr.cell? ⟨b2,o2+i * 2,none⟩=some (.int .i64 x.1):=z.1
   have q1:wr.cell? ⟨b2,o2+i * 2+1,none⟩=some (.int .i64 x.2):=z.2
   clear y z
   go_wp2_with fail
   go_quiet (fail)
   go_wp2_with fail
   go_roundw
   case rel=>exact ⟨i+1,by omega,by go_num,aF (bA HB.out _)⟩
   case measure=>simp [intOf];omega
  ·go_wp2_with fail
   go_ret
   exact ⟨rfl,HB.out⟩
end
section
open Go Go.RowKit
theorem xIH (b:Bdy) (h1 h2:BH) (w:World) (hb:b.blocks=[]) (H1:BdAt w b h1) (H2:BdAt w b h2):
 Calls Tryz.prog 16 #[.agg (bdC b h1).toArray,.agg (bdC b h2).toArray] w fun e' w'=>e' = .returned (.bool true)∧Below w.heap.size w w':=by
 obtain ⟨A1,a1,A2,a2,A3,a3,A4,a4,A5,a5⟩:=h1
 obtain ⟨B1,b1,B2,b2,B3,b3,B4,b4,B5,b5⟩:=h2
 obtain ⟨p1,p2,p3,p4,p5⟩:=H1
 obtain ⟨q1,q2,q3,q4,q5⟩:=H2
 obtain ⟨nm,rg,ot,ts,ls,ar,bk⟩:=b
 simp only at *
 subst hb
 obtain ⟨W,hW⟩:∃W,(w.alloc (.cells #[.string nm,.slice A1 rg.length a1,.slice A2 ot.length a2,.slice A3 ts.length a3,.slice A4 ls.length a4,.int .i64 ar,.slice A5 0 a5] 28)).alloc (.cells #[.string nm,.slice B1 rg.length b1,.slice B2 ot.length b2,.slice B3 ts.length b3,.slice B4 ls.length b4,.int .i64 ar,.slice B5 0 b5] 28)=W:=⟨_,rfl⟩
 have hB:Below w.heap.size w W:=by rw [← hW];exact ((aV _ _).alloc (aW _) _).alloc (by simp) _
 have k1:W.heap[w.heap.size]?=some (.cells #[.string nm,.slice A1 rg.length a1,.slice A2 ot.length a2,.slice A3 ts.length a3,.slice A4 ls.length a4,.int .i64 ar,.slice A5 0 a5] 28 (0,0)):=by rw [← hW,Below.heap_alloc _ _ _ (by simp)];exact heap_alloc_new w _
 have k2:W.heap[w.heap.size+1]?=some (.cells #[.string nm,.slice B1 rg.length b1,.slice B2 ot.length b2,.slice B3 ts.length b3,.slice B4 ls.length b4,.int .i64 ar,.slice B5 0 b5] 28 (0,0)):=by
  rw [← hW]
  have:=heap_alloc_new (w.alloc (.cells #[.string nm,.slice A1 rg.length a1,.slice A2 ot.length a2,.slice A3 ts.length a3,.slice A4 ls.length a4,.int .i64 ar,.slice A5 0 a5] 28)) (.cells #[.string nm,.slice B1 rg.length b1,.slice B2 ot.length b2,.slice B3 ts.length b3,.slice B4 ls.length b4,.int .i64 ar,.slice B5 0 b5] 28)
  rwa [bH] at this
 have HS:=aF (xIP rg A1 B1 a1 b1 W (p1.keep RN.keeps hB) (q1.keep RN.keeps hB))
 have HP:=aF (fun X (h:Below W.heap.size W X)=>xIF ot A2 B2 a2 b2 X ((p2.keep RPr.keeps hB).keep RPr.keeps h) ((q2.keep RPr.keeps hB).keep RPr.keeps h))
 have T1:=aF (p3.keep RTy.keeps hB)
 have T2:=aF (q3.keep RTy.keeps hB)
 have L1:=aF (p4.keep RLc.keeps hB)
 have L2:=aF (q4.keep RLc.keeps hB)
 have HB:=aF hB
 have K1:=aF k1
 have K2:=aF k2
 have n1:=p3.le
 have n2:=q3.le
 have n3:=p4.le
 have n4:=q4.le
 have n5:=p3.big
 have n6:=q3.big
 have n7:=p4.big
 have n8:=q4.big
 have neqLc:∀(a:ByteArray) (b:Int) (X:World),Sem.run Tryz.prog (binOp .neq 87 (.agg #[.string a,.int .i64 b]) (.agg #[.string a,.int .i64 b])) X = .ok (.bool false) X:=xIX
 clear p1 p2 p3 p4 p5 q1 q2 q3 q4 q5
 obtain ⟨x0,x1,x2,x3,x4,x5,x6,_⟩:=blk7 k1
 obtain ⟨y0,y1,y2,y3,y4,y5,y6,_⟩:=blk7 k2
 clear k1 k2 hB
 change Calls _ _ #[.agg #[.string nm,.slice A1 rg.length a1,.slice A2 ot.length a2,.slice A3 ts.length a3,.slice A4 ls.length a4,.int .i64 ar,.slice A5 0 a5],.agg #[.string nm,.slice B1 rg.length b1,.slice B2 ot.length b2,.slice B3 ts.length b3,.slice B4 ls.length b4,.int .i64 ar,.slice B5 0 b5]] _ _
 go_enter Tryz.func16,Tryz.ntmps16
 go_wp2_with fail
 go_at_call 57
 refine HS.out.mono ?_
 rintro e' w1 ⟨rfl,hb1⟩
 obtain ⟨x0,x1,x2,x3,x4,x5,x6,_⟩:=blk7 ((hb1.block _ (by have:=(Array.getElem?_eq_some_iff.1 K1.out).1;omega)).trans K1.out)
 obtain ⟨y0,y1,y2,y3,y4,y5,y6,_⟩:=blk7 ((hb1.block _ (by have:=(Array.getElem?_eq_some_iff.1 K2.out).1;omega)).trans K2.out)
 have HB1:=aF hb1
 clear hb1
 go_wp2_with fail
 go_at_call 58
 refine (HP.out w1 HB1.out).mono ?_
 rintro e' w2 ⟨rfl,hb2⟩
 have hb2:=HB1.out.trans (hb2.mono HB1.out.size)
 obtain ⟨x0,x1,x2,x3,x4,x5,x6,_⟩:=blk7 ((hb2.block _ (by have:=(Array.getElem?_eq_some_iff.1 K1.out).1;omega)).trans K1.out)
 obtain ⟨y0,y1,y2,y3,y4,y5,y6,_⟩:=blk7 ((hb2.block _ (by have:=(Array.getElem?_eq_some_iff.1 K2.out).1;omega)).trans K2.out)
 have HB2:=aF hb2
 clear hb2
 go_wp2_with fail
 go_loopw [5] (fun v wr=>∃i:Nat,i≤ts.length∧v = .int .i64 i∧Hid (Below W.heap.size W wr)) (fun v _=>ts.length - (intOf v).toNat)
 case atStart=>exact ⟨0,by omega,rfl,HB2⟩
 case round=>
  obtain ⟨i,hi,rfl,HR⟩:=hrel
  obtain ⟨x0,x1,x2,x3,x4,x5,x6,_⟩:=blk7 ((HR.out.block _ (by have:=(Array.getElem?_eq_some_iff.1 K1.out).1;omega)).trans K1.out)
  obtain ⟨y0,y1,y2,y3,y4,y5,y6,_⟩:=blk7 ((HR.out.block _ (by have:=(Array.getElem?_eq_some_iff.1 K2.out).1;omega)).trans K2.out)
  by_cases hlt:i<ts.length
  ·obtain ⟨c,o,rfl,hc,g1,g2,g3,g4,Af,cf,g5,g6,g7,g8⟩:=(T1.out.keep RTy.keeps HR.out).sl.at_ hlt
   obtain ⟨c2,o2,rfl,hc2,f1,f2,f3,f4,Bf,df,f5,f6,f7,f8⟩:=(T2.out.keep RTy.keeps HR.out).sl.at_ hlt
   have HE:=aF (xCF ts[i] ts[i] Af Bf cf df wr.drew ⟨g8.keep RInt.keeps (by simp) (aV _ wr).drew,g6,g7⟩ ⟨f8.keep RInt.keeps (by simp) (aV _ wr).drew,f6,f7⟩)
   rw [show decide (ts[i]=ts[i])=true by simp] at HE
   generalize ts[i]=t at *
   clear f8 g8
   go_wp2_with fail
   go_still_tail 10,(by kernel_rfl)
   change wpList _ _ _ _ _ wr.drew
   go_wp2_with (go_at_call 59;refine HE.out.mono ?_;rintro e' w3 ⟨rfl,hb3⟩;have HB3:=aF hb3;clear hb3)
   go_roundw
   case rel=>exact ⟨i+1,by omega,by go_num,aF (HR.out.drew.trans (HB3.out.mono HR.out.size))⟩
   case measure=>simp [intOf];omega
  ·skip
   go_wp2_with fail
   go_loopw [6] (fun v wr=>∃i:Nat,i≤ls.length∧v = .int .i64 i∧Hid (Below W.heap.size W wr)) (fun v _=>ls.length - (intOf v).toNat)
   case atStart=>exact ⟨0,by omega,rfl,HR⟩
   case round=>
    obtain ⟨i,hi,rfl,HR⟩:=hrel
    obtain ⟨x0,x1,x2,x3,x4,x5,x6,_⟩:=blk7 ((HR.out.block _ (by have:=(Array.getElem?_eq_some_iff.1 K1.out).1;omega)).trans K1.out)
    obtain ⟨y0,y1,y2,y3,y4,y5,y6,_⟩:=blk7 ((HR.out.block _ (by have:=(Array.getElem?_eq_some_iff.1 K2.out).1;omega)).trans K2.out)
    by_cases hlt:i<ls.length
    ·obtain ⟨c,o,rfl,hc,g1,g2⟩:=(L1.out.keep RLc.keeps HR.out).sl.at_ hlt
     obtain ⟨c2,o2,rfl,hc2,f1,f2⟩:=(L2.out.keep RLc.keeps HR.out).sl.at_ hlt
     generalize ls[i]=t at *
     go_wp2_with fail
     go_quiet (fail)
     go_wp2_with fail
     go_roundw
     case rel=>exact ⟨i+1,by omega,by go_num,aF (bA HR.out _)⟩
     case measure=>simp [intOf];omega
    ·go_wp2_with fail
     go_loopw [7] (fun v wr=>v = .int .i64 0∧Hid (Below W.heap.size W wr)) (fun v _=>0)
     case atStart=>exact ⟨rfl,HR⟩
     case round=>
      obtain ⟨rfl,HR⟩:=hrel
      obtain ⟨x0,x1,x2,x3,x4,x5,x6,_⟩:=blk7 ((HR.out.block _ (by have:=(Array.getElem?_eq_some_iff.1 K1.out).1;omega)).trans K1.out)
      go_wp2_with fail
      go_ret
      exact ⟨rfl,HB.out.trans (HR.out.mono HB.out.size)⟩
end
section
open Go Go.RowKit
def allN (b:Bdy):List ByteArray:=(b.name :: b.regions) ++ b.locals.map (·.name) ++ (b.blocks.filter (fun x=>decide (x.term.kind=3))).map (·.term.name)
theorem xIA:∀{l seen:List ByteArray},namesE seen l=0→∀s∈l,isIdent s=true
 | [],_,_=>by simp
 | x :: r,seen,h=>by
   rw [namesE] at h
   by_cases h1:isIdent x=false
   ·rw [aY h1] at h;cases h
   rw [aX h1] at h
   by_cases h2:memN x seen=true
   ·rw [aY h2] at h;cases h
   rw [aX h2] at h
   intro s hs
   rcases List.mem_cons.1 hs with rfl | hs
   ·simpa using h1
   ·exact xIA h s hs
theorem xIM {b:Bdy} (h:chkB b=0):∀s∈allN b,isIdent s=true:=by
 have D:=dY (iB h)
 intro s hs
 unfold allN at hs
 rcases List.mem_append.1 hs with hs | hs
 ·rcases List.mem_append.1 hs with hs | hs
  ·rcases List.mem_cons.1 hs with rfl | hs
   ·exact D.name
   ·have:=D.regs
    unfold namesC at this
    rw [aX (by have:=D.nreg;omega)] at this
    exact xIA this s hs
  ·obtain ⟨x,hx,rfl⟩:=List.mem_map.1 hs
   exact (D.locs x hx).1
 ·obtain ⟨x,hx,rfl⟩:=List.mem_map.1 hs
  obtain ⟨hx,hk⟩:=List.mem_filter.1 hx
  exact (xBH (xDU (xAN (xGJ h) x hx)).2.2).2.2 (by simpa using hk)
theorem xIC (tbl:List ByteArray) (data:List UInt8):(decS tbl data).1.blocks=[]:=by
 unfold decS
 split
 ·unfold bodyS
  rfl
 ·rfl
def Lit (b:Bdy) (er:Int) (w:World) (e':Ending) (w':World):Prop:=
 ∃A1 a1 A2 a2 A3 a3 A4 a4 A5 a5,e' = .returned (.tuple #[.agg #[.string b.name,.slice A1 b.regions.length a1,.slice A2 b.outl.length a2,.slice A3 b.types.length a3,.slice A4 b.locals.length a4,.int .i64 b.args,.slice A5 b.blocks.length a5],.int .i64 er])∧BdAt w' b ⟨A1,a1,A2,a2,A3,a3,A4,a4,A5,a5⟩∧Below w.heap.size w w'
theorem Lit.of {b:Bdy} {er:Int} {w:World} (e':Ending) (w':World) (h:∃bh,e' = .returned (.tuple #[.agg (bdC b bh).toArray,.int .i64 er])∧BdAt w' b bh∧Below w.heap.size w w'):Lit b er w e' w':=by
 obtain ⟨⟨A1,a1,A2,a2,A3,a3,A4,a4,A5,a5⟩,h1,h2,h3⟩:=h
 exact ⟨A1,a1,A2,a2,A3,a3,A4,a4,A5,a5,h1,h2,h3⟩
end
end Go.Proofs.YtbnljlpefpllcaaGreatDoor
