/-
  BindeclRoundTrip: a statement of Bindecl (part 1)
-/
import Derived.Test.YtbnljlpefpllcaaGreatDoorME0
import Derived.Test.YtbnljlpefpllcaaGreatDoorME1
import Derived.Test.YtbnljlpefpllcaaGreatDoorME2
import Derived.Test.YtbnljlpefpllcaaGreatDoorME3
import Derived.Test.YtbnljlpefpllcaaGreatDoorME4
import Derived.Test.YtbnljlpefpllcaaGreatDoorME5
import Derived.Test.YtbnljlpefpllcaaGreatDoorME6
import Derived.Test.YtbnljlpefpllcaaGreatDoorME7
import Derived.Test.YtbnljlpefpllcaaGreatDoorME8
import Derived.Test.YtbnljlpefpllcaaGreatDoorME9
import Derived.Test.YtbnljlpefpllcaaGreatDoorME10
import Derived.Test.YtbnljlpefpllcaaGreatDoorME11
import Derived.Test.YtbnljlpefpllcaaGreatDoorME12
import Derived.Test.YtbnljlpefpllcaaGreatDoorME14
import Derived.Test.YtbnljlpefpllcaaGreatDoorME15
import Derived.Test.YtbnljlpefpllcaaGreatDoorME16
import Derived.Test.YtbnljlpefpllcaaGreatDoorME17
import Derived.Test.YtbnljlpefpllcaaGreatDoorME18
import Derived.Test.YtbnljlpefpllcaaGreatDoorME20
import Derived.Test.YtbnljlpefpllcaaGreatDoorME24
import Derived.Test.YtbnljlpefpllcaaGreatDoorME25
import Derived.Test.YtbnljlpefpllcaaGreatDoorME26
import Derived.Lib.Hide
import Derived.Below
import Derived.WalkSmall
import Derived.Laws.World
import Derived.Test.YtbnljlpefpllcaaGreatDoorProg
import Derived.WalkKit
import Derived.WalkSpells
import Derived.WalkLawsBesides
import Derived.Deep.RegionHeld3
import Derived.Deep.DeepFit
import Derived.Deep.QuietTactic
import Derived.BigQuiet
import Derived.OwnWalk
import Derived.Maps.AppendAt
import Derived.Deep.DeepCutAuto
import Derived.StillTailTactics
import Derived.RangeFuncNested
import Derived.RangeFuncBound
import Derived.RangeFuncCalls
import Derived.RangeFuncLeaves
import Derived.OwnWalkIn
import Derived.TacticsInMore
import Derived.LoopNIn
import Derived.LoopIn
import Derived.Laws.Bits64b
import Derived.Shelf.Abstract
import Derived.OrdersHeld
import Derived.Deep.RegionHeld
import Derived.Lib.SliceRun
import Derived.Test.YtbnljlpefpllcaaGreatDoorSg
import Derived.Deep.AppendSrc
import Derived.Maps.OwnSet
import Derived.Maps.OwnOps
import Derived.StringKeys
import Derived.Laws.MathBits
import Derived.Test.YtbnljlpefpllcaaGreatDoorSh
import Derived.WideKeyPair
import Derived.WideKeyArr
import Derived.Deep.MidRow
import Derived.Lib.SlicesCompact
import Derived.Sort.Walk0
import Derived.Deep.LoopGhost
import Derived.ChangeKeysEq
import Derived.Sort.OwnSorted
import Derived.Test.YtbnljlpefpllcaaGreatDoorRows
import Derived.ProofKit
import Derived.Deep.Slices
import Derived.Deep.Fields
import Derived.Lib.SmallJoins
import Derived.OpenShut
import Derived.LaidMore
import Derived.Stop.Joined
import Derived.Stop.LaidErr
import Derived.Lay
import Derived.SevenTiedAt
import Derived.JoinedOf
import Derived.Test.YtbnljlpefpllcaaGreatDoorTie
import Derived.Test.YtbnljlpefpllcaaGreatDoorCards
import Derived.SizedLaws
namespace Go.Proofs.YtbnljlpefpllcaaGreatDoor
set_option maxRecDepth 100000
set_option maxHeartbeats 16000000
section
open Go Go.RowKit
theorem xJS {k m n:Nat} (r:List UInt8) (h:n<128) (hk:k<9∨n<2) (h0:0<k→0<n):getG k m (n.toUInt8 :: r)=(m+n * 2 ^ (7 * k),k+1,0):=by
 have e:n.toUInt8.toNat=n:=by simp;omega
 rw [gT,e,aX (by omega),aY h,aX (by omega)]
theorem pow7 (k:Nat):2 ^ (7 * (k+1))=128 * 2 ^ (7 * k):=by rw [show 7 * (k+1)=7+7 * k by omega,Nat.pow_add]
theorem xJQ:∀(f n k m:Nat) (r:List UInt8),n * 2 ^ (7 * k)<2 ^ 64→(0<k→0<n)→9≤f+k→k≤9→getG k m (putF f n ++ r)=(m+n * 2 ^ (7 * k),k+(putF f n).length,0)
 | f,n,k,m,r,h,h0,hf,hk=>by
   by_cases hn:n<128
   ·rw [jW hn]
    refine xJS r hn ?_ h0
    by_cases h9:k=9
    ·subst h9
     right
     have:n * 2 ^ (7 * 9)<2 * 2 ^ (7 * 9):=by
      refine bN h ?_
      decide
     exact Nat.lt_of_mul_lt_mul_right this
    ·left;omega
   ·have h9:k<9:=by
     rcases Nat.lt_or_ge k 9 with e | e
     ·exact e
     ·have:k=9:=by omega
      subst this
      have:128 * 2 ^ (7 * 9)≤n * 2 ^ (7 * 9):=Nat.mul_le_mul_right _ (by omega)
      have:(2:Nat) ^ 64≤128 * 2 ^ (7 * 9):=by decide
      omega
    cases f with
    | zero=>omega
    | succ f=>
      have e:(n % 128+128).toUInt8.toNat=n % 128+128:=by simp;omega
      have hq:n / 128 * 2 ^ (7 * (k+1))≤n * 2 ^ (7 * k):=by
       rw [pow7,← Nat.mul_assoc]
       exact Nat.mul_le_mul_right _ (Nat.div_mul_le_self n 128)
      rw [tQ hn,List.cons_append,gT,e,aX (by omega),aX (by omega),xJQ f (n / 128) (k+1) _ r (by omega) (fun _=>by omega) (by omega) (by omega)]
      have hs:m+(n % 128+128 - 128) * 2 ^ (7 * k)+n / 128 * 2 ^ (7 * (k+1))=m+n * 2 ^ (7 * k):=by
       rw [pow7,Nat.add_sub_cancel,← Nat.mul_assoc,Nat.add_assoc,← Nat.add_mul]
       congr 2
       omega
      rw [hs]
      simp only [bJ]
      congr 2
      omega
theorem xJP (n:Nat) (r:List UInt8) (h:n<2 ^ 64):getL (putL n ++ r)=(n,(putL n).length,0):=by
 have:=xJQ 10 n 0 0 r (by omega) (fun h=>absurd h (by omega)) (by omega) (by omega)
 unfold getL putL
 rw [this]
 simp
end
section
open Go Go.RowKit
def Inv {α : Type} (f:Rs→ α × Rs) (g : α → List UInt8) (x : α):Prop:=∀r,f ⟨g x ++ r,0⟩=(x,⟨r,0⟩)
theorem xJL {n most:Nat} (h:n≤most) (hm:most<2 ^ 64) (r:List UInt8):uintS most ⟨putL n ++ r,0⟩=(n,⟨r,0⟩):=by
 unfold uintS
 simp only [xJP n r (by omega),if_true,aX (show ¬most<n by omega),List.drop_left]
theorem xIR {i:Int} (h0:0≤i) (h:i≤65535):Inv numS putI i:=fun r=>by
 unfold numS putI
 rw [xJL (by omega) (by omega)]
 simp only [Int.toNat_of_nonneg h0]
theorem xJE {t:List ByteArray} {s:ByteArray} (h:memN s t=true) (ht:t.length≤65536):Inv (nameS t) (nameW t) s:=fun r=>by
 obtain ⟨j,h1,h2⟩:=uD s t 0 h
 have hj:=(List.getElem?_eq_some_iff.1 h2).1
 have hw:nameW t s=putL j:=by
  unfold nameW putI
  rw [h1]
  congr 1
  omega
 rw [hw]
 unfold nameS
 rw [xJL (by omega) (by omega)]
 simp only [if_true,h2]
theorem xJO {p:Int × Int} (h1:0≤p.1∧p.1≤65535) (h2:0≤p.2∧p.2≤65535):Inv pairS pairW p:=fun r=>by
 unfold pairS pairW
 rw [bK,xIR h1.1 h1.2]
 simp only [xIR h2.1 h2.2 r]
theorem xJH {α : Type} {f:Rs→ α × Rs} {g : α → List UInt8} (r:List UInt8):∀l:List α,(∀x∈l,Inv f g x)→itemsS f l.length ⟨l.flatMap g ++ r,0⟩=(l,⟨r,0⟩)
 | [],_=>rfl
 | x :: l,h=>by
   rw [List.flatMap_cons,bK,bJ,itemsS,h x (by simp)]
   simp only [if_true]
   rw [xJH r l (fun y hy=>h y (by simp [hy]))]
theorem xJI {α : Type} {g : α → List UInt8}:∀l:List α,(∀x∈l,0<(g x).length)→l.length≤(l.flatMap g).length
 | [],_=>by simp
 | x :: l,h=>by
   rw [List.flatMap_cons,aZ,bJ]
   have:=h x (by simp)
   have:=xJI l (fun y hy=>h y (by simp [hy]))
   omega
theorem xHT {α : Type} {f:Rs→ α × Rs} {g : α → List UInt8} {l:List α} (hl:l.length≤65535) (h:∀x∈l,Inv f g x) (hp:∀x∈l,0<(g x).length):Inv (listS f) (listW g) l:=fun r=>by
 have hc:countS 65535 ⟨putL l.length ++ (l.flatMap g ++ r),0⟩=(l.length,⟨l.flatMap g ++ r,0⟩):=by
  unfold countS
  have:=xJI l hp
  simp only [xJP _ _ (show l.length<2 ^ 64 by omega),if_true,aX (show ¬65535<l.length by omega),List.drop_left,aZ,aX (show ¬(l.flatMap g).length+r.length<l.length by omega)]
 unfold listS listW
 rw [bK,hc]
 exact xJH r l h
theorem xJD (i:Int):0<(putI i).length:=tP _ _
theorem xJZ {x:Ty} (h:TyGood x):Inv typeS typeW x:=fun r=>by
 obtain ⟨kind,mu,reg,elem,flds⟩:=x
 rcases h with ⟨h1,h2,h3,h4⟩ | ⟨h1,h2,h3,h4,h5,h6⟩ | ⟨h1,h2,h3,h4,h5,h6⟩
 ·simp only at h1 h2 h3 h4
  subst h1 h4
  have hp:=xJO (p:=(reg,elem)) h2 h3 r
  unfold pairW at hp
  simp only [bK] at hp
  cases mu
  ·unfold typeW typeS byteS
   simp [hp]
  ·unfold typeW typeS byteS
   simp [hp]
 ·simp only at h1 h2 h3 h4 h5 h6
  subst h1 h2 h3 h4
  have hp:=xHT (f:=numS) (g:=putI) h5 (fun i hi=>xIR (h6 i hi).1 (h6 i hi).2) (fun i _=>xJD i) r
  unfold typeW typeS byteS
  simp [hp]
 ·simp only at h1 h2 h3 h4 h5 h6
  subst h3 h4 h5 h6
  obtain ⟨k,rfl⟩:=bF h1
  have:k=0∨k=1∨k=2:=by omega
  rcases this with rfl | rfl | rfl <;> simp [typeW,typeS,byteS]
theorem xJU (x:Ty):0<(typeW x).length:=by
 unfold typeW
 split
 ·simp
 ·split <;> simp
theorem xJW {t:List ByteArray} {x:Lc} (h:memN x.name t=true) (ht:t.length≤65536) (h0:0≤x.type∧x.type≤65535):Inv (localS t) (localW t) x:=fun r=>by
 unfold localS localW
 rw [bK,xJE h ht]
 simp only [xIR h0.1 h0.2 r]
theorem xJG (t:List ByteArray) (s:ByteArray):0<(nameW t s).length:=xJD _
theorem xKD {t:List ByteArray} {b:Bdy} (h:DGood t b) (r:List UInt8):bodyS t ⟨declW t b ++ r,0⟩=({ b with blocks:=[] },⟨r,0⟩):=by
 unfold bodyS declW
 simp only [bK]
 rw [xJE h.name h.tl]
 simp only
 rw [xHT h.rl (fun s hs=>xJE (h.reg s hs) h.tl) (fun s _=>xJG t s)]
 simp only
 rw [xHT h.ol (fun p hp=>xJO (h.out p hp).1 (h.out p hp).2) (fun p _=>by unfold pairW;have:=xJD p.1;simp only [aZ];omega)]
 simp only
 rw [xHT h.yl (fun x hx=>xJZ (h.typ x hx)) (fun x _=>xJU x)]
 simp only
 rw [xHT h.ll (fun x hx=>xJW (h.loc x hx).1 h.tl (h.loc x hx).2) (fun x _=>by unfold localW;have:=xJG t x.name;simp only [aZ];omega)]
 simp only
 rw [xIR h.args.1 h.args.2]
theorem xKF {t:List ByteArray} {b:Bdy} (h:DGood t b):decS t (declW t b)=({ b with blocks:=[] },0):=by
 have:=xKD h []
 rw [List.append_nil] at this
 unfold decS
 rw [this]
 simp [endS]
end
section
open Go Go.RowKit
theorem xJC (l:List ByteArray) (x:ByteArray):x∈tabB [] l↔x∈l:=by
 have h:=tE (bl x) (l.map bl) []
 rw [show ([]:List (List UInt8))=([]:List ByteArray).map bl from rfl,← rI] at h
 simp only [List.mem_map,cM,List.not_mem_nil,false_or] at h
 constructor
 ·intro hx
  obtain ⟨y,hy,e⟩:=h.1 ⟨x,hx,rfl⟩
  exact xEK e ▸ hy
 ·intro hx
  obtain ⟨y,hy,e⟩:=h.2 ⟨x,hx,rfl⟩
  exact xEK e ▸ hy
end
section
open Go Go.RowKit
theorem xKE (a b:Int) (w:World):Sem.run Tryz.prog (binOp .neq 79 (.agg #[.int .i64 a,.int .i64 b]) (.agg #[.int .i64 a,.int .i64 b])) w = .ok (.bool false) w:=by
 have u3:=Tryz.underlying3
 have a3:=Tryz.isAgg3
 have z3:=Tryz.sizeOf3
 obtain ⟨i0,hi,hz0,hz1,hz2⟩:=info_parts eE
 rw [run_neq_struct,show (10000:Nat)=9999+1 from rfl,run_equalIn_array w 9999 _ _ Tryz.underlying79 hi]
 have hc:Tryz.prog.cellsOf 3=1:=by kernel_rfl
 rw [hc]
 simp [Op.eqItems,List.range_succ,go_sem,part]
theorem xKI (a:ByteArray) (b:Int) (w:World):Sem.run Tryz.prog (binOp .neq 87 (.agg #[.string a,.int .i64 b]) (.agg #[.string a,.int .i64 b])) w = .ok (.bool false) w:=by
 have u3:=Tryz.underlying3
 have a3:=Tryz.isAgg3
 have z3:=Tryz.sizeOf3
 have u9:=Tryz.underlying9
 have a9:=Tryz.isAgg9
 have z9:=Tryz.sizeOf9
 have hS:Tryz.prog.underlying 87=some (.struct (Tryz.prog.fieldsOf 87)):=by kernel_rfl
 have hp:Tryz.prog.stoodInHeld 87=false:=by kernel_rfl
 rw [run_neq_struct,show (10000:Nat)=9999+1 from rfl,run_equalIn_agg w 9999 87 _ _ hS hp]
 simp only [Program.fieldsOf,Tryz.underlying87]
 go_simp
theorem xKB (xs:List ByteArray) (A B:Option Addr) (c d:Nat) (w:World) (hs:Slc 1 RN w A c xs) (ht:Slc 1 RN w B d xs):
 Calls Tryz.prog 57 #[.slice A xs.length c,.slice B xs.length d] w fun e' w'=>e' = .returned (.bool true)∧Below w.heap.size w w':=by
 have hle:=hs.le
 have hbg:=hs.big
 have hle2:=ht.le
 have hbg2:=ht.big
 have HS:=aF hs
 have HT:=aF ht
 have neqPr:=xKE
 clear hs ht
 go_enter Tryz.func57,Tryz.ntmps57
 go_wp2_with fail
 go_loopw [5] (fun v wr=>∃i:Nat,i≤xs.length∧v = .int .i64 i∧Hid (Below w.heap.size w wr)) (fun v _=>xs.length - (intOf v).toNat)
 case atStart=>exact ⟨0,by omega,rfl,aF (aV _ _)⟩
 case round=>
  obtain ⟨i,hi,rfl,HB⟩:=hrel
  by_cases hlt:i<xs.length
  ·obtain ⟨b,o,rfl,hb,y⟩:=(HS.out.keep RN.keeps HB.out).sl.at_ hlt
   obtain ⟨b2,o2,rfl,hb2,z⟩:=(HT.out.keep RN.keeps HB.out).sl.at_ hlt
   generalize xs[i]=x at *
   have p0:wr.cell? ⟨b,o+i,none⟩=some (.string x):=by simpa [RN] using y
   have q0:wr.cell? ⟨b2,o2+i,none⟩=some (.string x):=by simpa [RN] using z
   clear y z
   go_wp2_with fail
   go_quiet (fail)
   go_wp2_with fail
   go_roundw
   case rel=>exact ⟨i+1,by omega,by go_num,aF (bA HB.out _)⟩
   case measure=>simp [intOf];omega
  ·go_wp2_with fail
   go_ret
   exact ⟨rfl,HB.out⟩
theorem xJR (xs:List (Int × Int)) (A B:Option Addr) (c d:Nat) (w:World) (hs:Slc 2 RPr w A c xs) (ht:Slc 2 RPr w B d xs):
 Calls Tryz.prog 58 #[.slice A xs.length c,.slice B xs.length d] w fun e' w'=>e' = .returned (.bool true)∧Below w.heap.size w w':=by
 have hle:=hs.le
 have hbg:=hs.big
 have hle2:=ht.le
 have hbg2:=ht.big
 have HS:=aF hs
 have HT:=aF ht
 have neqPr:=xKE
 clear hs ht
 go_enter Tryz.func58,Tryz.ntmps58
 go_wp2_with fail
 go_loopw [5] (fun v wr=>∃i:Nat,i≤xs.length∧v = .int .i64 i∧Hid (Below w.heap.size w wr)) (fun v _=>xs.length - (intOf v).toNat)
 case atStart=>exact ⟨0,by omega,rfl,aF (aV _ _)⟩
 case round=>
  obtain ⟨i,hi,rfl,HB⟩:=hrel
  by_cases hlt:i<xs.length
  ·obtain ⟨b,o,rfl,hb,y⟩:=(HS.out.keep RPr.keeps HB.out).sl.at_ hlt
   obtain ⟨b2,o2,rfl,hb2,z⟩:=(HT.out.keep RPr.keeps HB.out).sl.at_ hlt
   generalize xs[i]=x at *
   have p0:wr.cell? ⟨b,o+i * 2,none⟩=some (.int .i64 x.1):=y.1
   have p1:wr.cell? ⟨b,o+i * 2+1,none⟩=some (.int .i64 x.2):=y.2
   have q0:wr.cell? ⟨b2,o2+i * 2,none⟩=some (.int .i64 x.1):=z.1
   have q1:wr.cell? ⟨b2,o2+i * 2+1,none⟩=some (.int .i64 x.2):=z.2
   clear y z
   go_wp2_with fail
   go_quiet (fail)
   go_wp2_with fail
   go_roundw
   case rel=>exact ⟨i+1,by omega,by go_num,aF (bA HB.out _)⟩
   case measure=>simp [intOf];omega
  ·go_wp2_with fail
   go_ret
   exact ⟨rfl,HB.out⟩
end
section
open Go Go.RowKit
theorem xJV (b:Bdy) (h1 h2:BH) (w:World) (hb:b.blocks=[]) (H1:BdAt w b h1) (H2:BdAt w b h2):
 Calls Tryz.prog 16 #[.agg (bdC b h1).toArray,.agg (bdC b h2).toArray] w fun e' w'=>e' = .returned (.bool true)∧Below w.heap.size w w':=by
 obtain ⟨A1,a1,A2,a2,A3,a3,A4,a4,A5,a5⟩:=h1
 obtain ⟨B1,b1,B2,b2,B3,b3,B4,b4,B5,b5⟩:=h2
 obtain ⟨p1,p2,p3,p4,p5⟩:=H1
 obtain ⟨q1,q2,q3,q4,q5⟩:=H2
 obtain ⟨nm,rg,ot,ts,ls,ar,bk⟩:=b
 simp only at *
 subst hb
 obtain ⟨W,hW⟩:∃W,(w.alloc (.cells #[.string nm,.slice A1 rg.length a1,.slice A2 ot.length a2,.slice A3 ts.length a3,.slice A4 ls.length a4,.int .i64 ar,.slice A5 0 a5] 28)).alloc (.cells #[.string nm,.slice B1 rg.length b1,.slice B2 ot.length b2,.slice B3 ts.length b3,.slice B4 ls.length b4,.int .i64 ar,.slice B5 0 b5] 28)=W:=⟨_,rfl⟩
 have hB:Below w.heap.size w W:=by rw [← hW];exact ((aV _ _).alloc (aW _) _).alloc (by simp) _
 have k1:W.heap[w.heap.size]?=some (.cells #[.string nm,.slice A1 rg.length a1,.slice A2 ot.length a2,.slice A3 ts.length a3,.slice A4 ls.length a4,.int .i64 ar,.slice A5 0 a5] 28 (0,0)):=by rw [← hW,Below.heap_alloc _ _ _ (by simp)];exact heap_alloc_new w _
 have k2:W.heap[w.heap.size+1]?=some (.cells #[.string nm,.slice B1 rg.length b1,.slice B2 ot.length b2,.slice B3 ts.length b3,.slice B4 ls.length b4,.int .i64 ar,.slice B5 0 b5] 28 (0,0)):=by
  rw [← hW]
  have:=heap_alloc_new (w.alloc (.cells #[.string nm,.slice A1 rg.length a1,.slice A2 ot.length a2,.slice A3 ts.length a3,.slice A4 ls.length a4,.int .i64 ar,.slice A5 0 a5] 28)) (.cells #[.string nm,.slice B1 rg.length b1,.slice B2 ot.length b2,.slice B3 ts.length b3,.slice B4 ls.length b4,.int .i64 ar,.slice B5 0 b5] 28)
  rwa [bH] at this
 have HS:=aF (xKB rg A1 B1 a1 b1 W (p1.keep RN.keeps hB) (q1.keep RN.keeps hB))
 have HP:=aF (fun X (h:Below W.heap.size W X)=>xJR ot A2 B2 a2 b2 X ((p2.keep RPr.keeps hB).keep RPr.keeps h) ((q2.keep RPr.keeps hB).keep RPr.keeps h))
 have T1:=aF (p3.keep RTy.keeps hB)
 have T2:=aF (q3.keep RTy.keeps hB)
 have L1:=aF (p4.keep RLc.keeps hB)
 have L2:=aF (q4.keep RLc.keeps hB)
 have HB:=aF hB
 have K1:=aF k1
 have K2:=aF k2
 have n1:=p3.le
 have n2:=q3.le
 have n3:=p4.le
 have n4:=q4.le
 have n5:=p3.big
 have n6:=q3.big
 have n7:=p4.big
 have n8:=q4.big
 have neqLc:∀(a:ByteArray) (b:Int) (X:World),Sem.run Tryz.prog (binOp .neq 87 (.agg #[.string a,.int .i64 b]) (.agg #[.string a,.int .i64 b])) X = .ok (.bool false) X:=xKI
 clear p1 p2 p3 p4 p5 q1 q2 q3 q4 q5
 obtain ⟨x0,x1,x2,x3,x4,x5,x6,_⟩:=blk7 k1
 obtain ⟨y0,y1,y2,y3,y4,y5,y6,_⟩:=blk7 k2
 clear k1 k2 hB
 change Calls _ _ #[.agg #[.string nm,.slice A1 rg.length a1,.slice A2 ot.length a2,.slice A3 ts.length a3,.slice A4 ls.length a4,.int .i64 ar,.slice A5 0 a5],.agg #[.string nm,.slice B1 rg.length b1,.slice B2 ot.length b2,.slice B3 ts.length b3,.slice B4 ls.length b4,.int .i64 ar,.slice B5 0 b5]] _ _
 go_enter Tryz.func16,Tryz.ntmps16
 go_wp2_with fail
 go_at_call 57
 refine HS.out.mono ?_
 rintro e' w1 ⟨rfl,hb1⟩
 obtain ⟨x0,x1,x2,x3,x4,x5,x6,_⟩:=blk7 ((hb1.block _ (by have:=(Array.getElem?_eq_some_iff.1 K1.out).1;omega)).trans K1.out)
 obtain ⟨y0,y1,y2,y3,y4,y5,y6,_⟩:=blk7 ((hb1.block _ (by have:=(Array.getElem?_eq_some_iff.1 K2.out).1;omega)).trans K2.out)
 have HB1:=aF hb1
 clear hb1
 go_wp2_with fail
 go_at_call 58
 refine (HP.out w1 HB1.out).mono ?_
 rintro e' w2 ⟨rfl,hb2⟩
 have hb2:=HB1.out.trans (hb2.mono HB1.out.size)
 obtain ⟨x0,x1,x2,x3,x4,x5,x6,_⟩:=blk7 ((hb2.block _ (by have:=(Array.getElem?_eq_some_iff.1 K1.out).1;omega)).trans K1.out)
 obtain ⟨y0,y1,y2,y3,y4,y5,y6,_⟩:=blk7 ((hb2.block _ (by have:=(Array.getElem?_eq_some_iff.1 K2.out).1;omega)).trans K2.out)
 have HB2:=aF hb2
 clear hb2
 go_wp2_with fail
 go_loopw [5] (fun v wr=>∃i:Nat,i≤ts.length∧v = .int .i64 i∧Hid (Below W.heap.size W wr)) (fun v _=>ts.length - (intOf v).toNat)
 case atStart=>exact ⟨0,by omega,rfl,HB2⟩
 case round=>
  obtain ⟨i,hi,rfl,HR⟩:=hrel
  obtain ⟨x0,x1,x2,x3,x4,x5,x6,_⟩:=blk7 ((HR.out.block _ (by have:=(Array.getElem?_eq_some_iff.1 K1.out).1;omega)).trans K1.out)
  obtain ⟨y0,y1,y2,y3,y4,y5,y6,_⟩:=blk7 ((HR.out.block _ (by have:=(Array.getElem?_eq_some_iff.1 K2.out).1;omega)).trans K2.out)
  by_cases hlt:i<ts.length
  ·obtain ⟨c,o,rfl,hc,g1,g2,g3,g4,Af,cf,g5,g6,g7,g8⟩:=(T1.out.keep RTy.keeps HR.out).sl.at_ hlt
   obtain ⟨c2,o2,rfl,hc2,f1,f2,f3,f4,Bf,df,f5,f6,f7,f8⟩:=(T2.out.keep RTy.keeps HR.out).sl.at_ hlt
   have HE:=aF (xCF ts[i] ts[i] Af Bf cf df wr.drew ⟨g8.keep RInt.keeps (by simp) (aV _ wr).drew,g6,g7⟩ ⟨f8.keep RInt.keeps (by simp) (aV _ wr).drew,f6,f7⟩)
   rw [show decide (ts[i]=ts[i])=true by simp] at HE
   generalize ts[i]=t at *
   clear f8 g8
   go_wp2_with fail
   go_still_tail 10,(by kernel_rfl)
   change wpList _ _ _ _ _ wr.drew
   go_wp2_with (go_at_call 59;refine HE.out.mono ?_;rintro e' w3 ⟨rfl,hb3⟩;have HB3:=aF hb3;clear hb3)
   go_roundw
   case rel=>exact ⟨i+1,by omega,by go_num,aF (HR.out.drew.trans (HB3.out.mono HR.out.size))⟩
   case measure=>simp [intOf];omega
  ·skip
   go_wp2_with fail
   go_loopw [6] (fun v wr=>∃i:Nat,i≤ls.length∧v = .int .i64 i∧Hid (Below W.heap.size W wr)) (fun v _=>ls.length - (intOf v).toNat)
   case atStart=>exact ⟨0,by omega,rfl,HR⟩
   case round=>
    obtain ⟨i,hi,rfl,HR⟩:=hrel
    obtain ⟨x0,x1,x2,x3,x4,x5,x6,_⟩:=blk7 ((HR.out.block _ (by have:=(Array.getElem?_eq_some_iff.1 K1.out).1;omega)).trans K1.out)
    obtain ⟨y0,y1,y2,y3,y4,y5,y6,_⟩:=blk7 ((HR.out.block _ (by have:=(Array.getElem?_eq_some_iff.1 K2.out).1;omega)).trans K2.out)
    by_cases hlt:i<ls.length
    ·obtain ⟨c,o,rfl,hc,g1,g2⟩:=(L1.out.keep RLc.keeps HR.out).sl.at_ hlt
     obtain ⟨c2,o2,rfl,hc2,f1,f2⟩:=(L2.out.keep RLc.keeps HR.out).sl.at_ hlt
     generalize ls[i]=t at *
     go_wp2_with fail
     go_quiet (fail)
     go_wp2_with fail
     go_roundw
     case rel=>exact ⟨i+1,by omega,by go_num,aF (bA HR.out _)⟩
     case measure=>simp [intOf];omega
    ·go_wp2_with fail
     go_loopw [7] (fun v wr=>v = .int .i64 0∧Hid (Below W.heap.size W wr)) (fun v _=>0)
     case atStart=>exact ⟨rfl,HR⟩
     case round=>
      obtain ⟨rfl,HR⟩:=hrel
      obtain ⟨x0,x1,x2,x3,x4,x5,x6,_⟩:=blk7 ((HR.out.block _ (by have:=(Array.getElem?_eq_some_iff.1 K1.out).1;omega)).trans K1.out)
      go_wp2_with fail
      go_ret
      exact ⟨rfl,HB.out.trans (HR.out.mono HB.out.size)⟩
end
section
open Go Go.RowKit
def allN (b:Bdy):List ByteArray:=(b.name :: b.regions) ++ b.locals.map (·.name) ++ (b.blocks.filter (fun x=>decide (x.term.kind=3))).map (·.term.name)
theorem xJF:∀{l seen:List ByteArray},namesE seen l=0→∀s∈l,isIdent s=true
 | [],_,_=>by simp
 | x :: r,seen,h=>by
   rw [namesE] at h
   by_cases h1:isIdent x=false
   ·rw [aY h1] at h;cases h
   rw [aX h1] at h
   by_cases h2:memN x seen=true
   ·rw [aY h2] at h;cases h
   rw [aX h2] at h
   intro s hs
   rcases List.mem_cons.1 hs with rfl | hs
   ·simpa using h1
   ·exact xJF h s hs
theorem xJY {b:Bdy} (h:chkB b=0):∀s∈allN b,isIdent s=true:=by
 have D:=dY (iB h)
 intro s hs
 unfold allN at hs
 rcases List.mem_append.1 hs with hs | hs
 ·rcases List.mem_append.1 hs with hs | hs
  ·rcases List.mem_cons.1 hs with rfl | hs
   ·exact D.name
   ·have:=D.regs
    unfold namesC at this
    rw [aX (by have:=D.nreg;omega)] at this
    exact xJF this s hs
  ·obtain ⟨x,hx,rfl⟩:=List.mem_map.1 hs
   exact (D.locs x hx).1
 ·obtain ⟨x,hx,rfl⟩:=List.mem_map.1 hs
  obtain ⟨hx,hk⟩:=List.mem_filter.1 hx
  exact (xBH (xDU (xAN (xGJ h) x hx)).2.2).2.2 (by simpa using hk)
theorem xJN (s:ByteArray):∀l,sumN (insB s l)≤1+szN s+sumN l
 | []=>by rw [insB,xN];exact aW _
 | x :: r=>by
   have ih:=xJN s r
   unfold insB
   split
   ·rw [xN];exact aW _
   ·split
    ·rw [xN];omega
    ·rw [xN,xN];omega
theorem xJM:∀(l acc:List ByteArray),sumN (tabB acc l)≤sumN acc+sumN l
 | [],acc=>by rw [tabB];omega
 | s :: r,acc=>by
   have h1:=xJM r (insB s acc)
   have h2:=xJN s acc
   rw [tabB,xN]
   omega
theorem xJJ (l:List Blk) (p:Blk→Bool):sumN ((l.filter p).map (·.term.name))≤sumN (l.map (·.term.name)):=by
 induction l with
 | nil=>simp [sumN]
 | cons x r ih=>
   rw [List.filter_cons]
   by_cases h:p x=true
   ·rw [aY h,cK,cK,xN,xN];omega
   ·rw [aX h,cK,xN];omega
theorem xKG {b:Bdy} (h:namesZ b≤3000):sumN (tabB [] (allN b))≤8000:=by
 have h1:=xJM (allN b) []
 have h2:=xJJ b.blocks (fun x=>decide (x.term.kind=3))
 have h3:sumN []=0:=rfl
 have h4:sumN (allN b)≤8000:=by
  unfold allN
  rw [xBM,xBM,xN]
  unfold namesZ at h
  omega
 omega
theorem xJK {b:Bdy} (h:chkB b=0):∀s∈tabB [] (allN b),isIdent s=true:=fun s hs=>xJY h s ((xJC _ _).1 hs)
theorem xKA {b:Bdy} (h:declC b=0) {tbl:List ByteArray} (hl:tbl.length≤65536) (hm:∀s∈allN b,s∈tbl):DGood tbl b:=
 xAG h hl (tZ.2 (hm _ (by simp [allN]))) (fun s hs=>tZ.2 (hm _ (by simp [allN,hs]))) (fun x hx=>tZ.2 (hm _ (by simp only [allN,List.mem_append,List.mem_map];exact .inl (.inr ⟨x,hx,rfl⟩))))
end
end Go.Proofs.YtbnljlpefpllcaaGreatDoor
