/-
  BindeclPrefixes: a statement of Bindecl (part 1)
-/
import Derived.Test.YtbnljlpefpllcaaGreatDoorME0
import Derived.Test.YtbnljlpefpllcaaGreatDoorME1
import Derived.Test.YtbnljlpefpllcaaGreatDoorME2
import Derived.Test.YtbnljlpefpllcaaGreatDoorME3
import Derived.Test.YtbnljlpefpllcaaGreatDoorME4
import Derived.Test.YtbnljlpefpllcaaGreatDoorME5
import Derived.Test.YtbnljlpefpllcaaGreatDoorME6
import Derived.Test.YtbnljlpefpllcaaGreatDoorME7
import Derived.Test.YtbnljlpefpllcaaGreatDoorME8
import Derived.Test.YtbnljlpefpllcaaGreatDoorME9
import Derived.Test.YtbnljlpefpllcaaGreatDoorME10
import Derived.Test.YtbnljlpefpllcaaGreatDoorME11
import Derived.Test.YtbnljlpefpllcaaGreatDoorME12
import Derived.Test.YtbnljlpefpllcaaGreatDoorME14
import Derived.Test.YtbnljlpefpllcaaGreatDoorME15
import Derived.Test.YtbnljlpefpllcaaGreatDoorME16
import Derived.Test.YtbnljlpefpllcaaGreatDoorME17
import Derived.Test.YtbnljlpefpllcaaGreatDoorME18
import Derived.Test.YtbnljlpefpllcaaGreatDoorME20
import Derived.Test.YtbnljlpefpllcaaGreatDoorME24
import Derived.Test.YtbnljlpefpllcaaGreatDoorME25
import Derived.Test.YtbnljlpefpllcaaGreatDoorME26
import Derived.Lib.Hide
import Derived.Below
import Derived.WalkSmall
import Derived.Laws.World
import Derived.Test.YtbnljlpefpllcaaGreatDoorProg
import Derived.WalkKit
import Derived.WalkSpells
import Derived.WalkLawsBesides
import Derived.Deep.RegionHeld3
import Derived.Deep.DeepFit
import Derived.Deep.QuietTactic
import Derived.BigQuiet
import Derived.OwnWalk
import Derived.Maps.AppendAt
import Derived.Deep.DeepCutAuto
import Derived.StillTailTactics
import Derived.RangeFuncNested
import Derived.RangeFuncBound
import Derived.RangeFuncCalls
import Derived.RangeFuncLeaves
import Derived.OwnWalkIn
import Derived.TacticsInMore
import Derived.LoopNIn
import Derived.LoopIn
import Derived.Laws.Bits64b
import Derived.Shelf.Abstract
import Derived.OrdersHeld
import Derived.Deep.RegionHeld
import Derived.Lib.SliceRun
import Derived.Test.YtbnljlpefpllcaaGreatDoorSg
import Derived.Deep.AppendSrc
import Derived.Maps.OwnSet
import Derived.Maps.OwnOps
import Derived.StringKeys
import Derived.Laws.MathBits
import Derived.Test.YtbnljlpefpllcaaGreatDoorSh
import Derived.Deep.LoopGhost
import Derived.Deep.MidRow
import Derived.Lib.SlicesCompact
import Derived.WideKeyPair
import Derived.WideKeyArr
import Derived.Sort.Walk0
import Derived.Sort.OwnSorted
import Derived.Test.YtbnljlpefpllcaaGreatDoorRows
import Derived.ProofKit
import Derived.Deep.Slices
import Derived.Deep.Fields
import Derived.Lib.SmallJoins
import Derived.OpenShut
import Derived.LaidMore
import Derived.Stop.Joined
import Derived.Stop.LaidErr
import Derived.Lay
import Derived.SevenTiedAt
import Derived.ChangeKeysEq
import Derived.JoinedOf
import Derived.Test.YtbnljlpefpllcaaGreatDoorTie
import Derived.Test.YtbnljlpefpllcaaGreatDoorCards
import Derived.SizedLaws
namespace Go.Proofs.YtbnljlpefpllcaaGreatDoor
set_option maxRecDepth 100000
set_option maxHeartbeats 16000000
section
open Go Go.RowKit
theorem xKE {k m n:Nat} (r:List UInt8) (h:n<128) (hk:k<9∨n<2) (h0:0<k→0<n):getG k m (n.toUInt8 :: r)=(m+n * 2 ^ (7 * k),k+1,0):=by
 have e:n.toUInt8.toNat=n:=by simp;omega
 rw [gT,e,aX (by omega),aY h,aX (by omega)]
theorem pow7 (k:Nat):2 ^ (7 * (k+1))=128 * 2 ^ (7 * k):=by rw [show 7 * (k+1)=7+7 * k by omega,Nat.pow_add]
theorem xKC:∀(f n k m:Nat) (r:List UInt8),n * 2 ^ (7 * k)<2 ^ 64→(0<k→0<n)→9≤f+k→k≤9→getG k m (putF f n ++ r)=(m+n * 2 ^ (7 * k),k+(putF f n).length,0)
 | f,n,k,m,r,h,h0,hf,hk=>by
   by_cases hn:n<128
   ·rw [jW hn]
    refine xKE r hn ?_ h0
    by_cases h9:k=9
    ·subst h9
     right
     have:n * 2 ^ (7 * 9)<2 * 2 ^ (7 * 9):=by
      refine bN h ?_
      decide
     exact Nat.lt_of_mul_lt_mul_right this
    ·left;omega
   ·have h9:k<9:=by
     rcases Nat.lt_or_ge k 9 with e | e
     ·exact e
     ·have:k=9:=by omega
      subst this
      have:128 * 2 ^ (7 * 9)≤n * 2 ^ (7 * 9):=Nat.mul_le_mul_right _ (by omega)
      have:(2:Nat) ^ 64≤128 * 2 ^ (7 * 9):=by decide
      omega
    cases f with
    | zero=>omega
    | succ f=>
      have e:(n % 128+128).toUInt8.toNat=n % 128+128:=by simp;omega
      have hq:n / 128 * 2 ^ (7 * (k+1))≤n * 2 ^ (7 * k):=by
       rw [pow7,← Nat.mul_assoc]
       exact Nat.mul_le_mul_right _ (Nat.div_mul_le_self n 128)
      rw [tQ hn,List.cons_append,gT,e,aX (by omega),aX (by omega),xKC f (n / 128) (k+1) _ r (by omega) (fun _=>by omega) (by omega) (by omega)]
      have hs:m+(n % 128+128 - 128) * 2 ^ (7 * k)+n / 128 * 2 ^ (7 * (k+1))=m+n * 2 ^ (7 * k):=by
       rw [pow7,Nat.add_sub_cancel,← Nat.mul_assoc,Nat.add_assoc,← Nat.add_mul]
       congr 2
       omega
      rw [hs]
      simp only [bJ]
      congr 2
      omega
theorem xIC (n:Nat) (r:List UInt8) (h:n<2 ^ 64):getL (putL n ++ r)=(n,(putL n).length,0):=by
 have:=xKC 10 n 0 0 r (by omega) (fun h=>absurd h (by omega)) (by omega) (by omega)
 unfold getL putL
 rw [this]
 simp
end
section
open Go Go.RowKit
def Inv {α : Type} (f:Rs→ α × Rs) (g : α → List UInt8) (x : α):Prop:=∀r,f ⟨g x ++ r,0⟩=(x,⟨r,0⟩)
theorem xJW {n most:Nat} (h:n≤most) (hm:most<2 ^ 64) (r:List UInt8):uintS most ⟨putL n ++ r,0⟩=(n,⟨r,0⟩):=by
 unfold uintS
 simp only [xIC n r (by omega),if_true,aX (show ¬most<n by omega),List.drop_left]
theorem xHT {i:Int} (h0:0≤i) (h:i≤65535):Inv numS putI i:=fun r=>by
 unfold numS putI
 rw [xJW (by omega) (by omega)]
 simp only [Int.toNat_of_nonneg h0]
theorem xHS {t:List ByteArray} {s:ByteArray} (h:memN s t=true) (ht:t.length≤65536):Inv (nameS t) (nameW t) s:=fun r=>by
 obtain ⟨j,h1,h2⟩:=uD s t 0 h
 have hj:=(List.getElem?_eq_some_iff.1 h2).1
 have hw:nameW t s=putL j:=by
  unfold nameW putI
  rw [h1]
  congr 1
  omega
 rw [hw]
 unfold nameS
 rw [xJW (by omega) (by omega)]
 simp only [if_true,h2]
theorem xIB {p:Int × Int} (h1:0≤p.1∧p.1≤65535) (h2:0≤p.2∧p.2≤65535):Inv pairS pairW p:=fun r=>by
 unfold pairS pairW
 rw [bK,xHT h1.1 h1.2]
 simp only [xHT h2.1 h2.2 r]
theorem xJR {α : Type} {f:Rs→ α × Rs} {g : α → List UInt8} (r:List UInt8):∀l:List α,(∀x∈l,Inv f g x)→itemsS f l.length ⟨l.flatMap g ++ r,0⟩=(l,⟨r,0⟩)
 | [],_=>rfl
 | x :: l,h=>by
   rw [List.flatMap_cons,bK,bJ,itemsS,h x (by simp)]
   simp only [if_true]
   rw [xJR r l (fun y hy=>h y (by simp [hy]))]
theorem xJT {α : Type} {g : α → List UInt8}:∀l:List α,(∀x∈l,0<(g x).length)→l.length≤(l.flatMap g).length
 | [],_=>by simp
 | x :: l,h=>by
   rw [List.flatMap_cons,aZ,bJ]
   have:=h x (by simp)
   have:=xJT l (fun y hy=>h y (by simp [hy]))
   omega
theorem xHR {α : Type} {f:Rs→ α × Rs} {g : α → List UInt8} {l:List α} (hl:l.length≤65535) (h:∀x∈l,Inv f g x) (hp:∀x∈l,0<(g x).length):Inv (listS f) (listW g) l:=fun r=>by
 have hc:countS 65535 ⟨putL l.length ++ (l.flatMap g ++ r),0⟩=(l.length,⟨l.flatMap g ++ r,0⟩):=by
  unfold countS
  have:=xJT l hp
  simp only [xIC _ _ (show l.length<2 ^ 64 by omega),if_true,aX (show ¬65535<l.length by omega),List.drop_left,aZ,aX (show ¬(l.flatMap g).length+r.length<l.length by omega)]
 unfold listS listW
 rw [bK,hc]
 exact xJR r l h
theorem xIA (i:Int):0<(putI i).length:=tP _ _
theorem xJB {x:Ty} (h:TyGood x):Inv typeS typeW x:=fun r=>by
 obtain ⟨kind,mu,reg,elem,flds⟩:=x
 rcases h with ⟨h1,h2,h3,h4⟩ | ⟨h1,h2,h3,h4,h5,h6⟩ | ⟨h1,h2,h3,h4,h5,h6⟩
 ·simp only at h1 h2 h3 h4
  subst h1 h4
  have hp:=xIB (p:=(reg,elem)) h2 h3 r
  unfold pairW at hp
  simp only [bK] at hp
  cases mu
  ·unfold typeW typeS byteS
   simp [hp]
  ·unfold typeW typeS byteS
   simp [hp]
 ·simp only at h1 h2 h3 h4 h5 h6
  subst h1 h2 h3 h4
  have hp:=xHR (f:=numS) (g:=putI) h5 (fun i hi=>xHT (h6 i hi).1 (h6 i hi).2) (fun i _=>xIA i) r
  unfold typeW typeS byteS
  simp [hp]
 ·simp only at h1 h2 h3 h4 h5 h6
  subst h3 h4 h5 h6
  obtain ⟨k,rfl⟩:=bF h1
  have:k=0∨k=1∨k=2:=by omega
  rcases this with rfl | rfl | rfl <;> simp [typeW,typeS,byteS]
theorem xJO (x:Ty):0<(typeW x).length:=by
 unfold typeW
 split
 ·simp
 ·split <;> simp
theorem xIE {t:List ByteArray} {x:Lc} (h:memN x.name t=true) (ht:t.length≤65536) (h0:0≤x.type∧x.type≤65535):Inv (localS t) (localW t) x:=fun r=>by
 unfold localS localW
 rw [bK,xHS h ht]
 simp only [xHT h0.1 h0.2 r]
theorem xHX (t:List ByteArray) (s:ByteArray):0<(nameW t s).length:=xIA _
theorem xKR {t:List ByteArray} {b:Bdy} (h:DGood t b) (r:List UInt8):bodyS t ⟨declW t b ++ r,0⟩=({ b with blocks:=[] },⟨r,0⟩):=by
 unfold bodyS declW
 simp only [bK]
 rw [xHS h.name h.tl]
 simp only
 rw [xHR h.rl (fun s hs=>xHS (h.reg s hs) h.tl) (fun s _=>xHX t s)]
 simp only
 rw [xHR h.ol (fun p hp=>xIB (h.out p hp).1 (h.out p hp).2) (fun p _=>by unfold pairW;have:=xIA p.1;simp only [aZ];omega)]
 simp only
 rw [xHR h.yl (fun x hx=>xJB (h.typ x hx)) (fun x _=>xJO x)]
 simp only
 rw [xHR h.ll (fun x hx=>xIE (h.loc x hx).1 h.tl (h.loc x hx).2) (fun x _=>by unfold localW;have:=xHX t x.name;simp only [aZ];omega)]
 simp only
 rw [xHT h.args.1 h.args.2]
theorem xKQ {t:List ByteArray} {b:Bdy} (h:DGood t b) (c:UInt8) (r:List UInt8):decS t (declW t b ++ c :: r)=(jZ,11):=by
 have:=xKR h (c :: r)
 unfold decS
 rw [this]
 simp [endS]
end
section
open Go Go.RowKit
theorem xJC (l:List ByteArray) (x:ByteArray):x∈tabB [] l↔x∈l:=by
 have h:=tE (bl x) (l.map bl) []
 rw [show ([]:List (List UInt8))=([]:List ByteArray).map bl from rfl,← rI] at h
 simp only [List.mem_map,cM,List.not_mem_nil,false_or] at h
 constructor
 ·intro hx
  obtain ⟨y,hy,e⟩:=h.1 ⟨x,hx,rfl⟩
  exact xEK e ▸ hy
 ·intro hx
  obtain ⟨y,hy,e⟩:=h.2 ⟨x,hx,rfl⟩
  exact xEK e ▸ hy
end
section
open Go Go.RowKit
def Cut {α : Type} (f:Rs→ α × Rs) (g : α → List UInt8) (x : α):Prop:=∀p q,g x=p ++ q→q≠[]→(f ⟨p,0⟩).2.err=4
theorem xKD:∀(f n k m:Nat) (p q:List UInt8),putF f n=p ++ q→q≠[]→n * 2 ^ (7 * k)<2 ^ 64→(0<k→0<n)→9≤f+k→k≤9→getG k m p=(0,0,4)
 | f,n,k,m,[],q,_,_,_,_,_,_=>rfl
 | f,n,k,m,c :: p,q,h,hq,hb,h0,hf,hk=>by
   by_cases hn:n<128
   ·rw [jW hn] at h
    simp only [List.cons_append,List.cons.injEq] at h
    exact absurd (List.append_eq_nil_iff.1 h.2.symm).2 hq
   ·have h9:k<9:=by
     rcases Nat.lt_or_ge k 9 with e | e
     ·exact e
     ·have:k=9:=by omega
      subst this
      have:128 * 2 ^ (7 * 9)≤n * 2 ^ (7 * 9):=Nat.mul_le_mul_right _ (by omega)
      have:(2:Nat) ^ 64≤128 * 2 ^ (7 * 9):=by decide
      omega
    cases f with
    | zero=>omega
    | succ f=>
      have e:(n % 128+128).toUInt8.toNat=n % 128+128:=by simp;omega
      have hq2:n / 128 * 2 ^ (7 * (k+1))≤n * 2 ^ (7 * k):=by
       rw [pow7,← Nat.mul_assoc]
       exact Nat.mul_le_mul_right _ (Nat.div_mul_le_self n 128)
      rw [tQ hn] at h
      simp only [List.cons_append,List.cons.injEq] at h
      obtain ⟨rfl,h⟩:=h
      rw [gT,e,aX (by omega),aX (by omega)]
      exact xKD f (n / 128) (k+1) _ p q h hq (by omega) (fun _=>by omega) (by omega) (by omega)
theorem xKB {n:Nat} {p q:List UInt8} (h:putL n=p ++ q) (hq:q≠[]) (hn:n<2 ^ 64):getL p=(0,0,4):=xKD 10 n 0 0 p q h hq (by omega) (fun h=>absurd h (by omega)) (by omega) (by omega)
theorem split_pre {a b p q:List UInt8} (h:a ++ b=p ++ q) (hq:q≠[]):(∃q',a=p ++ q'∧q'≠[])∨∃p',p=a ++ p'∧b=p' ++ q:=by
 rcases List.append_eq_append_iff.1 h with ⟨c,h1,h2⟩ | ⟨c,h1,h2⟩
 ·exact .inr ⟨c,h1,h2⟩
 ·by_cases hc:c=[]
  ·subst hc
   exact .inr ⟨[],by simpa using h1.symm,by simpa using h2.symm⟩
  ·exact .inl ⟨c,h1,hc⟩
theorem xJX {n most:Nat} (h:n≤most) (hm:most<2 ^ 64) {p q:List UInt8} (he:putL n=p ++ q) (hq:q≠[]):(uintS most ⟨p,0⟩).2.err=4:=by
 unfold uintS
 simp [xKB he hq (by omega)]
theorem xID {i:Int} (h0:0≤i∧i≤65535):Cut numS putI i:=fun p q he hq=>xJX (n:=i.toNat) (by omega) (by omega) he hq
theorem xJN {t:List ByteArray} {s:ByteArray} (h:memN s t=true) (ht:t.length≤65536):Cut (nameS t) (nameW t) s:=fun p q he hq=>by
 obtain ⟨j,h1,h2⟩:=uD s t 0 h
 have hj:=(List.getElem?_eq_some_iff.1 h2).1
 unfold nameW putI at he
 rw [h1] at he
 have:=xJX (most:=65535) (n:=(((0+j:Nat):Int)).toNat) (by omega) (by omega) he hq
 unfold nameS
 rw [aX (by rw [this];decide)]
 exact this
theorem xKG {α β : Type} {f:Rs→ α × Rs} {g : α → List UInt8} {x : α} {f2:Rs→ β × Rs} {g2 : β → List UInt8} {y : β} (hi:Inv f g x) (hc:Cut f g x) (hs:Stay f2) (hc2:Cut f2 g2 y)
 {p q:List UInt8} (he:g x ++ g2 y=p ++ q) (hq:q≠[]):(f2 (f ⟨p,0⟩).2).2.err=4:=by
 rcases split_pre he hq with ⟨q',h1,h2⟩ | ⟨p',h1,h2⟩
 ·have:=hc p q' h1 h2
  rw [hs _ (by rw [this];decide),this]
 ·rw [h1,hi p']
  exact hc2 p' q h2 hq
theorem xKA {a:Int × Int} (h1:0≤a.1∧a.1≤65535) (h2:0≤a.2∧a.2≤65535):Cut pairS pairW a:=fun p q he hq=>
 xKG (xHT h1.1 h1.2) (xID h1) kF (xID h2) he hq
theorem xJS {α : Type} {f:Rs→ α × Rs} {g : α → List UInt8} (hs:Stay f):∀(l:List α) (p q:List UInt8),(∀x∈l,Inv f g x∧Cut f g x)→l.flatMap g=p ++ q→q≠[]→(itemsS f l.length ⟨p,0⟩).2.err=4
 | [],p,q,_,he,hq=>absurd (List.append_eq_nil_iff.1 he.symm).2 hq
 | x :: l,p,q,h,he,hq=>by
   rw [List.flatMap_cons] at he
   rw [bJ,itemsS]
   rcases split_pre he hq with ⟨q',h1,h2⟩ | ⟨p',h1,h2⟩
   ·have:=(h x (by simp)).2 p q' h1 h2
    rw [aX (by rw [this];decide)]
    exact this
   ·rw [h1,(h x (by simp)).1 p']
    simp only [if_true]
    exact xJS hs l p' q (fun y hy=>h y (by simp [hy])) h2 hq
theorem xHY {α : Type} {f:Rs→ α × Rs} {g : α → List UInt8} (hs:Stay f) {l:List α} (hl:l.length≤65535) (h:∀x∈l,Inv f g x∧Cut f g x):Cut (listS f) (listW g) l:=fun p q he hq=>by
 unfold listS
 rcases split_pre he hq with ⟨q',h1,h2⟩ | ⟨p',h1,h2⟩
 ·have hc:(countS 65535 ⟨p,0⟩).2.err=4:=by
   unfold countS
   simp [xKB h1 h2 (show l.length<2 ^ 64 by omega)]
  rw [wI hs _ _ (by rw [hc];decide),hc]
 ·by_cases hlt:p'.length<l.length
  ·have hc:countS 65535 ⟨p,0⟩=(0,⟨[],4⟩):=by
    unfold countS
    rw [h1]
    simp only [xIC _ _ (show l.length<2 ^ 64 by omega),if_true,aX (show ¬65535<l.length by omega),List.drop_left,aY hlt]
   rw [hc]
   rfl
  ·have hc:countS 65535 ⟨p,0⟩=(l.length,⟨p',0⟩):=by
    unfold countS
    rw [h1]
    simp only [xIC _ _ (show l.length<2 ^ 64 by omega),if_true,aX (show ¬65535<l.length by omega),List.drop_left,aX hlt]
   rw [hc]
   exact xJS hs l p' q h h2 hq
theorem xKK {x:Ty} (h:TyGood x):Cut typeS typeW x:=fun p q he hq=>by
 obtain ⟨kind,mu,reg,elem,flds⟩:=x
 cases p with
 | nil=>rfl
 | cons c p=>
   rcases h with ⟨h1,h2,h3,h4⟩ | ⟨h1,h2,h3,h4,h5,h6⟩ | ⟨h1,h2,h3,h4,h5,h6⟩
   ·simp only at h1 h2 h3 h4
    subst h1 h4
    have hp:=fun he'=>xKA (a:=(reg,elem)) h2 h3 p q he' hq
    unfold pairW at hp
    simp only at hp
    cases mu
    ·unfold typeW at he
     simp only [if_true,Bool.false_eq_true,if_false,List.cons_append,List.cons.injEq] at he
     obtain ⟨rfl,he⟩:=he
     unfold typeS byteS
     simp [hp he]
    ·unfold typeW at he
     simp only [if_true,List.cons_append,List.cons.injEq] at he
     obtain ⟨rfl,he⟩:=he
     unfold typeS byteS
     simp [hp he]
   ·simp only at h1 h2 h3 h4 h5 h6
    subst h1 h2 h3 h4
    have hp:=fun he'=>xHY (f:=numS) (g:=putI) kF h5 (fun i hi=>⟨xHT (h6 i hi).1 (h6 i hi).2,xID (h6 i hi)⟩) p q he' hq
    unfold typeW at he
    simp only [aX (show ¬(4:Int)=3 by omega),if_true,List.cons_append,List.cons.injEq] at he
    obtain ⟨rfl,he⟩:=he
    unfold typeS byteS
    simp [hp he]
   ·simp only at h1 h2
    unfold typeW at he
    rw [aX (by simp only;omega),aX (by simp only;omega)] at he
    simp only [List.cons_append,List.cons.injEq] at he
    exact absurd (List.append_eq_nil_iff.1 he.2.symm).2 hq
theorem xKH {t:List ByteArray} {x:Lc} (h:memN x.name t=true) (ht:t.length≤65536) (h0:0≤x.type∧x.type≤65535):Cut (localS t) (localW t) x:=fun p q he hq=>
 xKG (xHS h ht) (xJN h ht) kF (xID h0) he hq
theorem xHU {α : Type} {f:Rs→ α × Rs} {g : α → List UInt8} {x : α} {rest:List UInt8} (hi:Inv f g x) (hc:Cut f g x) (hs:Stay f) {s:Rs} {q:List UInt8} (hq:q≠[])
 (h:s.err=4∨(s.err=0∧g x ++ rest=s.rest ++ q)):(f s).2.err=4∨((f s).2.err=0∧rest=(f s).2.rest ++ q):=by
 rcases h with h | ⟨h,he⟩
 ·left;rw [hs s (by rw [h];decide),h]
 ·obtain ⟨p,e⟩:=s
  simp only at h he
  subst h
  rcases split_pre he hq with ⟨q',h1,h2⟩ | ⟨p',h1,h2⟩
  ·left;exact hc p q' h1 h2
  ·right
   rw [h1,hi p']
   exact ⟨rfl,h2⟩
theorem xKT {t:List ByteArray} {b:Bdy} (h:DGood t b) {p q:List UInt8} (he:declW t b=p ++ q) (hq:q≠[]):decS t p=(jZ,4):=by
 have hb:(bodyS t ⟨p,0⟩).2.err=4:=by
  unfold bodyS
  simp only
  unfold declW at he
  have k1:=xHU (xHS h.name h.tl) (xJN h.name h.tl) (qP t) hq (s:=⟨p,0⟩) (.inr ⟨rfl,he⟩)
  have k2:=xHU (xHR h.rl (fun s hs=>xHS (h.reg s hs) h.tl) (fun s _=>xHX t s)) (xHY (qP t) h.rl (fun s hs=>⟨xHS (h.reg s hs) h.tl,xJN (h.reg s hs) h.tl⟩)) (jC (qP t)) hq k1
  have k3:=xHU (xHR h.ol (fun p hp=>xIB (h.out p hp).1 (h.out p hp).2) (fun p _=>by unfold pairW;have:=xIA p.1;simp only [aZ];omega)) (xHY yR h.ol (fun s hs=>⟨xIB (h.out s hs).1 (h.out s hs).2,xKA (h.out s hs).1 (h.out s hs).2⟩)) (jC yR) hq k2
  have k4:=xHU (xHR h.yl (fun x hx=>xJB (h.typ x hx)) (fun x _=>xJO x)) (xHY xB h.yl (fun s hs=>⟨xJB (h.typ s hs),xKK (h.typ s hs)⟩)) (jC xB) hq k3
  have k5:=xHU (xHR h.ll (fun x hx=>xIE (h.loc x hx).1 h.tl (h.loc x hx).2) (fun x _=>by unfold localW;have:=xHX t x.name;simp only [aZ];omega)) (xHY (wF t) h.ll (fun s hs=>⟨xIE (h.loc s hs).1 h.tl (h.loc s hs).2,xKH (h.loc s hs).1 h.tl (h.loc s hs).2⟩)) (jC (wF t)) hq k4
  rcases k5 with k5 | ⟨k5,k6⟩
  ·rw [kF _ (by rw [k5];decide),k5]
  ·generalize (listS (localS t) (listS typeS (listS pairS (listS (nameS t) (nameS t ⟨p,0⟩).2).2).2).2).2=s at *
   obtain ⟨r,e⟩:=s
   simp only at k5 k6
   subst k5
   exact xID h.args r q k6 hq
 have he:endS (bodyS t ⟨p,0⟩).2=4:=by
  unfold endS
  rw [aX (by rw [hb];decide),hb]
 unfold decS
 rw [he]
 rfl
end
section
open Go Go.RowKit
def allN (b:Bdy):List ByteArray:=(b.name :: b.regions) ++ b.locals.map (·.name) ++ (b.blocks.filter (fun x=>decide (x.term.kind=3))).map (·.term.name)
theorem xJQ:∀{l seen:List ByteArray},namesE seen l=0→∀s∈l,isIdent s=true
 | [],_,_=>by simp
 | x :: r,seen,h=>by
   rw [namesE] at h
   by_cases h1:isIdent x=false
   ·rw [aY h1] at h;cases h
   rw [aX h1] at h
   by_cases h2:memN x seen=true
   ·rw [aY h2] at h;cases h
   rw [aX h2] at h
   intro s hs
   rcases List.mem_cons.1 hs with rfl | hs
   ·simpa using h1
   ·exact xJQ h s hs
theorem xKJ {b:Bdy} (h:chkB b=0):∀s∈allN b,isIdent s=true:=by
 have D:=dY (iB h)
 intro s hs
 unfold allN at hs
 rcases List.mem_append.1 hs with hs | hs
 ·rcases List.mem_append.1 hs with hs | hs
  ·rcases List.mem_cons.1 hs with rfl | hs
   ·exact D.name
   ·have:=D.regs
    unfold namesC at this
    rw [aX (by have:=D.nreg;omega)] at this
    exact xJQ this s hs
  ·obtain ⟨x,hx,rfl⟩:=List.mem_map.1 hs
   exact (D.locs x hx).1
 ·obtain ⟨x,hx,rfl⟩:=List.mem_map.1 hs
  obtain ⟨hx,hk⟩:=List.mem_filter.1 hx
  exact (xBH (xDU (xAN (xGJ h) x hx)).2.2).2.2 (by simpa using hk)
theorem xJZ (s:ByteArray):∀l,sumN (insB s l)≤1+szN s+sumN l
 | []=>by rw [insB,xN];exact aW _
 | x :: r=>by
   have ih:=xJZ s r
   unfold insB
   split
   ·rw [xN];exact aW _
   ·split
    ·rw [xN];omega
    ·rw [xN,xN];omega
theorem xJY:∀(l acc:List ByteArray),sumN (tabB acc l)≤sumN acc+sumN l
 | [],acc=>by rw [tabB];omega
 | s :: r,acc=>by
   have h1:=xJY r (insB s acc)
   have h2:=xJZ s acc
   rw [tabB,xN]
   omega
theorem xJU (l:List Blk) (p:Blk→Bool):sumN ((l.filter p).map (·.term.name))≤sumN (l.map (·.term.name)):=by
 induction l with
 | nil=>simp [sumN]
 | cons x r ih=>
   rw [List.filter_cons]
   by_cases h:p x=true
   ·rw [aY h,cK,cK,xN,xN];omega
   ·rw [aX h,cK,xN];omega
theorem xKU {b:Bdy} (h:namesZ b≤3000):sumN (tabB [] (allN b))≤8000:=by
 have h1:=xJY (allN b) []
 have h2:=xJU b.blocks (fun x=>decide (x.term.kind=3))
 have h3:sumN []=0:=rfl
 have h4:sumN (allN b)≤8000:=by
  unfold allN
  rw [xBM,xBM,xN]
  unfold namesZ at h
  omega
 omega
theorem xJV {b:Bdy} (h:chkB b=0):∀s∈tabB [] (allN b),isIdent s=true:=fun s hs=>xKJ h s ((xJC _ _).1 hs)
theorem xKM {b:Bdy} (h:declC b=0) {tbl:List ByteArray} (hl:tbl.length≤65536) (hm:∀s∈allN b,s∈tbl):DGood tbl b:=
 xAG h hl (tZ.2 (hm _ (by simp [allN]))) (fun s hs=>tZ.2 (hm _ (by simp [allN,hs]))) (fun x hx=>tZ.2 (hm _ (by simp only [allN,List.mem_append,List.mem_map];exact .inl (.inr ⟨x,hx,rfl⟩))))
end
end Go.Proofs.YtbnljlpefpllcaaGreatDoor
