/-
  PrinterFactsAreInjective: the texts that this claim has beyond those of PrinterPlaces. (part 2)
-/
import Derived.Test.YtmknfbfppmkcfaaGreatDoorNG1
import Derived.Lib.Hide
import Derived.Below
import Derived.WalkSmall
import Derived.Laws.World
import Derived.Test.YtmknfbfppmkcfaaGreatDoorProg
import Derived.WalkKit
import Derived.WalkSpells
import Derived.WalkLawsBesides
import Derived.Deep.RegionHeld3
import Derived.Deep.DeepFit
import Derived.Deep.QuietTactic
import Derived.BigQuiet
import Derived.OwnWalk
import Derived.Maps.AppendAt
import Derived.Deep.DeepCutAuto
import Derived.StillTailTactics
import Derived.Lib.ItoaNum
import Derived.Lib.Join
import Derived.RangeFuncNested
import Derived.RangeFuncBound
import Derived.RangeFuncCalls
import Derived.RangeFuncLeaves
import Derived.OwnWalkIn
import Derived.TacticsInMore
import Derived.LoopNIn
import Derived.LoopIn
import Derived.Lib.ItoaLen
import Derived.Laws.IdiomStrings
import Derived.Shelf.Abstract
import Derived.OrdersHeld
import Derived.Deep.RegionHeld
import Derived.Test.YtmknfbfppmkcfaaGreatDoorSg
import Derived.Maps.OwnSet
import Derived.Maps.OwnOps
import Derived.StringKeys
import Derived.Deep.MidRow
import Derived.Deep.LoopGhost
import Derived.WideKeyPair
import Derived.WideKeyArr
import Derived.Test.YtmknfbfppmkcfaaGreatDoorSj
import Derived.Lib.AppendIntMem
import Derived.Test.YtmknfbfppmkcfaaGreatDoorSh
import Derived.RangeFuncBox
import Derived.Lib.AppendStr
import Derived.Lib.Builder
import Derived.WalkMore
import Derived.ChangeKeysEq
import Derived.Deep.CutBlock
import Derived.Test.YtmknfbfppmkcfaaGreatDoorRows
import Derived.ProofKit
import Derived.Deep.Slices
import Derived.Deep.Fields
import Derived.Lib.SmallJoins
import Derived.OpenShut
import Derived.LaidMore
import Derived.Stop.Joined
import Derived.Stop.LaidErr
import Derived.Lay
import Derived.SevenTiedAt
import Derived.Lib.LaidTab
import Derived.Test.YtmknfbfppmkcfaaGreatDoorTie
import Derived.Test.YtmknfbfppmkcfaaGreatDoorCards
import Derived.JoinedOf
import Derived.SizedLaws
namespace Go.Proofs.YtmknfbfppmkcfaaGreatDoor
set_option maxRecDepth 100000
set_option maxHeartbeats 16000000
section
open Go Go.RowKit Go.Maps
theorem xGW (l:List Int) (x:Int) (A:Option Addr) (c:Nat) (w:World) (hs:Slc 1 RInt w A c l):
 Calls Tryz.prog 203 #[.slice A l.length c,.int .i64 x] w fun e' w'=>e' = .returned (.bool (decide (x∈l)))/\w'=w:=by
 have hle:=hs.le;have hbig:=hs.big;obtain ⟨R,hR⟩:∃R,decide (x∈l)=R:=⟨_,rfl⟩;rw [hR];have HR:=aF hR;have HS:=aF hs;clear hR hs;go_enter Tryz.func203,Tryz.ntmps203
 go_wp2_with fail
 go_loop [5] (fun v=>∃k:Nat,k<=l.length/\v = .int .i64 k/\Hid (R=decide (x∈l.drop k))) (fun v=>l.length - (intOf v).toNat)
 case atStart=>exact ⟨0,by omega,rfl,aF HR.out.symm⟩
 case round=>
  obtain ⟨k,hk,rfl,hr⟩:=hrel;by_cases hlt:k<l.length
  ·have hd:=cS hlt;obtain ⟨b,o,rfl,hb,hx⟩:=HS.out.sl.at_ hlt;obtain ⟨y,hy⟩:∃y,l[k]=y:=⟨_,rfl⟩;rw [hy] at hd hx;have x0:w.cell? ⟨b,o+k,none⟩=some (.int .i64 y):=by simpa [RInt] using hx
   clear hx hy;by_cases h0:y=x
   ·have HN:Hid (R=true):=aF (by rw [hr.out,hd,h0];simp);have e1:(y == x)=true:=by simp [h0]
    clear hd hr h0;go_wp2_with fail
    all_goals first
     | (exfalso;omega)
     | (go_ret;exact ⟨by rw [HN.out];rfl,rfl⟩)
   ·have HN:Hid (R=decide (x∈l.drop (k+1))):=aF (by rw [hr.out,hd];simp [Ne.symm h0]);have e1:(y == x)=false:=by simp [h0]
    clear hd hr h0;go_wp2_with fail
    go_round
    case rel=>exact ⟨k+1,by omega,by go_num,HN⟩
    case measure=>simp [intOf];omega
  ·have HN:Hid (R=false):=aF (by rw [hr.out,bE (by omega)];simp);clear hr;go_wp2_with fail
   go_ret;exact ⟨by rw [HN.out];rfl,rfl⟩
def putR (x:Int) (s:List Int) (p:Int × Int):List Int:=if p.1=x/\p.2∉s then s ++ [p.2] else s
theorem xHD (pairs:List (Int × Int)) (x:Int) (s:List Int):nextR pairs x s=pairs.foldl (putR x) s:=rfl
theorem xGA {pairs:List (Int × Int)} {n:Nat} (hr:∀p∈pairs,0<=p.1/\p.1<(n:Int)/\0<=p.2/\p.2<(n:Int)) {s:List Int} {x:Int} {p:Int × Int} (hp:p∈pairs) (hn:s.Nodup) (hs:∀y∈s,0<=y/\y<(n:Int)):
 (putR x s p).Nodup/\∀y∈putR x s p,0<=y/\y<(n:Int):=by
 unfold putR;by_cases h:p.1=x/\p.2∉s
 ·rw [bA h];constructor
  ·rw [List.nodup_append];refine ⟨hn,by simp,fun a ha b hb=>?_⟩;rw [bS] at hb;subst hb;exact fun e=>h.2 (e ▸ ha)
  ·intro y hy;rcases List.mem_append.1 hy with hy | hy
   ·exact hs y hy
   ·rw [bS] at hy;subst hy;exact ⟨(hr p hp).2.2.1,(hr p hp).2.2.2⟩
 ·rw [aZ h];exact ⟨hn,hs⟩
theorem xHC (x:Int) (s:List Int) (p:Int × Int) (i:Nat) (y:Int) (h:s[i]?=some y):(putR x s p)[i]?=some y:=by
 unfold putR;split
 ·rw [List.getElem?_append_left (List.getElem?_eq_some_iff.1 h).1];exact h
 ·exact h
theorem xCC (pairs:List (Int × Int)) (n:Nat) (a b:Int) (A:Option Addr) (c:Nat) (w:World) (hs:Slc 2 RPr w A c pairs) (hr:∀p∈pairs,0<=p.1/\p.1<(n:Int)/\0<=p.2/\p.2<(n:Int)) (hn:n<=65536):
 Calls Tryz.prog 171 #[.slice A pairs.length c,.int .i64 n,.int .i64 a,.int .i64 b] w fun e' w'=>e' = .returned (.bool (outB pairs n a b))/\Below w.heap.size w w':=by
 have hle:=hs.le;have hbig:=hs.big;have HS:=aF hs;clear hs;by_cases hab:0<=a/\a<(n:Int)/\0<=b/\b<(n:Int)
 case neg=>
  have HF:Hid (outB pairs n a b=false):=aF (by unfold outB;rw [bA (by omega)]);rw [HF.out];go_enter Tryz.func171,Tryz.ntmps171
  go_wp2_with fail
  all_goals first
   | (exfalso;omega)
   | (go_ret;exact ⟨rfl,aX _ _⟩)
 case pos=>
  obtain ⟨ha0,ha1,hb0,hb1⟩:=hab;have HQ:Hid (outB pairs n a b=outF pairs b (n+1) [a] 0):=aF (by unfold outB;rw [aZ (by omega)];rfl);generalize outB pairs n a b=q at HQ ⊢;obtain ⟨i0,hi,hz0,hz1,hz2⟩:=info_parts eF;have e1:¬a<0:=by omega
  have e2:¬(n:Int)<=a:=by omega
  have e3:¬b<0:=by omega
  have e4:¬(n:Int)<=b:=by omega
  go_enter Tryz.func171,Tryz.ntmps171
  go_wp2_with fail
  have HOWN0:Hid ((w.alloc (.cells #[.int .i64 a] 3)).ownsRow w.heap.size 3 1 (.slice (some ⟨w.heap.size,0,none⟩) 1 1) [a].length ([a].map (Value.int .i64))):=aF ⟨by simp,.inr ⟨w.heap.size,1,#[.int .i64 a],rfl,aY _,Array.getElem?_push_size,by simp,by unfold maxLen;omega,by simp,by simp⟩⟩;go_loopg [9,10] (n+1) (fun gk v iv wr=>∃(s:List Int) (i:Nat),gk+i=n+1/\iv = .int .i64 i/\Hid (s.Nodup)/\Hid (∀y∈s,0<=y/\y<(n:Int))/\Hid (wr.ownsRow w.heap.size 3 1 v s.length (s.map (Value.int .i64)))/\Hid (Below w.heap.size w wr)/\w.heap.size+1<=wr.heap.size/\Hid (q=outF pairs b gk s i))
  case atStart=>exact ⟨[a],0,by omega,rfl,aF (by simp),aF (by simp;omega),HOWN0,aF ((aX _ _).alloc (aY _) _),by simp,HQ⟩
  case round=>
   clear HOWN0 HQ;obtain ⟨s,i,hgk,rfl,HND,HRG,HOWN,HBL,hsz,HQ⟩:=hrel;have hlen:=fA n s HND.out HRG.out;obtain ⟨B,c2,rfl,hsl⟩:=dE HOWN.out;have hsle:=hsl.le;have hsbig:=hsl.big;by_cases hlt:i<s.length
   ·obtain ⟨g,o,rfl,hg,hx⟩:=hsl.sl.at_ hlt;obtain ⟨x,hxx⟩:∃x,s[i]=x:=⟨_,rfl⟩;have hsi:s[i]?=some x:=(by rw [bD hlt,hxx]);rw [hxx] at hx;have x0:wr.cell? ⟨g,o+i,none⟩=some (.int .i64 x):=(by simpa [RInt] using hx);obtain ⟨m,rfl⟩:∃m,gk=m+1:=⟨gk - 1,by omega⟩;clear hx hxx hsl;by_cases hxb:x=b
    ·have HF:Hid (q=true):=aF (by rw [HQ.out,outF,hsi];simp [hxb]);have e5:(x == b)=true:=by simp [hxb]
     clear HQ hsi hxb;go_wp2_with fail
     go_ret;exact ⟨by rw [HF.out];rfl,HBL.out⟩
    have e5:(x == b)=false:=by simp [hxb]
    have HQ2:Hid (q=outF pairs b m ((pairs.take pairs.length).foldl (putR x) s) (i+1)):=aF (by rw [HQ.out,outF,hsi,cA];simp only;rw [aZ hxb,xHD]);have HSI:=aF hsi;clear HQ hsi hxb;go_wp2_with fail
    go_loopg [9,11] pairs.length (fun gj v jv wr2=>∃(s2:List Int) (j:Nat),gj=pairs.length - j/\j<=pairs.length/\jv = .int .i64 j/\Hid (s2=(pairs.take j).foldl (putR x) s)/\Hid (s2[i]?=some x)/\Hid (s2.Nodup)/\Hid (∀y∈s2,0<=y/\y<(n:Int))/\Hid (wr2.ownsRow w.heap.size 3 1 v s2.length (s2.map (Value.int .i64)))/\Hid (Below w.heap.size w wr2)/\w.heap.size+1<=wr2.heap.size)
    case atStart=>exact ⟨s,0,by omega,by omega,rfl,aF rfl,HSI,HND,HRG,HOWN,HBL,hsz⟩
    case round=>
     clear HSI HND HRG HOWN HBL x0 e5 hsz hlt hsle hsbig hg hlen;obtain ⟨s2,j,hgj,hj,rfl,HS2,HSI,HND,HRG,HOWN,HBL,hsz⟩:=hrel;have hlen:=fA n s2 HND.out HRG.out;obtain ⟨B2,c3,rfl,hsl⟩:=dE HOWN.out;have hsle:=hsl.le;have hsbig:=hsl.big;by_cases hlt:j<pairs.length
     ·have hil:i<s2.length:=(List.getElem?_eq_some_iff.1 HSI.out).1;have HIL:=aF hil;obtain ⟨g2,o2,rfl,hg2,hx⟩:=hsl.sl.at_ hil
      have hx2:RInt wr wr.heap.size g2 (o2+i * 1) x:=by
       have hxx:=HSI.out;rw [bD hil] at hxx;injection hxx with hxx
       exact hxx ▸ hx
      have x0:wr.cell? ⟨g2,o2+i,none⟩=some (.int .i64 x):=(by simpa [RInt] using hx2);obtain ⟨bp,op,rfl,hbp,hp⟩:=(HS.out.keep RPr.keeps HBL.out).sl.at_ hlt;have HTK:Hid ((pairs.take (j+1)).foldl (putR x) s=putR x s2 pairs[j]):=aF (by rw [bF hlt,List.foldl_append,<- HS2.out];rfl);have HPM:=aF (xGA hr (x:=x) (bN hlt) HND.out HRG.out);have HPP:=aF (xHC x s2 pairs[j] i x HSI.out);obtain ⟨p,hpp⟩:∃p,pairs[j]=p:=⟨_,rfl⟩;rw [hpp] at hp HTK HPM HPP;obtain ⟨p1,p2⟩:=p;obtain ⟨y0,y1⟩:=hp;simp only at y0 y1;have HSL:=aF (xGW s2 p2 (some ⟨g2,o2,none⟩) c3 wr.drew (hsl.keep RInt.keeps ((aX _ _).drew)));clear hx hx2 hpp hsl hil;go_wp2_with fail
      have hS:wr.drew.cell? ⟨bp,op+j * 2,none⟩=some (.int .i64 p1)/\wr.drew.cell? ⟨bp,op+j * 2+1,none⟩=some (.int .i64 p2)/\wr.drew.cell? ⟨g2,o2+i,none⟩=some (.int .i64 x):=⟨y0,y1,x0⟩;have hil:=HIL.out;by_cases hpx:p1=x
      ·have e6:(p1 == x)=true:=by simp [hpx]
       refine cQ (S:=fun X=>X.cell? ⟨bp,op+j * 2,none⟩=some (.int .i64 p1)/\X.cell? ⟨bp,op+j * 2+1,none⟩=some (.int .i64 p2)/\X.cell? ⟨g2,o2+i,none⟩=some (.int .i64 x)) [0,1,2,3,4,5,6,7,8,9,10,11,12,13,14,15,16,17,18,19] (by kernel_rfl) ?_;(iterate 9 (refine cR (v:=?_) ?_ hS ?_;rotate_left;(next=>(rintro X ⟨s0,s1,s2'⟩;(try simp only [aI]);go_simp;rfl));simp only [aM]));try rw [e6]
       (iterate 2 (refine cR (v:=?_) ?_ hS ?_;rotate_left;(next=>(rintro X ⟨s0,s1,s2'⟩;(try simp only [aI]);go_simp;rfl));simp only [aM]));(iterate 6 (refine cR (v:=?_) ?_ hS ?_;rotate_left;(next=>(rintro X ⟨s0,s1,s2'⟩;(try simp only [aI]);go_simp;rfl));simp only [aM]));(refine cM (fun K1 hK1=>?_);simp only [aM];rw [bA (by rfl)];go_simp);refine HSL.out.mono ?_;rintro e' w3 ⟨rfl,hw⟩;obtain rfl:=hw.symm;refine hK1.out _ _ (fun _=>hS) ?_;(iterate 2 (refine cR (v:=?_) ?_ hS ?_;rotate_left;(next=>(rintro X ⟨s0,s1,s2'⟩;(try simp only [aI]);go_simp;rfl));simp only [aM]));refine cV ?_;by_cases hm:p2∈s2
       ·have hmd:decide (p2∈s2)=true:=(by simp [hm]);have HP:Hid (putR x s2 (p1,p2)=s2):=aF (by unfold putR;rw [aZ (fun h=>h.2 hm)]);rw [hmd];clear hmd hm;go_wp2_with fail
        go_roundg (pairs.length - (j+1))
        case measure=>omega
        case rel=>exact ⟨s2,j+1,rfl,by omega,by go_num,aF (by rw [HTK.out,HP.out]),HSI,HND,HRG,aF (HOWN.out.drew),aF (HBL.out.drew),hsz⟩
       ·have hmd:decide (p2∈s2)=false:=(by simp [hm]);have HP:Hid (putR x s2 (p1,p2)=s2 ++ [p2]):=aF (by unfold putR;rw [bA ⟨hpx,hm⟩]);have hln:=fA n _ HPM.out.1 HPM.out.2;rw [HP.out,bB,cG] at hln;rw [hmd];clear hmd hm;go_wp2_with (at_builtin;refine wpList_append_own _ rfl _ _ 58 rfl w.heap.size 3 i0 (.int .i64 0) 1 8 Tryz.underlying58 hi hz0 hz1 hz2 rfl (by decide) _ _ _ rfl (HOWN.out.drew.alloc _) ⟨_,0,none⟩ 1 1 [.int .i64 p2] rfl rfl (dZ _ _ _ _ (by first | rfl | simp)) (ints_oneCell .i64 [p2]) (by unfold maxLen;omega) (by omega) (by simp;omega) ?_;intro v4 w4 hown4 hg4 _)
        have hs4:=hg4.size;go_roundg (pairs.length - (j+1))
        case measure=>omega
        case rel=>exact ⟨s2 ++ [p2],j+1,rfl,by omega,by go_num,aF (by rw [HTK.out,HP.out]),aF (HP.out ▸ HPP.out),aF (HP.out ▸ HPM.out.1),aF (HP.out ▸ HPM.out.2),aF (by rw [bB,cG,bU];exact hown4),aF ((HBL.out.drew.alloc (by simp;omega) _).grown hg4 (by simp;omega) (fun k hk=>(HOWN.out.lt k hk).1)),by simp at hs4;omega⟩
      ·have e6:(p1 == x)=false:=by simp [hpx]
       have HP:Hid (putR x s2 (p1,p2)=s2):=aF (by unfold putR;rw [aZ (fun h=>hpx h.1)]);refine cQ (S:=fun X=>X.cell? ⟨bp,op+j * 2,none⟩=some (.int .i64 p1)/\X.cell? ⟨bp,op+j * 2+1,none⟩=some (.int .i64 p2)/\X.cell? ⟨g2,o2+i,none⟩=some (.int .i64 x)) [0,1,2,3,4,5,6,7,8,9,10,11,12,13,14,15,16,17,18,19] (by kernel_rfl) ?_;(iterate 9 (refine cR (v:=?_) ?_ hS ?_;rotate_left;(next=>(rintro X ⟨s0,s1,s2'⟩;(try simp only [aI]);go_simp;rfl));simp only [aM]));try rw [e6]
       (iterate 2 (refine cR (v:=?_) ?_ hS ?_;rotate_left;(next=>(rintro X ⟨s0,s1,s2'⟩;(try simp only [aI]);go_simp;rfl));simp only [aM]));(iterate 8 (refine cU (v:=undef) (by kernel_rfl) (fun _ _ _ h=>h) (Or.inr ⟨by rfl,rfl⟩) hS ?_;simp only [aM]));((refine cR (v:=?_) ?_ hS ?_;rotate_left;(next=>(rintro X ⟨s0,s1,s2'⟩;(try simp only [aI]);go_simp;rfl));simp only [aM]))
       refine cV ?_;go_wp2_with fail
       go_roundg (pairs.length - (j+1))
       case measure=>omega
       case rel=>exact ⟨s2,j+1,rfl,by omega,by go_num,aF (by rw [HTK.out,HP.out]),HSI,HND,HRG,aF (HOWN.out.drew),aF (HBL.out.drew),hsz⟩
     ·have HF:Hid (q=outF pairs b m s2 (i+1)):=aF (by rw [HQ2.out,HS2.out,show j=pairs.length by omega]);clear HS2 HSI;go_wp2_with fail
      go_roundg m
      case measure=>omega
      case rel=>exact ⟨s2,i+1,by omega,by go_num,HND,HRG,HOWN,HBL,hsz,HF⟩
   ·have HF:Hid (q=false):=aF (by
     rw [HQ.out];cases gk with
     | zero=>rfl
     | succ m=>rw [outF,cE (by omega)])
    clear HQ;go_wp2_with fail
    go_ret;exact ⟨by rw [HF.out];rfl,HBL.out⟩
end
section
open Go Go.RowKit
theorem xGC (ts:List Ty) (A:Option Addr) (c:Nat) (w:World) (hs:Slc 5 RTy w A c ts):
 Calls Tryz.prog 65 #[.slice A ts.length c] w fun e' w'=>(∃q,e' = .returned (.int .i64 q)/\(q<=0->ts.length<=200))/\Below w.heap.size w w':=by
 have hle:=hs.le;have hbig:=hs.big;go_enter Tryz.func65,Tryz.ntmps65
 go_wp2
 go_loopw [3,8] (fun n v wr=>∃k m:Nat,k<=ts.length/\k<=m/\m<=200/\n = .int .i64 m/\v = .int .i64 k/\Below w.heap.size w wr) (fun _ v _=>ts.length - (intOf v).toNat)
 case atStart=>exact ⟨0,0,by omega,by omega,by omega,rfl,rfl,aX _ _⟩
 case round=>
  obtain ⟨k,m,hk,hkm,hm,rfl,rfl,hB⟩:=hrel;by_cases hlt:k<ts.length
  ·obtain ⟨b1,o1,rfl,hb1,r1⟩:=hs.sl.at_ hlt;obtain ⟨r1,r2,r3,r4,A2,c2,r5,r6,r7,r8⟩:=RTy.keeps _ _ _ w.heap.size _ _ _ (aY _) hb1 hB r1;generalize ts[k]=x at *;clear r8 hs;have hBs:=hB.size;go_wp2
   all_goals first
    | (go_ret
       exact ⟨⟨1,rfl,by omega⟩,aH⟩)
    | (go_roundw
       case rel=>
        refine ⟨k+1,m+(1+if 500<x.flds.length then 500 else x.flds.length),by omega,by omega,?_,?_,by go_num,aH⟩
        ·grind
        ·congr 1;grind
       case measure=>simp [intOf];omega)
  ·go_wp2
   go_ret;exact ⟨⟨0,rfl,fun _=>by omega⟩,hB⟩
end
section
open Go Go.RowKit Go.Maps Go.WideMaps
theorem xEO {b:Bdy} {o:Opd} (h:opE b o=0):0<=o.kind/\o.kind<=4:=by
 unfold opE at h;by_cases c1:o.kind<0\/4<o.kind
 ·rw [bA c1] at h;cases h
 ·omega
end
section
open Go Go.RowKit
def shapeE (r:Rvl):Int:=if r.kind<0\/4<r.kind then 14 else if unusedR r=false then 2 else 0
theorem xFJ (r:Rvl) (A B:Option Addr) (c d:Nat) (w:World):
 Calls Tryz.prog 99 #[.agg (rvC r A c B d).toArray] w fun e' w'=>e' = .returned (.bool (dM r))/\Below w.heap.size w w':=by
 have HZ:=aF (fun W=>xAF r.place A c W);obtain ⟨q2,hq2⟩:∃q,(r.kind == 0)=q:=⟨_,rfl⟩;obtain ⟨q3,hq3⟩:∃q,(r.op == 0)=q:=⟨_,rfl⟩;obtain ⟨q4,hq4⟩:∃q,((r.args.length:Int) == 0)=q:=⟨_,rfl⟩;obtain ⟨q5,hq5⟩:∃q,(r.reg == 0)=q:=⟨_,rfl⟩;obtain ⟨q6,hq6⟩:∃q,r.mu=q:=⟨_,rfl⟩;obtain ⟨q7,hq7⟩:∃q,zeroP r.place=q:=⟨_,rfl⟩
 have HBL:Hid (dM r=(q2 && q3 && q4 && q5 && !q6 && q7)):=aF (by
  unfold dM;rw [<- hq2,<- hq3,<- hq4,<- hq5,<- hq6,<- hq7,eR]
  rfl)
 rw [hq7] at HZ;generalize dM r=R at HBL ⊢;clear hq7;unfold rvC;rcases (show q2=false\/(q2=true/\q3=false)\/(q2=true/\q3=true/\q5=false)\/(q2=true/\q3=true/\q5=true/\q6=true)\/(q2=true/\q3=true/\q5=true/\q6=false/\q7=false)\/(q2=true/\q3=true/\q5=true/\q6=false/\q7=true) by cases q2 <;> cases q3 <;> cases q5 <;> cases q6 <;> cases q7 <;> simp) with rfl | ⟨rfl,rfl⟩ | ⟨rfl,rfl,rfl⟩ | ⟨rfl,rfl,rfl,rfl⟩ | ⟨rfl,rfl,rfl,rfl,rfl⟩ | ⟨rfl,rfl,rfl,rfl,rfl⟩
 all_goals
  go_enter Tryz.func99,Tryz.ntmps99
  go_wp2_with (go_at_call 98;refine (HZ.out _).mono ?_;rintro e' w1 ⟨rfl,hb1⟩;have HB:=aF (((aX _ _).alloc (aY _) _).trans (hb1.mono ((aX _ _).alloc (aY _) _).size));have y:=cK (cP w _ _) hb1;obtain ⟨y0,y1,y2,y3,y4,y5,y6⟩:=aS y;clear y hb1)
  go_ret;refine ⟨?_,by first | exact HB.out | exact aH⟩;rw [HBL.out];clear HZ HBL;first | rfl | (simp;done) | (cases q4 <;> simp;done) | (cases q3 <;> cases q4 <;> cases q5 <;> cases q6 <;> cases q7 <;> simp;done)
theorem xAH (r:Rvl) (A B:Option Addr) (c d:Nat) (w:World):
 Calls Tryz.prog 141 #[.agg (rvC r A c B d).toArray] w fun e' w'=>e' = .returned (.int .i64 (shapeE r))/\Below w.heap.size w w':=by
 have HZ:=aF (fun W=>xAF r.place A c W);obtain ⟨R,hR⟩:∃R,shapeE r=R:=⟨_,rfl⟩;rw [hR];unfold shapeE at hR;by_cases h0:r.kind<0\/4<r.kind
 ·have HF:Hid (R=14):=aF (by rw [<- hR,bA h0]);clear hR HZ;unfold rvC;go_enter Tryz.func141,Tryz.ntmps141
  go_wp2_with fail
  all_goals first
   | (exfalso;omega)
   | (go_ret;exact ⟨by rw [HF.out];rfl,aH⟩)
 rw [aZ h0] at hR;obtain ⟨q3,hq3⟩:∃q,(r.op != 0)=q:=⟨_,rfl⟩;obtain ⟨q5,hq5⟩:∃q,(r.reg != 0)=q:=⟨_,rfl⟩;obtain ⟨q6,hq6⟩:∃q,r.mu=q:=⟨_,rfl⟩;obtain ⟨q7,hq7⟩:∃q,zeroP r.place=q:=⟨_,rfl⟩;obtain ⟨n,hn⟩:∃n,r.args.length=n:=⟨_,rfl⟩;have k3:decide (r.op=0) = !q3:=by rw [<- hq3,bR];simp
 have k5:decide (r.reg=0) = !q5:=by rw [<- hq5,bR];simp
 have HR:Hid (R=if (let plain:=(!q5) && !q6 && q7;if r.kind=0 then plain && !q3 && decide (n=1) else if r.kind=1 then !q3 && decide (n=0) else if r.kind=2 then plain && decide (n=1) else if r.kind=3 then plain && decide (n=2) else plain && !q3)=false then 2 else 0):=aF (by
  rw [<- hR];unfold unusedR
  rw [k3,k5,hq6,hq7,hn])
 rw [hq7] at HZ;clear hR k3 k5 hq7;unfold rvC;rw [hn,hq6];rcases (show r.kind=0\/r.kind=1\/r.kind=2\/r.kind=3\/r.kind=4 by omega) with hk | hk | hk | hk | hk
 ·rw [hk] at HR ⊢;have HF:=aF HR.out;clear HR hk h0 hn hq6;simp only at HF;rcases (show q3=true\/(q3=false/\q5=true)\/(q3=false/\q5=false/\q6=true)\/(q3=false/\q5=false/\q6=false/\q7=false)\/(q3=false/\q5=false/\q6=false/\q7=true) by cases q3 <;> cases q5 <;> cases q6 <;> cases q7 <;> simp) with rfl | ⟨rfl,rfl⟩ | ⟨rfl,rfl,rfl⟩ | ⟨rfl,rfl,rfl,rfl⟩ | ⟨rfl,rfl,rfl,rfl⟩
  all_goals
   go_enter Tryz.func141,Tryz.ntmps141
   go_wp2_with (go_at_call 98;refine (HZ.out _).mono ?_;rintro e' w1 ⟨rfl,hb1⟩;have HB:=aF (((aX _ _).alloc (aY _) _).trans (hb1.mono ((aX _ _).alloc (aY _) _).size));have y:=cK (cP w _ _) hb1;obtain ⟨y0,y1,y2,y3,y4,y5,y6⟩:=aS y;clear y hb1)
   all_goals first
    | (exfalso;omega)
    | (go_ret
       refine ⟨?_,by first | exact HB.out | exact aH⟩;rw [HF.out];refine congrArg (fun i=>Ending.returned (Value.int .i64 i)) ?_;clear HF HZ;try clear HB y0 y1 y2 y3 y4 y5 y6
       first | rfl | (simp;done) | (simp;omega) | (simp_all;done) | (simp_all;omega) | grind)
 ·rw [hk] at HR ⊢;have HF:=aF HR.out;clear HR hk h0 hn hq6;simp only at HF;cases q3
  all_goals
   go_enter Tryz.func141,Tryz.ntmps141
   go_wp2_with (go_at_call 98;refine (HZ.out _).mono ?_;rintro e' w1 ⟨rfl,hb1⟩;have HB:=aF (((aX _ _).alloc (aY _) _).trans (hb1.mono ((aX _ _).alloc (aY _) _).size));have y:=cK (cP w _ _) hb1;obtain ⟨y0,y1,y2,y3,y4,y5,y6⟩:=aS y;clear y hb1)
   all_goals first
    | (exfalso;omega)
    | (go_ret
       refine ⟨?_,by first | exact HB.out | exact aH⟩;rw [HF.out];refine congrArg (fun i=>Ending.returned (Value.int .i64 i)) ?_;clear HF HZ;try clear HB y0 y1 y2 y3 y4 y5 y6
       first | rfl | (simp;done) | (simp;omega) | (simp_all;done) | (simp_all;omega) | grind)
 ·rw [hk] at HR ⊢;have HF:=aF HR.out;clear HR hk h0 hn hq6;simp only at HF;rcases (show q5=true\/(q5=false/\q6=true)\/(q5=false/\q6=false/\q7=false)\/(q5=false/\q6=false/\q7=true) by cases q5 <;> cases q6 <;> cases q7 <;> simp) with rfl | ⟨rfl,rfl⟩ | ⟨rfl,rfl,rfl⟩ | ⟨rfl,rfl,rfl⟩
  all_goals
   go_enter Tryz.func141,Tryz.ntmps141
   go_wp2_with (go_at_call 98;refine (HZ.out _).mono ?_;rintro e' w1 ⟨rfl,hb1⟩;have HB:=aF (((aX _ _).alloc (aY _) _).trans (hb1.mono ((aX _ _).alloc (aY _) _).size));have y:=cK (cP w _ _) hb1;obtain ⟨y0,y1,y2,y3,y4,y5,y6⟩:=aS y;clear y hb1)
   all_goals first
    | (exfalso;omega)
    | (go_ret
       refine ⟨?_,by first | exact HB.out | exact aH⟩;rw [HF.out];refine congrArg (fun i=>Ending.returned (Value.int .i64 i)) ?_;clear HF HZ;try clear HB y0 y1 y2 y3 y4 y5 y6
       first | rfl | (simp;done) | (simp;omega) | (simp_all;done) | (simp_all;omega) | grind)
 ·rw [hk] at HR ⊢;have HF:=aF HR.out;clear HR hk h0 hn hq6;simp only at HF;rcases (show q5=true\/(q5=false/\q6=true)\/(q5=false/\q6=false/\q7=false)\/(q5=false/\q6=false/\q7=true) by cases q5 <;> cases q6 <;> cases q7 <;> simp) with rfl | ⟨rfl,rfl⟩ | ⟨rfl,rfl,rfl⟩ | ⟨rfl,rfl,rfl⟩
  all_goals
   go_enter Tryz.func141,Tryz.ntmps141
   go_wp2_with (go_at_call 98;refine (HZ.out _).mono ?_;rintro e' w1 ⟨rfl,hb1⟩;have HB:=aF (((aX _ _).alloc (aY _) _).trans (hb1.mono ((aX _ _).alloc (aY _) _).size));have y:=cK (cP w _ _) hb1;obtain ⟨y0,y1,y2,y3,y4,y5,y6⟩:=aS y;clear y hb1)
   all_goals first
    | (exfalso;omega)
    | (go_ret
       refine ⟨?_,by first | exact HB.out | exact aH⟩;rw [HF.out];refine congrArg (fun i=>Ending.returned (Value.int .i64 i)) ?_;clear HF HZ;try clear HB y0 y1 y2 y3 y4 y5 y6
       first | rfl | (simp;done) | (simp;omega) | (simp_all;done) | (simp_all;omega) | grind)
 ·rw [hk] at HR ⊢;have HF:=aF HR.out;clear HR hk h0 hn hq6;simp only at HF;rcases (show q3=true\/(q3=false/\q5=true)\/(q3=false/\q5=false/\q6=true)\/(q3=false/\q5=false/\q6=false/\q7=false)\/(q3=false/\q5=false/\q6=false/\q7=true) by cases q3 <;> cases q5 <;> cases q6 <;> cases q7 <;> simp) with rfl | ⟨rfl,rfl⟩ | ⟨rfl,rfl,rfl⟩ | ⟨rfl,rfl,rfl,rfl⟩ | ⟨rfl,rfl,rfl,rfl⟩
  all_goals
   go_enter Tryz.func141,Tryz.ntmps141
   go_wp2_with (go_at_call 98;refine (HZ.out _).mono ?_;rintro e' w1 ⟨rfl,hb1⟩;have HB:=aF (((aX _ _).alloc (aY _) _).trans (hb1.mono ((aX _ _).alloc (aY _) _).size));have y:=cK (cP w _ _) hb1;obtain ⟨y0,y1,y2,y3,y4,y5,y6⟩:=aS y;clear y hb1)
   all_goals first
    | (exfalso;omega)
    | (go_ret
       refine ⟨?_,by first | exact HB.out | exact aH⟩;rw [HF.out];refine congrArg (fun i=>Ending.returned (Value.int .i64 i)) ?_;clear HF HZ;try clear HB y0 y1 y2 y3 y4 y5 y6
       first | rfl | (simp;done) | (simp;omega) | (simp_all;done) | (simp_all;omega) | grind)
end
section
open Go Go.RowKit Go.Maps
theorem xFT (b:Bdy) (hok:DeclOk b) (m:Nat) (HREC0:∀(s t:Int),s.toNat+t.toNat<m->∀(A D:Option Addr) (c d:Nat) (w:World),Slc 5 RTy w A c b.types->Slc 2 RPr w D d b.outl->Calls Tryz.prog 172 #[.slice D b.outl.length d,.int .i64 b.regions.length,.slice A b.types.length c,.int .i64 s,.int .i64 t] w fun e' w'=>e' = .returned (.bool (subB b s t))/\Below w.heap.size w w') (i j0:Nat) (hm:(i:Int).toNat+(j0:Int).toNat<m+1) (hi:i<b.types.length) (hj0:j0<b.types.length) (A D:Option Addr) (c d:Nat) (w:World) (hs:Slc 5 RTy w A c b.types) (hd:Slc 2 RPr w D d b.outl) (hcase:((b.types[i].kind != b.types[j0].kind) || (b.types[i].mu != b.types[j0].mu) || ((b.types[i].flds.length:Int) != (b.types[j0].flds.length:Int)))=true):
 Calls Tryz.prog 172 #[.slice D b.outl.length d,.int .i64 b.regions.length,.slice A b.types.length c,.int .i64 i,.int .i64 j0] w fun e' w'=>e' = .returned (.bool (subB b i j0))/\Below w.heap.size w w':=by
 have hle:=hs.le;have hbig:=hs.big;have HREC:=aF (fun (x y:Int) (h:x.toNat+y.toNat<m) W (hb:Below w.heap.size w W)=>HREC0 x y h A D c d W (hs.keep RTy.keeps hb) (hd.keep RPr.keeps hb));have HO:=aF (fun (x y:Int) W (hb:Below w.heap.size w W)=>xCC b.outl b.regions.length x y D d W (hd.keep RPr.keeps hb) hok.pairs (by have:=hok.nreg;omega));have h1:¬(i:Int)<0:=by omega
 have h2:¬(b.types.length:Int)<=(i:Int):=by omega
 have h3:¬(j0:Int)<0:=by omega
 have h4:¬(b.types.length:Int)<=(j0:Int):=by omega
 have HSB:=aF (mG hok.tyok hi hj0);have HOKS:=aF (hok.tyok i hi);have HOKT:=aF (hok.tyok j0 hj0);obtain ⟨bb,oo,hA,hbb,hxs⟩:=hs.sl.at_ hi;obtain ⟨b2,o2,hA2,hbb2,hxt⟩:=hs.sl.at_ hj0;have hAA:some (⟨bb,oo,none⟩:Addr)=some ⟨b2,o2,none⟩:=hA.symm.trans hA2;simp only [xAB,Addr.mk.injEq,and_true] at hAA;obtain ⟨rfl,rfl⟩:=hAA;clear hA2 hbb2;obtain ⟨ta,hta⟩:∃x,b.types[i]=x:=⟨_,rfl⟩;obtain ⟨tb,htb⟩:∃x,b.types[j0]=x:=⟨_,rfl⟩;rw [hta] at hxs HSB HOKS hcase;rw [htb] at hxt HSB HOKT hcase;obtain ⟨r0,r1,r2,r3,A2,c2,r4,r6,r7,r8⟩:=hxs;obtain ⟨q0,q1,q2,q3,B2,d2,q4,q6,q7,q8⟩:=hxt;have HFA:Hid (Slc 1 RInt w A2 c2 ta.flds):=aF ⟨r8,r6,r7⟩;have HFB:Hid (Slc 1 RInt w B2 d2 tb.flds):=aF ⟨q8,q6,q7⟩;subst hA;simp only [bW] at hm;have HCALL:Hid (∀(x y:Int),((0<=x/\x<i/\0<=y/\y<j0)\/(0<=x/\x<j0/\0<=y/\y<i))->∀W,Below w.heap.size w W->_):=aF (fun x y h W hb=>HREC.out x y (by omega) W hb);clear hs hd r8 q8 hta htb HREC;obtain ⟨ma,hma⟩:∃q,ta.mu=q:=⟨_,rfl⟩;obtain ⟨mb,hmb⟩:∃q,tb.mu=q:=⟨_,rfl⟩;obtain ⟨ka,hka⟩:∃q,ta.kind=q:=⟨_,rfl⟩;obtain ⟨kb,hkb⟩:∃q,tb.kind=q:=⟨_,rfl⟩;obtain ⟨na,hna⟩:∃q,ta.flds.length=q:=⟨_,rfl⟩;obtain ⟨nb,hnb⟩:∃q,tb.flds.length=q:=⟨_,rfl⟩;rw [hma] at r1;rw [hmb] at q1;rw [hka] at r0;rw [hkb] at q0;rw [hna] at r4 r6;rw [hnb] at q4 q6;obtain ⟨p1,hp1⟩:∃q,(ka != kb)=q:=⟨_,rfl⟩;obtain ⟨p2,hp2⟩:∃q,(ma != mb)=q:=⟨_,rfl⟩;obtain ⟨p3,hp3⟩:∃q,((na:Int) != (nb:Int))=q:=⟨_,rfl⟩;rw [hma,hmb,hka,hkb,hna,hnb,hp1,hp2,hp3] at hcase
 have HLAW:Hid (subB b i j0=(!p1 && !p2 && !p3 && (ta.flds.zip tb.flds).all (fun p=>subB b p.1 p.2) && (decide (ta.kind≠3) || (outB b.outl b.regions.length ta.reg tb.reg && subB b ta.elem tb.elem && (!ta.mu || subB b tb.elem ta.elem))))):=aF (by
  rw [HSB.out];unfold subS;have g1:decide (ta.kind=tb.kind) = !p1:=by rw [<- hp1,hka,hkb,bR];simp
  have g2:decide (ta.mu=tb.mu) = !p2:=by rw [<- hp2,hma,hmb];cases ma <;> cases mb <;> rfl
  have g3:decide (ta.flds.length=tb.flds.length) = !p3:=by rw [<- hp3,hna,hnb,bR];simp;omega
  rw [g1,g2,g3])
 clear HSB;have HB0:=aF (fun x y=>bel2 w x y);have HB0:=aF (fun x y=>bel2 w x y);have HF:Hid (subB b i j0=false):=aF (by rw [HLAW.out];revert hcase;cases p1 <;> cases p2 <;> cases p3 <;> simp);rw [HF.out];clear HLAW HCALL HO hma hmb hka hkb hna hnb;rcases (show p1=true\/(p1=false/\p2=true)\/(p1=false/\p2=false/\p3=true) by revert hcase;cases p1 <;> cases p2 <;> cases p3 <;> simp) with rfl | ⟨rfl,rfl⟩ | ⟨rfl,rfl,rfl⟩
 ·clear hcase hp2 hp3;go_enter Tryz.func172,Tryz.ntmps172
  go_wp2_with fail
  all_goals first
   | (exfalso;omega)
   | (go_ret;exact ⟨rfl,HB0.out _ _⟩)
 ·clear hcase hp3;have hmm:(ma=true/\mb=false)\/(ma=false/\mb=true):=by revert hp2;cases ma <;> cases mb <;> simp
  clear hp2;rcases hmm with ⟨rfl,rfl⟩ | ⟨rfl,rfl⟩
  all_goals
   go_enter Tryz.func172,Tryz.ntmps172
   go_wp2_with fail
   all_goals first
    | (exfalso;omega)
    | (go_ret;exact ⟨rfl,HB0.out _ _⟩)
 ·clear hcase;obtain rfl:ma=mb:=by revert hp2;cases ma <;> cases mb <;> simp
  clear hp2;go_enter Tryz.func172,Tryz.ntmps172
  go_wp2_with fail
  all_goals first
   | (exfalso;omega)
   | (go_ret;exact ⟨rfl,HB0.out _ _⟩)
theorem xGU (b:Bdy) (hok:DeclOk b) (m:Nat) (HREC0:∀(s t:Int),s.toNat+t.toNat<m->∀(A D:Option Addr) (c d:Nat) (w:World),Slc 5 RTy w A c b.types->Slc 2 RPr w D d b.outl->Calls Tryz.prog 172 #[.slice D b.outl.length d,.int .i64 b.regions.length,.slice A b.types.length c,.int .i64 s,.int .i64 t] w fun e' w'=>e' = .returned (.bool (subB b s t))/\Below w.heap.size w w') (i j0:Nat) (hm:(i:Int).toNat+(j0:Int).toNat<m+1) (hi:i<b.types.length) (hj0:j0<b.types.length) (A D:Option Addr) (c d:Nat) (w:World) (hs:Slc 5 RTy w A c b.types) (hd:Slc 2 RPr w D d b.outl) (hcase:((b.types[i].kind != b.types[j0].kind) || (b.types[i].mu != b.types[j0].mu) || ((b.types[i].flds.length:Int) != (b.types[j0].flds.length:Int)))=false) (hk:b.types[i].kind≠3):
 Calls Tryz.prog 172 #[.slice D b.outl.length d,.int .i64 b.regions.length,.slice A b.types.length c,.int .i64 i,.int .i64 j0] w fun e' w'=>e' = .returned (.bool (subB b i j0))/\Below w.heap.size w w':=by
 have hle:=hs.le;have hbig:=hs.big;have HREC:=aF (fun (x y:Int) (h:x.toNat+y.toNat<m) W (hb:Below w.heap.size w W)=>HREC0 x y h A D c d W (hs.keep RTy.keeps hb) (hd.keep RPr.keeps hb));have HO:=aF (fun (x y:Int) W (hb:Below w.heap.size w W)=>xCC b.outl b.regions.length x y D d W (hd.keep RPr.keeps hb) hok.pairs (by have:=hok.nreg;omega));have h1:¬(i:Int)<0:=by omega
 have h2:¬(b.types.length:Int)<=(i:Int):=by omega
 have h3:¬(j0:Int)<0:=by omega
 have h4:¬(b.types.length:Int)<=(j0:Int):=by omega
 have HSB:=aF (mG hok.tyok hi hj0);have HOKS:=aF (hok.tyok i hi);have HOKT:=aF (hok.tyok j0 hj0);obtain ⟨bb,oo,hA,hbb,hxs⟩:=hs.sl.at_ hi;obtain ⟨b2,o2,hA2,hbb2,hxt⟩:=hs.sl.at_ hj0;have hAA:some (⟨bb,oo,none⟩:Addr)=some ⟨b2,o2,none⟩:=hA.symm.trans hA2;simp only [xAB,Addr.mk.injEq,and_true] at hAA;obtain ⟨rfl,rfl⟩:=hAA;clear hA2 hbb2;obtain ⟨ta,hta⟩:∃x,b.types[i]=x:=⟨_,rfl⟩;obtain ⟨tb,htb⟩:∃x,b.types[j0]=x:=⟨_,rfl⟩;rw [hta] at hxs HSB HOKS hcase hk;rw [htb] at hxt HSB HOKT hcase;obtain ⟨r0,r1,r2,r3,A2,c2,r4,r6,r7,r8⟩:=hxs;obtain ⟨q0,q1,q2,q3,B2,d2,q4,q6,q7,q8⟩:=hxt;have HFA:Hid (Slc 1 RInt w A2 c2 ta.flds):=aF ⟨r8,r6,r7⟩;have HFB:Hid (Slc 1 RInt w B2 d2 tb.flds):=aF ⟨q8,q6,q7⟩;subst hA;simp only [bW] at hm;have HCALL:Hid (∀(x y:Int),((0<=x/\x<i/\0<=y/\y<j0)\/(0<=x/\x<j0/\0<=y/\y<i))->∀W,Below w.heap.size w W->_):=aF (fun x y h W hb=>HREC.out x y (by omega) W hb);clear hs hd r8 q8 hta htb HREC;obtain ⟨ma,hma⟩:∃q,ta.mu=q:=⟨_,rfl⟩;obtain ⟨mb,hmb⟩:∃q,tb.mu=q:=⟨_,rfl⟩;obtain ⟨ka,hka⟩:∃q,ta.kind=q:=⟨_,rfl⟩;obtain ⟨kb,hkb⟩:∃q,tb.kind=q:=⟨_,rfl⟩;obtain ⟨na,hna⟩:∃q,ta.flds.length=q:=⟨_,rfl⟩;obtain ⟨nb,hnb⟩:∃q,tb.flds.length=q:=⟨_,rfl⟩;rw [hma] at r1;rw [hmb] at q1;rw [hka] at r0;rw [hkb] at q0;rw [hna] at r4 r6;rw [hnb] at q4 q6;obtain ⟨p1,hp1⟩:∃q,(ka != kb)=q:=⟨_,rfl⟩;obtain ⟨p2,hp2⟩:∃q,(ma != mb)=q:=⟨_,rfl⟩;obtain ⟨p3,hp3⟩:∃q,((na:Int) != (nb:Int))=q:=⟨_,rfl⟩;rw [hma,hmb,hka,hkb,hna,hnb,hp1,hp2,hp3] at hcase
 have HLAW:Hid (subB b i j0=(!p1 && !p2 && !p3 && (ta.flds.zip tb.flds).all (fun p=>subB b p.1 p.2) && (decide (ta.kind≠3) || (outB b.outl b.regions.length ta.reg tb.reg && subB b ta.elem tb.elem && (!ta.mu || subB b tb.elem ta.elem))))):=aF (by
  rw [HSB.out];unfold subS;have g1:decide (ta.kind=tb.kind) = !p1:=by rw [<- hp1,hka,hkb,bR];simp
  have g2:decide (ta.mu=tb.mu) = !p2:=by rw [<- hp2,hma,hmb];cases ma <;> cases mb <;> rfl
  have g3:decide (ta.flds.length=tb.flds.length) = !p3:=by rw [<- hp3,hna,hnb,bR];simp;omega
  rw [g1,g2,g3])
 clear HSB;have HB0:=aF (fun x y=>bel2 w x y);have HB0:=aF (fun x y=>bel2 w x y);obtain ⟨rfl,rfl,rfl⟩:p1=false/\p2=false/\p3=false:=by revert hcase;cases p1 <;> cases p2 <;> cases p3 <;> simp
 obtain rfl:ma=mb:=by revert hp2;cases ma <;> cases mb <;> simp
 obtain rfl:ka=kb:=by simpa using hp1
 obtain rfl:na=nb:=by have h5:(na:Int)=nb:=by simpa using hp3
                      omega
 clear hp1 hp2 hp3 hmb;have HMA:=aF hma;have HKA:=aF hka;have HKB:=aF hkb;have HNA:=aF hna;have HNB:=aF hnb;clear hma hka hkb hna hnb;obtain ⟨EE,hEE⟩:∃EE,(decide (ta.kind≠3) || (outB b.outl b.regions.length ta.reg tb.reg && subB b ta.elem tb.elem && (!ta.mu || subB b tb.elem ta.elem)))=EE:=⟨_,rfl⟩;have HE:=aF hEE;have HL2:Hid (subB b i j0=(((ta.flds.drop 0).zip (tb.flds.drop 0)).all (fun p=>subB b p.1 p.2) && EE)):=aF (by rw [HLAW.out,hEE,bX,bX];simp only [Bool.not_false,Bool.true_and]);generalize subB b (i:Int) (j0:Int)=R at HL2 ⊢;clear hcase HLAW hEE;have HAC:=aF (fun k v (hk:([Value.int .i64 ka,.bool ma,.int .i64 ta.reg,.int .i64 ta.elem,.slice A2 na c2]:List Value)[k]?=some v)=>(cJ ((aX _ _).alloc (aY _) (.cells ([Value.int .i64 ka,.bool ma,.int .i64 tb.reg,.int .i64 tb.elem,.slice B2 na d2]:List Value).toArray 81)) (cP w [Value.int .i64 ka,.bool ma,.int .i64 ta.reg,.int .i64 ta.elem,.slice A2 na c2] 81 k v hk)));have HBC0:=aF (cP (w.alloc (.cells ([Value.int .i64 ka,.bool ma,.int .i64 ta.reg,.int .i64 ta.elem,.slice A2 na c2]:List Value).toArray 81)) [Value.int .i64 ka,.bool ma,.int .i64 tb.reg,.int .i64 tb.elem,.slice B2 na d2] 81);rw [bI] at HBC0;go_enter Tryz.func172,Tryz.ntmps172
 go_wp2_with fail
 all_goals try (exfalso;omega)
 all_goals try (exfalso;simp_all;done)
 go_loopg [13] na (fun gk v wr=>∃j:Nat,gk=na - j/\j<=na/\v = .int .i64 j/\Hid (Below w.heap.size w wr)/\Hid (aA [Value.int .i64 ka,.bool ma,.int .i64 ta.reg,.int .i64 ta.elem,.slice A2 na c2] wr w.heap.size)/\Hid (aA [Value.int .i64 ka,.bool ma,.int .i64 tb.reg,.int .i64 tb.elem,.slice B2 na d2] wr (w.heap.size+1))/\Hid (R=(((ta.flds.drop j).zip (tb.flds.drop j)).all (fun p=>subB b p.1 p.2) && EE)))
 case atStart=>exact ⟨0,by omega,by omega,rfl,aF (HB0.out _ _),HAC,HBC0,HL2⟩
 case round=>
  clear HB0 HAC HBC0 HL2 r0 r1 r2 r3 r4 q0 q1 q2 q3 q4;obtain ⟨j,hgk,hj,rfl,HBL,HA,HBC,HV⟩:=hrel;obtain ⟨ca0,ca1,ca2,ca3,ca4⟩:=aQ HA.out;obtain ⟨cb0,cb1,cb2,cb3,cb4⟩:=aQ HBC.out;by_cases hltn:j<na
  ·have hlt:j<ta.flds.length:=by rw [HNA.out];exact hltn
   have hlt2:j<tb.flds.length:=by rw [HNB.out];exact hltn
   obtain ⟨ba,oa,rfl,hba,hxa⟩:=HFA.out.sl.at_ hlt;obtain ⟨b8,o8,rfl,hb8,hxb⟩:=HFB.out.sl.at_ hlt2;have h5:=HOKS.out.2 ta.flds[j] (bN hlt);have h6:=HOKT.out.2 tb.flds[j] (bN hlt2);have HV2:Hid (R=(subB b ta.flds[j] tb.flds[j] && (((ta.flds.drop (j+1)).zip (tb.flds.drop (j+1))).all (fun p=>subB b p.1 p.2) && EE))):=aF (by rw [HV.out,cS hlt,cS hlt2,List.zip_cons_cons,cB,Bool.and_assoc]);obtain ⟨x,hxx⟩:∃x,ta.flds[j]=x:=⟨_,rfl⟩;obtain ⟨y,hyy⟩:∃y,tb.flds[j]=y:=⟨_,rfl⟩;rw [hxx] at hxa h5 HV2;rw [hyy] at hxb h6 HV2;have xa:w.cell? ⟨ba,oa+j,none⟩=some (.int .i64 x):=by simpa [RInt] using hxa
   have xb:w.cell? ⟨b8,o8+j,none⟩=some (.int .i64 y):=by simpa [RInt] using hxb
   have HCX:=aF (HCALL.out x y (Or.inl ⟨h5.1,h5.2,h6.1,h6.2⟩));have XA:=aF xa;have XB:=aF xb;clear hxa hxb h5 h6 hxx hyy HV xa xb;go_wp2_with fail
   have hS:Below w.heap.size w wr.drew/\(aA [Value.int .i64 ka,.bool ma,.int .i64 ta.reg,.int .i64 ta.elem,.slice (some ⟨ba,oa,none⟩) na c2] wr.drew w.heap.size)/\(aA [Value.int .i64 ka,.bool ma,.int .i64 tb.reg,.int .i64 tb.elem,.slice (some ⟨b8,o8,none⟩) na d2] wr.drew (w.heap.size+1)):=⟨HBL.out.drew,HA.out,HBC.out⟩;clear ca0 ca1 ca2 ca3 ca4 cb0 cb1 cb2 cb3 cb4;refine cQ (S:=fun X=>Below w.heap.size w X/\(aA [Value.int .i64 ka,.bool ma,.int .i64 ta.reg,.int .i64 ta.elem,.slice (some ⟨ba,oa,none⟩) na c2] X w.heap.size)/\(aA [Value.int .i64 ka,.bool ma,.int .i64 tb.reg,.int .i64 tb.elem,.slice (some ⟨b8,o8,none⟩) na d2] X (w.heap.size+1))) [0,1,2,3,4,5,6,7,8,9,10,11,12,13,14] (by kernel_rfl) ?_;(iterate 13 (refine cR (v:=?_) ?_ hS ?_;rotate_left;(next=>(rintro X ⟨hZ,hX,hY⟩;have s4:=hX 4 _ rfl;have u4:=hY 4 _ rfl;have v1:=cJ hZ XA.out;have v2:=cJ hZ XB.out;(try simp only [aI]);go_simp;rfl));simp only [aM]));(refine cM (fun K1 hK1=>?_);simp only [aM];rw [bA (by rfl)];go_simp);refine (HCX.out _ hS.1).mono ?_;rintro e' w2 ⟨rfl,hb⟩;replace hS:=bJ (hS.1.trans (hb.mono hS.1.size)) (bJ (cK hS.2.1 hb) (cK hS.2.2 hb));clear hb;refine hK1.out _ _ (fun _=>hS) ?_;clear hK1;have HS2:=aF hS;generalize subB b x y=sb at HV2;((refine cR (v:=?_) ?_ hS ?_;rotate_left;(next=>(rintro X -;(try simp only [aI]);go_simp;rfl));simp only [aM]))
   refine cV ?_;clear hS;cases sb
   ·have HF:Hid (R=false):=aF (by rw [HV2.out];rfl);go_wp2_with fail
    go_ret;exact ⟨by rw [HF.out];rfl,HS2.out.1⟩
   ·have HF:Hid (R=(((ta.flds.drop (j+1)).zip (tb.flds.drop (j+1))).all (fun p=>subB b p.1 p.2) && EE)):=aF (by rw [HV2.out,Bool.true_and]);go_wp2_with fail
    go_roundg (na - (j+1))
    case measure=>omega
    case rel=>exact ⟨j+1,rfl,by omega,by go_num,aF HS2.out.1,aF HS2.out.2.1,aF HS2.out.2.2,HF⟩
  ·have HR:Hid (R=EE):=aF (by rw [HV.out,bE (by rw [HNA.out];omega:ta.flds.length<=j)];rfl);have e0:¬((j:Int)<(na:Int)):=by omega
   clear HV;have e3:(ka != 3)=true:=by rw [<- HKA.out];simp [hk]
   have HF:Hid (R=true):=aF (by rw [HR.out,<- HE.out];simp [hk]);go_wp2_with fail
   go_ret;exact ⟨by rw [HF.out];rfl,HBL.out⟩
theorem xGT (b:Bdy) (hok:DeclOk b) (m:Nat) (HREC0:∀(s t:Int),s.toNat+t.toNat<m->∀(A D:Option Addr) (c d:Nat) (w:World),Slc 5 RTy w A c b.types->Slc 2 RPr w D d b.outl->Calls Tryz.prog 172 #[.slice D b.outl.length d,.int .i64 b.regions.length,.slice A b.types.length c,.int .i64 s,.int .i64 t] w fun e' w'=>e' = .returned (.bool (subB b s t))/\Below w.heap.size w w') (i j0:Nat) (hm:(i:Int).toNat+(j0:Int).toNat<m+1) (hi:i<b.types.length) (hj0:j0<b.types.length) (A D:Option Addr) (c d:Nat) (w:World) (hs:Slc 5 RTy w A c b.types) (hd:Slc 2 RPr w D d b.outl) (hcase:((b.types[i].kind != b.types[j0].kind) || (b.types[i].mu != b.types[j0].mu) || ((b.types[i].flds.length:Int) != (b.types[j0].flds.length:Int)))=false) (hk:b.types[i].kind=3):
 Calls Tryz.prog 172 #[.slice D b.outl.length d,.int .i64 b.regions.length,.slice A b.types.length c,.int .i64 i,.int .i64 j0] w fun e' w'=>e' = .returned (.bool (subB b i j0))/\Below w.heap.size w w':=by
 have hle:=hs.le;have hbig:=hs.big;have HREC:=aF (fun (x y:Int) (h:x.toNat+y.toNat<m) W (hb:Below w.heap.size w W)=>HREC0 x y h A D c d W (hs.keep RTy.keeps hb) (hd.keep RPr.keeps hb));have HO:=aF (fun (x y:Int) W (hb:Below w.heap.size w W)=>xCC b.outl b.regions.length x y D d W (hd.keep RPr.keeps hb) hok.pairs (by have:=hok.nreg;omega));have h1:¬(i:Int)<0:=by omega
 have h2:¬(b.types.length:Int)<=(i:Int):=by omega
 have h3:¬(j0:Int)<0:=by omega
 have h4:¬(b.types.length:Int)<=(j0:Int):=by omega
 have HSB:=aF (mG hok.tyok hi hj0);have HOKS:=aF (hok.tyok i hi);have HOKT:=aF (hok.tyok j0 hj0);obtain ⟨bb,oo,hA,hbb,hxs⟩:=hs.sl.at_ hi;obtain ⟨b2,o2,hA2,hbb2,hxt⟩:=hs.sl.at_ hj0;have hAA:some (⟨bb,oo,none⟩:Addr)=some ⟨b2,o2,none⟩:=hA.symm.trans hA2;simp only [xAB,Addr.mk.injEq,and_true] at hAA;obtain ⟨rfl,rfl⟩:=hAA;clear hA2 hbb2;obtain ⟨ta,hta⟩:∃x,b.types[i]=x:=⟨_,rfl⟩;obtain ⟨tb,htb⟩:∃x,b.types[j0]=x:=⟨_,rfl⟩;rw [hta] at hxs HSB HOKS hcase hk;rw [htb] at hxt HSB HOKT hcase;obtain ⟨r0,r1,r2,r3,A2,c2,r4,r6,r7,r8⟩:=hxs;obtain ⟨q0,q1,q2,q3,B2,d2,q4,q6,q7,q8⟩:=hxt;have HFA:Hid (Slc 1 RInt w A2 c2 ta.flds):=aF ⟨r8,r6,r7⟩;have HFB:Hid (Slc 1 RInt w B2 d2 tb.flds):=aF ⟨q8,q6,q7⟩;subst hA;simp only [bW] at hm;have HCALL:Hid (∀(x y:Int),((0<=x/\x<i/\0<=y/\y<j0)\/(0<=x/\x<j0/\0<=y/\y<i))->∀W,Below w.heap.size w W->_):=aF (fun x y h W hb=>HREC.out x y (by omega) W hb);clear hs hd r8 q8 hta htb HREC;obtain ⟨ma,hma⟩:∃q,ta.mu=q:=⟨_,rfl⟩;obtain ⟨mb,hmb⟩:∃q,tb.mu=q:=⟨_,rfl⟩;obtain ⟨ka,hka⟩:∃q,ta.kind=q:=⟨_,rfl⟩;obtain ⟨kb,hkb⟩:∃q,tb.kind=q:=⟨_,rfl⟩;obtain ⟨na,hna⟩:∃q,ta.flds.length=q:=⟨_,rfl⟩;obtain ⟨nb,hnb⟩:∃q,tb.flds.length=q:=⟨_,rfl⟩;rw [hma] at r1;rw [hmb] at q1;rw [hka] at r0;rw [hkb] at q0;rw [hna] at r4 r6;rw [hnb] at q4 q6;obtain ⟨p1,hp1⟩:∃q,(ka != kb)=q:=⟨_,rfl⟩;obtain ⟨p2,hp2⟩:∃q,(ma != mb)=q:=⟨_,rfl⟩;obtain ⟨p3,hp3⟩:∃q,((na:Int) != (nb:Int))=q:=⟨_,rfl⟩;rw [hma,hmb,hka,hkb,hna,hnb,hp1,hp2,hp3] at hcase
 have HLAW:Hid (subB b i j0=(!p1 && !p2 && !p3 && (ta.flds.zip tb.flds).all (fun p=>subB b p.1 p.2) && (decide (ta.kind≠3) || (outB b.outl b.regions.length ta.reg tb.reg && subB b ta.elem tb.elem && (!ta.mu || subB b tb.elem ta.elem))))):=aF (by
  rw [HSB.out];unfold subS;have g1:decide (ta.kind=tb.kind) = !p1:=by rw [<- hp1,hka,hkb,bR];simp
  have g2:decide (ta.mu=tb.mu) = !p2:=by rw [<- hp2,hma,hmb];cases ma <;> cases mb <;> rfl
  have g3:decide (ta.flds.length=tb.flds.length) = !p3:=by rw [<- hp3,hna,hnb,bR];simp;omega
  rw [g1,g2,g3])
 clear HSB;have HB0:=aF (fun x y=>bel2 w x y);have HB0:=aF (fun x y=>bel2 w x y);obtain ⟨rfl,rfl,rfl⟩:p1=false/\p2=false/\p3=false:=by revert hcase;cases p1 <;> cases p2 <;> cases p3 <;> simp
 obtain rfl:ma=mb:=by revert hp2;cases ma <;> cases mb <;> simp
 obtain rfl:ka=kb:=by simpa using hp1
 obtain rfl:na=nb:=by have h5:(na:Int)=nb:=by simpa using hp3
                      omega
 clear hp1 hp2 hp3 hmb;have HMA:=aF hma;have HKA:=aF hka;have HKB:=aF hkb;have HNA:=aF hna;have HNB:=aF hnb;clear hma hka hkb hna hnb;obtain ⟨EE,hEE⟩:∃EE,(decide (ta.kind≠3) || (outB b.outl b.regions.length ta.reg tb.reg && subB b ta.elem tb.elem && (!ta.mu || subB b tb.elem ta.elem)))=EE:=⟨_,rfl⟩;have HE:=aF hEE;have HL2:Hid (subB b i j0=(((ta.flds.drop 0).zip (tb.flds.drop 0)).all (fun p=>subB b p.1 p.2) && EE)):=aF (by rw [HLAW.out,hEE,bX,bX];simp only [Bool.not_false,Bool.true_and]);generalize subB b (i:Int) (j0:Int)=R at HL2 ⊢;clear hcase HLAW hEE;have HAC:=aF (fun k v (hk:([Value.int .i64 ka,.bool ma,.int .i64 ta.reg,.int .i64 ta.elem,.slice A2 na c2]:List Value)[k]?=some v)=>(cJ ((aX _ _).alloc (aY _) (.cells ([Value.int .i64 ka,.bool ma,.int .i64 tb.reg,.int .i64 tb.elem,.slice B2 na d2]:List Value).toArray 81)) (cP w [Value.int .i64 ka,.bool ma,.int .i64 ta.reg,.int .i64 ta.elem,.slice A2 na c2] 81 k v hk)));have HBC0:=aF (cP (w.alloc (.cells ([Value.int .i64 ka,.bool ma,.int .i64 ta.reg,.int .i64 ta.elem,.slice A2 na c2]:List Value).toArray 81)) [Value.int .i64 ka,.bool ma,.int .i64 tb.reg,.int .i64 tb.elem,.slice B2 na d2] 81);rw [bI] at HBC0;go_enter Tryz.func172,Tryz.ntmps172
 go_wp2_with fail
 all_goals try (exfalso;omega)
 all_goals try (exfalso;simp_all;done)
 go_loopg [13] na (fun gk v wr=>∃j:Nat,gk=na - j/\j<=na/\v = .int .i64 j/\Hid (Below w.heap.size w wr)/\Hid (aA [Value.int .i64 ka,.bool ma,.int .i64 ta.reg,.int .i64 ta.elem,.slice A2 na c2] wr w.heap.size)/\Hid (aA [Value.int .i64 ka,.bool ma,.int .i64 tb.reg,.int .i64 tb.elem,.slice B2 na d2] wr (w.heap.size+1))/\Hid (R=(((ta.flds.drop j).zip (tb.flds.drop j)).all (fun p=>subB b p.1 p.2) && EE)))
 case atStart=>exact ⟨0,by omega,by omega,rfl,aF (HB0.out _ _),HAC,HBC0,HL2⟩
 case round=>
  clear HB0 HAC HBC0 HL2 r0 r1 r2 r3 r4 q0 q1 q2 q3 q4;obtain ⟨j,hgk,hj,rfl,HBL,HA,HBC,HV⟩:=hrel;obtain ⟨ca0,ca1,ca2,ca3,ca4⟩:=aQ HA.out;obtain ⟨cb0,cb1,cb2,cb3,cb4⟩:=aQ HBC.out;have hlt:¬j<na:=by rw [<- HNA.out,(HOKS.out.1 hk).2.2];simp
  have HR:Hid (R=EE):=aF (by rw [HV.out,bE (by rw [HNA.out];omega:ta.flds.length<=j)];rfl);have e0:¬((j:Int)<(na:Int)):=by omega
  clear HV;have e3:(ka != 3)=false:=by rw [<- HKA.out];simp [hk]
  have hk4:tb.kind=3:=by
   rw [HKB.out,<- HKA.out];exact hk
  obtain ⟨a1,a2,-⟩:=HOKS.out.1 hk;obtain ⟨b1,b2',-⟩:=HOKT.out.1 hk4;have HE3:Hid (R=(outB b.outl b.regions.length ta.reg tb.reg && subB b ta.elem tb.elem && (!ta.mu || subB b tb.elem ta.elem))):=aF (by rw [HR.out,<- HE.out];simp [hk]);obtain ⟨o1,ho1⟩:∃q,outB b.outl b.regions.length ta.reg tb.reg=q:=⟨_,rfl⟩;obtain ⟨s1,hs1⟩:∃q,subB b ta.elem tb.elem=q:=⟨_,rfl⟩;obtain ⟨s2,hs2⟩:∃q,subB b tb.elem ta.elem=q:=⟨_,rfl⟩;rw [ho1,hs1,hs2,HMA.out] at HE3;have HE0:=aF ho1;have HE1:=aF hs1;have HE2:=aF hs2;clear ho1 hs1 hs2 hk hk4 HOKS HOKT HE HR;rcases (show o1=false\/(o1=true/\s1=false)\/(o1=true/\s1=true/\ma=false)\/(o1=true/\s1=true/\ma=true) by cases o1 <;> cases s1 <;> cases ma <;> simp) with rfl | ⟨rfl,rfl⟩ | ⟨rfl,rfl,rfl⟩ | ⟨rfl,rfl,rfl⟩
  ·have HF:Hid (R=false):=aF (by rw [HE3.out];rfl);go_wp2_with (go_at_call 171;refine (HO.out _ _ _ HBL.out).mono ?_;rintro e' w4 ⟨rfl,hb⟩;rw [HE0.out];have HBX1:=aF (HBL.out.trans (hb.mono HBL.out.size));have HA1:=aF (cK HA.out hb);have HC1:=aF (cK HBC.out hb);clear hb HA HBC;clear ca0 ca1 ca2 ca3 ca4 cb0 cb1 cb2 cb3 cb4;have HA:=HA1;have HBC:=HC1;obtain ⟨ca0,ca1,ca2,ca3,ca4⟩:=aQ HA.out;obtain ⟨cb0,cb1,cb2,cb3,cb4⟩:=aQ HBC.out)
   go_ret;exact ⟨by rw [HF.out];rfl,HBX1.out⟩
  ·have HF:Hid (R=false):=aF (by rw [HE3.out];rfl);go_wp2_with (first | (go_at_call 172;refine (HCALL.out _ _ (by first | exact Or.inl ⟨by omega,by omega,by omega,by omega⟩ | exact Or.inr ⟨by omega,by omega,by omega,by omega⟩) _ (by exact HBX1.out)).mono ?_;rintro e' w2 ⟨rfl,hb⟩;rw [HE1.out];have HBX2:=aF (HBX1.out.trans (hb.mono HBX1.out.size));have HA2:=aF (cK HA1.out hb);have HC2:=aF (cK HC1.out hb);clear hb;clear ca0 ca1 ca2 ca3 ca4 cb0 cb1 cb2 cb3 cb4;have HA:=HA2;have HBC:=HC2;obtain ⟨ca0,ca1,ca2,ca3,ca4⟩:=aQ HA.out;obtain ⟨cb0,cb1,cb2,cb3,cb4⟩:=aQ HBC.out) | (go_at_call 171;refine (HO.out _ _ _ HBL.out).mono ?_;rintro e' w4 ⟨rfl,hb⟩;rw [HE0.out];have HBX1:=aF (HBL.out.trans (hb.mono HBL.out.size));have HA1:=aF (cK HA.out hb);have HC1:=aF (cK HBC.out hb);clear hb HA HBC;clear ca0 ca1 ca2 ca3 ca4 cb0 cb1 cb2 cb3 cb4;have HA:=HA1;have HBC:=HC1;obtain ⟨ca0,ca1,ca2,ca3,ca4⟩:=aQ HA.out;obtain ⟨cb0,cb1,cb2,cb3,cb4⟩:=aQ HBC.out))
   go_ret;exact ⟨by rw [HF.out];rfl,HBX2.out⟩
  ·have HF:Hid (R=true):=aF (by rw [HE3.out];rfl);go_wp2_with (first | (go_at_call 172;refine (HCALL.out _ _ (by first | exact Or.inl ⟨by omega,by omega,by omega,by omega⟩ | exact Or.inr ⟨by omega,by omega,by omega,by omega⟩) _ (by exact HBX1.out)).mono ?_;rintro e' w2 ⟨rfl,hb⟩;rw [HE1.out];have HBX2:=aF (HBX1.out.trans (hb.mono HBX1.out.size));have HA2:=aF (cK HA1.out hb);have HC2:=aF (cK HC1.out hb);clear hb;clear ca0 ca1 ca2 ca3 ca4 cb0 cb1 cb2 cb3 cb4;have HA:=HA2;have HBC:=HC2;obtain ⟨ca0,ca1,ca2,ca3,ca4⟩:=aQ HA.out;obtain ⟨cb0,cb1,cb2,cb3,cb4⟩:=aQ HBC.out) | (go_at_call 171;refine (HO.out _ _ _ HBL.out).mono ?_;rintro e' w4 ⟨rfl,hb⟩;rw [HE0.out];have HBX1:=aF (HBL.out.trans (hb.mono HBL.out.size));have HA1:=aF (cK HA.out hb);have HC1:=aF (cK HBC.out hb);clear hb HA HBC;clear ca0 ca1 ca2 ca3 ca4 cb0 cb1 cb2 cb3 cb4;have HA:=HA1;have HBC:=HC1;obtain ⟨ca0,ca1,ca2,ca3,ca4⟩:=aQ HA.out;obtain ⟨cb0,cb1,cb2,cb3,cb4⟩:=aQ HBC.out))
   go_ret;exact ⟨by rw [HF.out];rfl,HBX2.out⟩
  ·have HF:Hid (R=s2):=aF (by rw [HE3.out];simp);go_wp2_with (first | (go_at_call 172;refine (HCALL.out _ _ (by first | exact Or.inl ⟨by omega,by omega,by omega,by omega⟩ | exact Or.inr ⟨by omega,by omega,by omega,by omega⟩) _ (by exact HBX2.out)).mono ?_;rintro e' w3 ⟨rfl,hb⟩;rw [HE2.out];have HBX3:=aF (HBX2.out.trans (hb.mono HBX2.out.size));have HA3:=aF (cK HA2.out hb);have HC3:=aF (cK HC2.out hb);clear hb;clear ca0 ca1 ca2 ca3 ca4 cb0 cb1 cb2 cb3 cb4;have HA:=HA3;have HBC:=HC3;obtain ⟨ca0,ca1,ca2,ca3,ca4⟩:=aQ HA.out;obtain ⟨cb0,cb1,cb2,cb3,cb4⟩:=aQ HBC.out) | (go_at_call 172;refine (HCALL.out _ _ (by first | exact Or.inl ⟨by omega,by omega,by omega,by omega⟩ | exact Or.inr ⟨by omega,by omega,by omega,by omega⟩) _ (by exact HBX1.out)).mono ?_;rintro e' w2 ⟨rfl,hb⟩;rw [HE1.out];have HBX2:=aF (HBX1.out.trans (hb.mono HBX1.out.size));have HA2:=aF (cK HA1.out hb);have HC2:=aF (cK HC1.out hb);clear hb;clear ca0 ca1 ca2 ca3 ca4 cb0 cb1 cb2 cb3 cb4;have HA:=HA2;have HBC:=HC2;obtain ⟨ca0,ca1,ca2,ca3,ca4⟩:=aQ HA.out;obtain ⟨cb0,cb1,cb2,cb3,cb4⟩:=aQ HBC.out) | (go_at_call 171;refine (HO.out _ _ _ HBL.out).mono ?_;rintro e' w4 ⟨rfl,hb⟩;rw [HE0.out];have HBX1:=aF (HBL.out.trans (hb.mono HBL.out.size));have HA1:=aF (cK HA.out hb);have HC1:=aF (cK HBC.out hb);clear hb HA HBC;clear ca0 ca1 ca2 ca3 ca4 cb0 cb1 cb2 cb3 cb4;have HA:=HA1;have HBC:=HC1;obtain ⟨ca0,ca1,ca2,ca3,ca4⟩:=aQ HA.out;obtain ⟨cb0,cb1,cb2,cb3,cb4⟩:=aQ HBC.out))
   go_ret;exact ⟨by rw [HF.out];rfl,HBX3.out⟩
theorem xEL (b:Bdy) (hok:DeclOk b):∀(m:Nat) (s t:Int),s.toNat+t.toNat<m->∀(A D:Option Addr) (c d:Nat) (w:World),Slc 5 RTy w A c b.types->Slc 2 RPr w D d b.outl->
 Calls Tryz.prog 172 #[.slice D b.outl.length d,.int .i64 b.regions.length,.slice A b.types.length c,.int .i64 s,.int .i64 t] w fun e' w'=>e' = .returned (.bool (subB b s t))/\Below w.heap.size w w'
 | 0,_,_,h=>absurd h (by omega)
 | m+1,s,t,hm=>by
   intro A D c d w hs hd;have HR:=xEL b hok m;have hle:=hs.le;have hbig:=hs.big;by_cases hr:0<=s/\s<(b.types.length:Int)/\0<=t/\t<(b.types.length:Int)
   case neg=>
    rw [uF (by omega)];clear hs hd HR;go_enter Tryz.func172,Tryz.ntmps172
    go_wp2_with fail
    all_goals first
     | (exfalso;omega)
     | (go_ret;exact ⟨rfl,aH⟩)
   case pos=>
   obtain ⟨i,rfl⟩:=bG hr.1;obtain ⟨j0,rfl⟩:=bG hr.2.2.1;have hi:i<b.types.length:=by omega
   have hj0:j0<b.types.length:=by omega
   obtain ⟨p,hp⟩:∃p,((b.types[i].kind != b.types[j0].kind) || (b.types[i].mu != b.types[j0].mu) || ((b.types[i].flds.length:Int) != (b.types[j0].flds.length:Int)))=p:=⟨_,rfl⟩;cases p
   ·by_cases hk:b.types[i].kind=3
    ·exact xGT b hok m HR i j0 hm hi hj0 A D c d w hs hd hp hk
    ·exact xGU b hok m HR i j0 hm hi hj0 A D c d w hs hd hp hk
   ·exact xFT b hok m HR i j0 hm hi hj0 A D c d w hs hd hp
end
section
open Go Go.RowKit Go.Shelf
theorem xHY (c:UInt8):isLet c=((decide (97<=(c.toNat:Int)) && decide ((c.toNat:Int)<=122)) || (decide (65<=(c.toNat:Int)) && decide ((c.toNat:Int)<=90)) || decide ((c.toNat:Int)=95)):=by
 rw [bR];simp only [isLet,Bool.or_eq_true,bQ,decide_eq_true_eq];omega
def okAt (k:Nat) (c:UInt8):Bool:=isLet c || (decide (k≠0) && isDig c)
def okFrom:Nat->List UInt8->Bool
 | _,[]=>true
 | k,c :: r=>okAt k c && okFrom (k+1) r
theorem xCR:∀(l:List UInt8) (k:Nat),okFrom (k+1) l=l.all (fun c=>isLet c || isDig c)
 | [],_=>rfl
 | c :: r,k=>by simp [okFrom,okAt,xCR r]
theorem xFN (l:List UInt8):sM l=(okFrom 0 l && (decide (1<=l.length) && decide (l.length<=255))):=by
 cases l with
 | nil=>rfl
 | cons c r=>
   simp only [sM,okFrom,xCR,okAt,bK];rw [bR];simp only [bQ,Bool.or_eq_true,decide_eq_true_eq];constructor
   ·rintro ⟨⟨h1,h2⟩,h3⟩;exact ⟨⟨.inl h1,h2⟩,by omega,by omega⟩
   ·rintro ⟨⟨h1,h2⟩,h3⟩;exact ⟨⟨h1.resolve_right (by simp),h2⟩,by omega⟩
theorem xBX (s:ByteArray) (w:World) (hs:s.size<=9223372036854775807):
 Calls Tryz.prog 92 #[.string s] w fun e w'=>e = .returned (.bool (isIdent s))/\w'=w:=by
 obtain ⟨R,hR⟩:∃R,okFrom 0 s.data.toList=R:=⟨_,rfl⟩;have HR:Hid (isIdent s=(R && (decide (1<=s.size) && decide (s.size<=255)))):=aF (by unfold isIdent;rw [xFN,hR,eI]);generalize isIdent s=q at HR ⊢;have HR0:=aF hR;clear hR;go_enter Tryz.func92,Tryz.ntmps92
 go_wp2_with fail
 go_loop [3] (fun v=>∃k:Nat,k<=s.size/\v = .int .i64 k/\Hid (R=okFrom k (s.data.toList.drop k))) (fun v=>s.size - (intOf v).toNat)
 case atStart=>exact ⟨0,Nat.zero_le _,rfl,aF HR0.out.symm⟩
 case round=>
  obtain ⟨k,hk,rfl,hr⟩:=hrel;by_cases hlt:k<s.size
  ·have hd:=nF s k hlt;obtain ⟨c,hc⟩:∃c,s[k]=c:=⟨_,rfl⟩;rw [hc] at hd;have hcb:c.toNat<256:=c.toNat_lt;obtain ⟨y,hy⟩:∃y,c.toNat=y:=⟨_,rfl⟩
   have HOK:Hid (okAt k c=((decide (97<=(y:Int)) && decide ((y:Int)<=122)) || (decide (65<=(y:Int)) && decide ((y:Int)<=90)) || decide ((y:Int)=95) || (decide (k≠0) && (decide (48<=(y:Int)) && decide ((y:Int)<=57))))):=aF (by
    rw [<- hy];unfold okAt
    rw [xHY,show isDig c=(decide (48<=(c.toNat:Int)) && decide ((c.toNat:Int)<=57)) by rw [bR];simp only [isDig,bQ,decide_eq_true_eq];omega])
   have HN:Hid (R=(okAt k c && okFrom (k+1) (s.data.toList.drop (k+1)))):=aF (by rw [hr.out,hd];rfl);rw [hy] at hcb;have hcy:s[k].toNat=y:=by rw [hc,hy]
   clear hd hr;cases hz:okAt k c
   ·have HZ:Hid (R=false):=aF (by rw [HN.out,hz];rfl);rw [hz] at HOK;clear hz HN;go_wp2_with fail
    all_goals first
     | (go_ret;exact ⟨by rw [HR.out,HZ.out];rfl,rfl⟩)
     | (exfalso;have:=HOK.out;clear HOK HZ HR HR0;grind)
   ·have HZ:Hid (R=okFrom (k+1) (s.data.toList.drop (k+1))):=aF (by rw [HN.out,hz];rfl);rw [hz] at HOK;clear hz HN;go_wp2_with fail
    all_goals first
     | (go_round
        case rel=>exact ⟨k+1,by omega,by go_num,HZ⟩
        case measure=>simp [intOf];omega)
     | (exfalso;have:=HOK.out;clear HOK HZ HR HR0;grind)
  ·have HQ:Hid (q=(decide (1<=s.size) && decide (s.size<=255))):=aF (by rw [HR.out,hr.out,vP s k (by omega)];rfl);clear hr HR;rcases (show s.size<1\/(1<=s.size/\s.size<=255)\/255<s.size by omega) with h | ⟨h,h'⟩ | h
   ·obtain rfl:q=false:=by rw [HQ.out];simp;omega
    clear HQ;go_wp2_with fail
    go_ret;exact ⟨rfl,rfl⟩
   ·obtain rfl:q=true:=by rw [HQ.out];simp;omega
    clear HQ;go_wp2_with fail
    go_ret;exact ⟨by simp;omega,rfl⟩
   ·obtain rfl:q=false:=by rw [HQ.out];simp;omega
    clear HQ;go_wp2_with fail
    go_ret;exact ⟨by simp;omega,rfl⟩
end
end Go.Proofs.YtmknfbfppmkcfaaGreatDoor
