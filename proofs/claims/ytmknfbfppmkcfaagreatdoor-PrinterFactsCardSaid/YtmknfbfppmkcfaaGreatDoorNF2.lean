/-
  PrinterFacts: the texts that this claim has beyond those of PrinterPlaces. (part 2)
-/
import Derived.Test.YtmknfbfppmkcfaaGreatDoorNF1
import Derived.Lib.Hide
import Derived.Below
import Derived.WalkSmall
import Derived.Laws.World
import Derived.Test.YtmknfbfppmkcfaaGreatDoorProg
import Derived.WalkKit
import Derived.WalkSpells
import Derived.WalkLawsBesides
import Derived.Deep.RegionHeld3
import Derived.Deep.DeepFit
import Derived.Deep.QuietTactic
import Derived.BigQuiet
import Derived.OwnWalk
import Derived.Maps.AppendAt
import Derived.Deep.DeepCutAuto
import Derived.StillTailTactics
import Derived.Lib.ItoaNum
import Derived.Lib.Join
import Derived.RangeFuncNested
import Derived.RangeFuncBound
import Derived.RangeFuncCalls
import Derived.RangeFuncLeaves
import Derived.OwnWalkIn
import Derived.TacticsInMore
import Derived.LoopNIn
import Derived.LoopIn
import Derived.Shelf.Abstract
import Derived.OrdersHeld
import Derived.Deep.RegionHeld
import Derived.Test.YtmknfbfppmkcfaaGreatDoorSg
import Derived.Maps.OwnSet
import Derived.Maps.OwnOps
import Derived.StringKeys
import Derived.Lib.ItoaLen
import Derived.Deep.LoopGhost
import Derived.WideKeyPair
import Derived.WideKeyArr
import Derived.Deep.MidRow
import Derived.Test.YtmknfbfppmkcfaaGreatDoorSh
import Derived.Laws.IdiomStrings
import Derived.RangeFuncBox
import Derived.Test.YtmknfbfppmkcfaaGreatDoorSj
import Derived.Lib.AppendIntMem
import Derived.Lib.AppendStr
import Derived.Lib.Builder
import Derived.Deep.CutBlock
import Derived.Test.YtmknfbfppmkcfaaGreatDoorRows
import Derived.WalkMore
import Derived.ProofKit
import Derived.Deep.Slices
import Derived.Deep.Fields
import Derived.Lib.SmallJoins
import Derived.OpenShut
import Derived.LaidMore
import Derived.Stop.Joined
import Derived.Stop.LaidErr
import Derived.Lay
import Derived.SevenTiedAt
import Derived.Lib.LaidTab
import Derived.Test.YtmknfbfppmkcfaaGreatDoorTie
import Derived.Test.YtmknfbfppmkcfaaGreatDoorCards
import Derived.JoinedOf
import Derived.SizedLaws
namespace Go.Proofs.YtmknfbfppmkcfaaGreatDoor
set_option maxRecDepth 100000
set_option maxHeartbeats 16000000
section
open Go Go.RowKit Go.Maps
theorem xGB (l:List Int) (x:Int) (A:Option Addr) (c:Nat) (w:World) (hs:Slc 1 RInt w A c l):
 Calls Tryz.prog 203 #[.slice A l.length c,.int .i64 x] w fun e' w'=>e' = .returned (.bool (decide (x∈l)))/\w'=w:=by
 have hle:=hs.le;have hbig:=hs.big;obtain ⟨R,hR⟩:∃R,decide (x∈l)=R:=⟨_,rfl⟩;rw [hR];have HR:=aF hR;have HS:=aF hs;clear hR hs;go_enter Tryz.func203,Tryz.ntmps203
 go_wp2_with fail
 go_loop [5] (fun v=>∃k:Nat,k<=l.length/\v = .int .i64 k/\Hid (R=decide (x∈l.drop k))) (fun v=>l.length - (intOf v).toNat)
 case atStart=>exact ⟨0,by omega,rfl,aF HR.out.symm⟩
 case round=>
  obtain ⟨k,hk,rfl,hr⟩:=hrel;by_cases hlt:k<l.length
  ·have hd:=cS hlt;obtain ⟨b,o,rfl,hb,hx⟩:=HS.out.sl.at_ hlt;obtain ⟨y,hy⟩:∃y,l[k]=y:=⟨_,rfl⟩;rw [hy] at hd hx;have x0:w.cell? ⟨b,o+k,none⟩=some (.int .i64 y):=by simpa [RInt] using hx
   clear hx hy;by_cases h0:y=x
   ·have HN:Hid (R=true):=aF (by rw [hr.out,hd,h0];simp);have e1:(y == x)=true:=by simp [h0]
    clear hd hr h0;go_wp2_with fail
    all_goals first
     | (exfalso;omega)
     | (go_ret;exact ⟨by rw [HN.out];rfl,rfl⟩)
   ·have HN:Hid (R=decide (x∈l.drop (k+1))):=aF (by rw [hr.out,hd];simp [Ne.symm h0]);have e1:(y == x)=false:=by simp [h0]
    clear hd hr h0;go_wp2_with fail
    go_round
    case rel=>exact ⟨k+1,by omega,by go_num,HN⟩
    case measure=>simp [intOf];omega
  ·have HN:Hid (R=false):=aF (by rw [hr.out,bE (by omega)];simp);clear hr;go_wp2_with fail
   go_ret;exact ⟨by rw [HN.out];rfl,rfl⟩
def putR (x:Int) (s:List Int) (p:Int × Int):List Int:=if p.1=x/\p.2∉s then s ++ [p.2] else s
theorem xGI (pairs:List (Int × Int)) (x:Int) (s:List Int):nextR pairs x s=pairs.foldl (putR x) s:=rfl
theorem xFM {pairs:List (Int × Int)} {n:Nat} (hr:∀p∈pairs,0<=p.1/\p.1<(n:Int)/\0<=p.2/\p.2<(n:Int)) {s:List Int} {x:Int} {p:Int × Int} (hp:p∈pairs) (hn:s.Nodup) (hs:∀y∈s,0<=y/\y<(n:Int)):
 (putR x s p).Nodup/\∀y∈putR x s p,0<=y/\y<(n:Int):=by
 unfold putR;by_cases h:p.1=x/\p.2∉s
 ·rw [bA h];constructor
  ·rw [List.nodup_append];refine ⟨hn,by simp,fun a ha b hb=>?_⟩;rw [bS] at hb;subst hb;exact fun e=>h.2 (e ▸ ha)
  ·intro y hy;rcases List.mem_append.1 hy with hy | hy
   ·exact hs y hy
   ·rw [bS] at hy;subst hy;exact ⟨(hr p hp).2.2.1,(hr p hp).2.2.2⟩
 ·rw [aZ h];exact ⟨hn,hs⟩
theorem xGH (x:Int) (s:List Int) (p:Int × Int) (i:Nat) (y:Int) (h:s[i]?=some y):(putR x s p)[i]?=some y:=by
 unfold putR;split
 ·rw [List.getElem?_append_left (List.getElem?_eq_some_iff.1 h).1];exact h
 ·exact h
theorem xAR (pairs:List (Int × Int)) (n:Nat) (a b:Int) (A:Option Addr) (c:Nat) (w:World) (hs:Slc 2 RPr w A c pairs) (hr:∀p∈pairs,0<=p.1/\p.1<(n:Int)/\0<=p.2/\p.2<(n:Int)) (hn:n<=65536):
 Calls Tryz.prog 171 #[.slice A pairs.length c,.int .i64 n,.int .i64 a,.int .i64 b] w fun e' w'=>e' = .returned (.bool (outB pairs n a b))/\Below w.heap.size w w':=by
 have hle:=hs.le;have hbig:=hs.big;have HS:=aF hs;clear hs;by_cases hab:0<=a/\a<(n:Int)/\0<=b/\b<(n:Int)
 case neg=>
  have HF:Hid (outB pairs n a b=false):=aF (by unfold outB;rw [bA (by omega)]);rw [HF.out];go_enter Tryz.func171,Tryz.ntmps171
  go_wp2_with fail
  all_goals first
   | (exfalso;omega)
   | (go_ret;exact ⟨rfl,aX _ _⟩)
 case pos=>
  obtain ⟨ha0,ha1,hb0,hb1⟩:=hab;have HQ:Hid (outB pairs n a b=outF pairs b (n+1) [a] 0):=aF (by unfold outB;rw [aZ (by omega)];rfl);generalize outB pairs n a b=q at HQ ⊢;obtain ⟨i0,hi,hz0,hz1,hz2⟩:=info_parts eF;have e1:¬a<0:=by omega
  have e2:¬(n:Int)<=a:=by omega
  have e3:¬b<0:=by omega
  have e4:¬(n:Int)<=b:=by omega
  go_enter Tryz.func171,Tryz.ntmps171
  go_wp2_with fail
  have HOWN0:Hid ((w.alloc (.cells #[.int .i64 a] 3)).ownsRow w.heap.size 3 1 (.slice (some ⟨w.heap.size,0,none⟩) 1 1) [a].length ([a].map (Value.int .i64))):=aF ⟨by simp,.inr ⟨w.heap.size,1,#[.int .i64 a],rfl,aY _,Array.getElem?_push_size,by simp,by unfold maxLen;omega,by simp,by simp⟩⟩;go_loopg [9,10] (n+1) (fun gk v iv wr=>∃(s:List Int) (i:Nat),gk+i=n+1/\iv = .int .i64 i/\Hid (s.Nodup)/\Hid (∀y∈s,0<=y/\y<(n:Int))/\Hid (wr.ownsRow w.heap.size 3 1 v s.length (s.map (Value.int .i64)))/\Hid (Below w.heap.size w wr)/\w.heap.size+1<=wr.heap.size/\Hid (q=outF pairs b gk s i))
  case atStart=>exact ⟨[a],0,by omega,rfl,aF (by simp),aF (by simp;omega),HOWN0,aF ((aX _ _).alloc (aY _) _),by simp,HQ⟩
  case round=>
   clear HOWN0 HQ;obtain ⟨s,i,hgk,rfl,HND,HRG,HOWN,HBL,hsz,HQ⟩:=hrel;have hlen:=fA n s HND.out HRG.out;obtain ⟨B,c2,rfl,hsl⟩:=dE HOWN.out;have hsle:=hsl.le;have hsbig:=hsl.big;by_cases hlt:i<s.length
   ·obtain ⟨g,o,rfl,hg,hx⟩:=hsl.sl.at_ hlt;obtain ⟨x,hxx⟩:∃x,s[i]=x:=⟨_,rfl⟩;have hsi:s[i]?=some x:=(by rw [bD hlt,hxx]);rw [hxx] at hx;have x0:wr.cell? ⟨g,o+i,none⟩=some (.int .i64 x):=(by simpa [RInt] using hx);obtain ⟨m,rfl⟩:∃m,gk=m+1:=⟨gk - 1,by omega⟩;clear hx hxx hsl;by_cases hxb:x=b
    ·have HF:Hid (q=true):=aF (by rw [HQ.out,outF,hsi];simp [hxb]);have e5:(x == b)=true:=by simp [hxb]
     clear HQ hsi hxb;go_wp2_with fail
     go_ret;exact ⟨by rw [HF.out];rfl,HBL.out⟩
    have e5:(x == b)=false:=by simp [hxb]
    have HQ2:Hid (q=outF pairs b m ((pairs.take pairs.length).foldl (putR x) s) (i+1)):=aF (by rw [HQ.out,outF,hsi,cA];simp only;rw [aZ hxb,xGI]);have HSI:=aF hsi;clear HQ hsi hxb;go_wp2_with fail
    go_loopg [9,11] pairs.length (fun gj v jv wr2=>∃(s2:List Int) (j:Nat),gj=pairs.length - j/\j<=pairs.length/\jv = .int .i64 j/\Hid (s2=(pairs.take j).foldl (putR x) s)/\Hid (s2[i]?=some x)/\Hid (s2.Nodup)/\Hid (∀y∈s2,0<=y/\y<(n:Int))/\Hid (wr2.ownsRow w.heap.size 3 1 v s2.length (s2.map (Value.int .i64)))/\Hid (Below w.heap.size w wr2)/\w.heap.size+1<=wr2.heap.size)
    case atStart=>exact ⟨s,0,by omega,by omega,rfl,aF rfl,HSI,HND,HRG,HOWN,HBL,hsz⟩
    case round=>
     clear HSI HND HRG HOWN HBL x0 e5 hsz hlt hsle hsbig hg hlen;obtain ⟨s2,j,hgj,hj,rfl,HS2,HSI,HND,HRG,HOWN,HBL,hsz⟩:=hrel;have hlen:=fA n s2 HND.out HRG.out;obtain ⟨B2,c3,rfl,hsl⟩:=dE HOWN.out;have hsle:=hsl.le;have hsbig:=hsl.big;by_cases hlt:j<pairs.length
     ·have hil:i<s2.length:=(List.getElem?_eq_some_iff.1 HSI.out).1;have HIL:=aF hil;obtain ⟨g2,o2,rfl,hg2,hx⟩:=hsl.sl.at_ hil
      have hx2:RInt wr wr.heap.size g2 (o2+i * 1) x:=by
       have hxx:=HSI.out;rw [bD hil] at hxx;injection hxx with hxx
       exact hxx ▸ hx
      have x0:wr.cell? ⟨g2,o2+i,none⟩=some (.int .i64 x):=(by simpa [RInt] using hx2);obtain ⟨bp,op,rfl,hbp,hp⟩:=(HS.out.keep RPr.keeps HBL.out).sl.at_ hlt;have HTK:Hid ((pairs.take (j+1)).foldl (putR x) s=putR x s2 pairs[j]):=aF (by rw [bF hlt,List.foldl_append,<- HS2.out];rfl);have HPM:=aF (xFM hr (x:=x) (bN hlt) HND.out HRG.out);have HPP:=aF (xGH x s2 pairs[j] i x HSI.out);obtain ⟨p,hpp⟩:∃p,pairs[j]=p:=⟨_,rfl⟩;rw [hpp] at hp HTK HPM HPP;obtain ⟨p1,p2⟩:=p;obtain ⟨y0,y1⟩:=hp;simp only at y0 y1;have HSL:=aF (xGB s2 p2 (some ⟨g2,o2,none⟩) c3 wr.drew (hsl.keep RInt.keeps ((aX _ _).drew)));clear hx hx2 hpp hsl hil;go_wp2_with fail
      have hS:wr.drew.cell? ⟨bp,op+j * 2,none⟩=some (.int .i64 p1)/\wr.drew.cell? ⟨bp,op+j * 2+1,none⟩=some (.int .i64 p2)/\wr.drew.cell? ⟨g2,o2+i,none⟩=some (.int .i64 x):=⟨y0,y1,x0⟩;have hil:=HIL.out;by_cases hpx:p1=x
      ·have e6:(p1 == x)=true:=by simp [hpx]
       refine cQ (S:=fun X=>X.cell? ⟨bp,op+j * 2,none⟩=some (.int .i64 p1)/\X.cell? ⟨bp,op+j * 2+1,none⟩=some (.int .i64 p2)/\X.cell? ⟨g2,o2+i,none⟩=some (.int .i64 x)) [0,1,2,3,4,5,6,7,8,9,10,11,12,13,14,15,16,17,18,19] (by kernel_rfl) ?_;(iterate 9 (refine cR (v:=?_) ?_ hS ?_;rotate_left;(next=>(rintro X ⟨s0,s1,s2'⟩;(try simp only [aI]);go_simp;rfl));simp only [aM]));try rw [e6]
       (iterate 2 (refine cR (v:=?_) ?_ hS ?_;rotate_left;(next=>(rintro X ⟨s0,s1,s2'⟩;(try simp only [aI]);go_simp;rfl));simp only [aM]));(iterate 6 (refine cR (v:=?_) ?_ hS ?_;rotate_left;(next=>(rintro X ⟨s0,s1,s2'⟩;(try simp only [aI]);go_simp;rfl));simp only [aM]));(refine cM (fun K1 hK1=>?_);simp only [aM];rw [bA (by rfl)];go_simp);refine HSL.out.mono ?_;rintro e' w3 ⟨rfl,hw⟩;obtain rfl:=hw.symm;refine hK1.out _ _ (fun _=>hS) ?_;(iterate 2 (refine cR (v:=?_) ?_ hS ?_;rotate_left;(next=>(rintro X ⟨s0,s1,s2'⟩;(try simp only [aI]);go_simp;rfl));simp only [aM]));refine cV ?_;by_cases hm:p2∈s2
       ·have hmd:decide (p2∈s2)=true:=(by simp [hm]);have HP:Hid (putR x s2 (p1,p2)=s2):=aF (by unfold putR;rw [aZ (fun h=>h.2 hm)]);rw [hmd];clear hmd hm;go_wp2_with fail
        go_roundg (pairs.length - (j+1))
        case measure=>omega
        case rel=>exact ⟨s2,j+1,rfl,by omega,by go_num,aF (by rw [HTK.out,HP.out]),HSI,HND,HRG,aF (HOWN.out.drew),aF (HBL.out.drew),hsz⟩
       ·have hmd:decide (p2∈s2)=false:=(by simp [hm]);have HP:Hid (putR x s2 (p1,p2)=s2 ++ [p2]):=aF (by unfold putR;rw [bA ⟨hpx,hm⟩]);have hln:=fA n _ HPM.out.1 HPM.out.2;rw [HP.out,bB,cG] at hln;rw [hmd];clear hmd hm;go_wp2_with (at_builtin;refine wpList_append_own _ rfl _ _ 58 rfl w.heap.size 3 i0 (.int .i64 0) 1 8 Tryz.underlying58 hi hz0 hz1 hz2 rfl (by decide) _ _ _ rfl (HOWN.out.drew.alloc _) ⟨_,0,none⟩ 1 1 [.int .i64 p2] rfl rfl (dZ _ _ _ _ (by first | rfl | simp)) (ints_oneCell .i64 [p2]) (by unfold maxLen;omega) (by omega) (by simp;omega) ?_;intro v4 w4 hown4 hg4 _)
        have hs4:=hg4.size;go_roundg (pairs.length - (j+1))
        case measure=>omega
        case rel=>exact ⟨s2 ++ [p2],j+1,rfl,by omega,by go_num,aF (by rw [HTK.out,HP.out]),aF (HP.out ▸ HPP.out),aF (HP.out ▸ HPM.out.1),aF (HP.out ▸ HPM.out.2),aF (by rw [bB,cG,bU];exact hown4),aF ((HBL.out.drew.alloc (by simp;omega) _).grown hg4 (by simp;omega) (fun k hk=>(HOWN.out.lt k hk).1)),by simp at hs4;omega⟩
      ·have e6:(p1 == x)=false:=by simp [hpx]
       have HP:Hid (putR x s2 (p1,p2)=s2):=aF (by unfold putR;rw [aZ (fun h=>hpx h.1)]);refine cQ (S:=fun X=>X.cell? ⟨bp,op+j * 2,none⟩=some (.int .i64 p1)/\X.cell? ⟨bp,op+j * 2+1,none⟩=some (.int .i64 p2)/\X.cell? ⟨g2,o2+i,none⟩=some (.int .i64 x)) [0,1,2,3,4,5,6,7,8,9,10,11,12,13,14,15,16,17,18,19] (by kernel_rfl) ?_;(iterate 9 (refine cR (v:=?_) ?_ hS ?_;rotate_left;(next=>(rintro X ⟨s0,s1,s2'⟩;(try simp only [aI]);go_simp;rfl));simp only [aM]));try rw [e6]
       (iterate 2 (refine cR (v:=?_) ?_ hS ?_;rotate_left;(next=>(rintro X ⟨s0,s1,s2'⟩;(try simp only [aI]);go_simp;rfl));simp only [aM]));(iterate 8 (refine cU (v:=undef) (by kernel_rfl) (fun _ _ _ h=>h) (Or.inr ⟨by rfl,rfl⟩) hS ?_;simp only [aM]));((refine cR (v:=?_) ?_ hS ?_;rotate_left;(next=>(rintro X ⟨s0,s1,s2'⟩;(try simp only [aI]);go_simp;rfl));simp only [aM]))
       refine cV ?_;go_wp2_with fail
       go_roundg (pairs.length - (j+1))
       case measure=>omega
       case rel=>exact ⟨s2,j+1,rfl,by omega,by go_num,aF (by rw [HTK.out,HP.out]),HSI,HND,HRG,aF (HOWN.out.drew),aF (HBL.out.drew),hsz⟩
     ·have HF:Hid (q=outF pairs b m s2 (i+1)):=aF (by rw [HQ2.out,HS2.out,show j=pairs.length by omega]);clear HS2 HSI;go_wp2_with fail
      go_roundg m
      case measure=>omega
      case rel=>exact ⟨s2,i+1,by omega,by go_num,HND,HRG,HOWN,HBL,hsz,HF⟩
   ·have HF:Hid (q=false):=aF (by
     rw [HQ.out];cases gk with
     | zero=>rfl
     | succ m=>rw [outF,cE (by omega)])
    clear HQ;go_wp2_with fail
    go_ret;exact ⟨by rw [HF.out];rfl,HBL.out⟩
end
section
open Go Go.RowKit
theorem xFO (ts:List Ty) (A:Option Addr) (c:Nat) (w:World) (hs:Slc 5 RTy w A c ts):
 Calls Tryz.prog 65 #[.slice A ts.length c] w fun e' w'=>(∃q,e' = .returned (.int .i64 q)/\(q<=0->ts.length<=200))/\Below w.heap.size w w':=by
 have hle:=hs.le;have hbig:=hs.big;go_enter Tryz.func65,Tryz.ntmps65
 go_wp2
 go_loopw [3,8] (fun n v wr=>∃k m:Nat,k<=ts.length/\k<=m/\m<=200/\n = .int .i64 m/\v = .int .i64 k/\Below w.heap.size w wr) (fun _ v _=>ts.length - (intOf v).toNat)
 case atStart=>exact ⟨0,0,by omega,by omega,by omega,rfl,rfl,aX _ _⟩
 case round=>
  obtain ⟨k,m,hk,hkm,hm,rfl,rfl,hB⟩:=hrel;by_cases hlt:k<ts.length
  ·obtain ⟨b1,o1,rfl,hb1,r1⟩:=hs.sl.at_ hlt;obtain ⟨r1,r2,r3,r4,A2,c2,r5,r6,r7,r8⟩:=RTy.keeps _ _ _ w.heap.size _ _ _ (aY _) hb1 hB r1;generalize ts[k]=x at *;clear r8 hs;have hBs:=hB.size;go_wp2
   all_goals first
    | (go_ret
       exact ⟨⟨1,rfl,by omega⟩,aH⟩)
    | (go_roundw
       case rel=>
        refine ⟨k+1,m+(1+if 500<x.flds.length then 500 else x.flds.length),by omega,by omega,?_,?_,by go_num,aH⟩
        ·grind
        ·congr 1;grind
       case measure=>simp [intOf];omega)
  ·go_wp2
   go_ret;exact ⟨⟨0,rfl,fun _=>by omega⟩,hB⟩
end
section
open Go Go.RowKit Go.Maps Go.WideMaps
theorem xDV {b:Bdy} {o:Opd} (h:opE b o=0):0<=o.kind/\o.kind<=4:=by
 unfold opE at h;by_cases c1:o.kind<0\/4<o.kind
 ·rw [bA c1] at h;cases h
 ·omega
end
section
open Go Go.RowKit
def shapeE (r:Rvl):Int:=if r.kind<0\/4<r.kind then 14 else if unusedR r=false then 2 else 0
theorem xEX (r:Rvl) (A B:Option Addr) (c d:Nat) (w:World):
 Calls Tryz.prog 99 #[.agg (rvC r A c B d).toArray] w fun e' w'=>e' = .returned (.bool (dM r))/\Below w.heap.size w w':=by
 have HZ:=aF (fun W=>xAF r.place A c W);obtain ⟨q2,hq2⟩:∃q,(r.kind == 0)=q:=⟨_,rfl⟩;obtain ⟨q3,hq3⟩:∃q,(r.op == 0)=q:=⟨_,rfl⟩;obtain ⟨q4,hq4⟩:∃q,((r.args.length:Int) == 0)=q:=⟨_,rfl⟩;obtain ⟨q5,hq5⟩:∃q,(r.reg == 0)=q:=⟨_,rfl⟩;obtain ⟨q6,hq6⟩:∃q,r.mu=q:=⟨_,rfl⟩;obtain ⟨q7,hq7⟩:∃q,zeroP r.place=q:=⟨_,rfl⟩
 have HBL:Hid (dM r=(q2 && q3 && q4 && q5 && !q6 && q7)):=aF (by
  unfold dM;rw [<- hq2,<- hq3,<- hq4,<- hq5,<- hq6,<- hq7,eR]
  rfl)
 rw [hq7] at HZ;generalize dM r=R at HBL ⊢;clear hq7;unfold rvC;rcases (show q2=false\/(q2=true/\q3=false)\/(q2=true/\q3=true/\q5=false)\/(q2=true/\q3=true/\q5=true/\q6=true)\/(q2=true/\q3=true/\q5=true/\q6=false/\q7=false)\/(q2=true/\q3=true/\q5=true/\q6=false/\q7=true) by cases q2 <;> cases q3 <;> cases q5 <;> cases q6 <;> cases q7 <;> simp) with rfl | ⟨rfl,rfl⟩ | ⟨rfl,rfl,rfl⟩ | ⟨rfl,rfl,rfl,rfl⟩ | ⟨rfl,rfl,rfl,rfl,rfl⟩ | ⟨rfl,rfl,rfl,rfl,rfl⟩
 all_goals
  go_enter Tryz.func99,Tryz.ntmps99
  go_wp2_with (go_at_call 98;refine (HZ.out _).mono ?_;rintro e' w1 ⟨rfl,hb1⟩;have HB:=aF (((aX _ _).alloc (aY _) _).trans (hb1.mono ((aX _ _).alloc (aY _) _).size));have y:=cK (cP w _ _) hb1;obtain ⟨y0,y1,y2,y3,y4,y5,y6⟩:=aS y;clear y hb1)
  go_ret;refine ⟨?_,by first | exact HB.out | exact aH⟩;rw [HBL.out];clear HZ HBL;first | rfl | (simp;done) | (cases q4 <;> simp;done) | (cases q3 <;> cases q4 <;> cases q5 <;> cases q6 <;> cases q7 <;> simp;done)
theorem xAH (r:Rvl) (A B:Option Addr) (c d:Nat) (w:World):
 Calls Tryz.prog 141 #[.agg (rvC r A c B d).toArray] w fun e' w'=>e' = .returned (.int .i64 (shapeE r))/\Below w.heap.size w w':=by
 have HZ:=aF (fun W=>xAF r.place A c W);obtain ⟨R,hR⟩:∃R,shapeE r=R:=⟨_,rfl⟩;rw [hR];unfold shapeE at hR;by_cases h0:r.kind<0\/4<r.kind
 ·have HF:Hid (R=14):=aF (by rw [<- hR,bA h0]);clear hR HZ;unfold rvC;go_enter Tryz.func141,Tryz.ntmps141
  go_wp2_with fail
  all_goals first
   | (exfalso;omega)
   | (go_ret;exact ⟨by rw [HF.out];rfl,aH⟩)
 rw [aZ h0] at hR;obtain ⟨q3,hq3⟩:∃q,(r.op != 0)=q:=⟨_,rfl⟩;obtain ⟨q5,hq5⟩:∃q,(r.reg != 0)=q:=⟨_,rfl⟩;obtain ⟨q6,hq6⟩:∃q,r.mu=q:=⟨_,rfl⟩;obtain ⟨q7,hq7⟩:∃q,zeroP r.place=q:=⟨_,rfl⟩;obtain ⟨n,hn⟩:∃n,r.args.length=n:=⟨_,rfl⟩;have k3:decide (r.op=0) = !q3:=by rw [<- hq3,bR];simp
 have k5:decide (r.reg=0) = !q5:=by rw [<- hq5,bR];simp
 have HR:Hid (R=if (let plain:=(!q5) && !q6 && q7;if r.kind=0 then plain && !q3 && decide (n=1) else if r.kind=1 then !q3 && decide (n=0) else if r.kind=2 then plain && decide (n=1) else if r.kind=3 then plain && decide (n=2) else plain && !q3)=false then 2 else 0):=aF (by
  rw [<- hR];unfold unusedR
  rw [k3,k5,hq6,hq7,hn])
 rw [hq7] at HZ;clear hR k3 k5 hq7;unfold rvC;rw [hn,hq6];rcases (show r.kind=0\/r.kind=1\/r.kind=2\/r.kind=3\/r.kind=4 by omega) with hk | hk | hk | hk | hk
 ·rw [hk] at HR ⊢;have HF:=aF HR.out;clear HR hk h0 hn hq6;simp only at HF;rcases (show q3=true\/(q3=false/\q5=true)\/(q3=false/\q5=false/\q6=true)\/(q3=false/\q5=false/\q6=false/\q7=false)\/(q3=false/\q5=false/\q6=false/\q7=true) by cases q3 <;> cases q5 <;> cases q6 <;> cases q7 <;> simp) with rfl | ⟨rfl,rfl⟩ | ⟨rfl,rfl,rfl⟩ | ⟨rfl,rfl,rfl,rfl⟩ | ⟨rfl,rfl,rfl,rfl⟩
  all_goals
   go_enter Tryz.func141,Tryz.ntmps141
   go_wp2_with (go_at_call 98;refine (HZ.out _).mono ?_;rintro e' w1 ⟨rfl,hb1⟩;have HB:=aF (((aX _ _).alloc (aY _) _).trans (hb1.mono ((aX _ _).alloc (aY _) _).size));have y:=cK (cP w _ _) hb1;obtain ⟨y0,y1,y2,y3,y4,y5,y6⟩:=aS y;clear y hb1)
   all_goals first
    | (exfalso;omega)
    | (go_ret
       refine ⟨?_,by first | exact HB.out | exact aH⟩;rw [HF.out];refine congrArg (fun i=>Ending.returned (Value.int .i64 i)) ?_;clear HF HZ;try clear HB y0 y1 y2 y3 y4 y5 y6
       first | rfl | (simp;done) | (simp;omega) | (simp_all;done) | (simp_all;omega) | grind)
 ·rw [hk] at HR ⊢;have HF:=aF HR.out;clear HR hk h0 hn hq6;simp only at HF;cases q3
  all_goals
   go_enter Tryz.func141,Tryz.ntmps141
   go_wp2_with (go_at_call 98;refine (HZ.out _).mono ?_;rintro e' w1 ⟨rfl,hb1⟩;have HB:=aF (((aX _ _).alloc (aY _) _).trans (hb1.mono ((aX _ _).alloc (aY _) _).size));have y:=cK (cP w _ _) hb1;obtain ⟨y0,y1,y2,y3,y4,y5,y6⟩:=aS y;clear y hb1)
   all_goals first
    | (exfalso;omega)
    | (go_ret
       refine ⟨?_,by first | exact HB.out | exact aH⟩;rw [HF.out];refine congrArg (fun i=>Ending.returned (Value.int .i64 i)) ?_;clear HF HZ;try clear HB y0 y1 y2 y3 y4 y5 y6
       first | rfl | (simp;done) | (simp;omega) | (simp_all;done) | (simp_all;omega) | grind)
 ·rw [hk] at HR ⊢;have HF:=aF HR.out;clear HR hk h0 hn hq6;simp only at HF;rcases (show q5=true\/(q5=false/\q6=true)\/(q5=false/\q6=false/\q7=false)\/(q5=false/\q6=false/\q7=true) by cases q5 <;> cases q6 <;> cases q7 <;> simp) with rfl | ⟨rfl,rfl⟩ | ⟨rfl,rfl,rfl⟩ | ⟨rfl,rfl,rfl⟩
  all_goals
   go_enter Tryz.func141,Tryz.ntmps141
   go_wp2_with (go_at_call 98;refine (HZ.out _).mono ?_;rintro e' w1 ⟨rfl,hb1⟩;have HB:=aF (((aX _ _).alloc (aY _) _).trans (hb1.mono ((aX _ _).alloc (aY _) _).size));have y:=cK (cP w _ _) hb1;obtain ⟨y0,y1,y2,y3,y4,y5,y6⟩:=aS y;clear y hb1)
   all_goals first
    | (exfalso;omega)
    | (go_ret
       refine ⟨?_,by first | exact HB.out | exact aH⟩;rw [HF.out];refine congrArg (fun i=>Ending.returned (Value.int .i64 i)) ?_;clear HF HZ;try clear HB y0 y1 y2 y3 y4 y5 y6
       first | rfl | (simp;done) | (simp;omega) | (simp_all;done) | (simp_all;omega) | grind)
 ·rw [hk] at HR ⊢;have HF:=aF HR.out;clear HR hk h0 hn hq6;simp only at HF;rcases (show q5=true\/(q5=false/\q6=true)\/(q5=false/\q6=false/\q7=false)\/(q5=false/\q6=false/\q7=true) by cases q5 <;> cases q6 <;> cases q7 <;> simp) with rfl | ⟨rfl,rfl⟩ | ⟨rfl,rfl,rfl⟩ | ⟨rfl,rfl,rfl⟩
  all_goals
   go_enter Tryz.func141,Tryz.ntmps141
   go_wp2_with (go_at_call 98;refine (HZ.out _).mono ?_;rintro e' w1 ⟨rfl,hb1⟩;have HB:=aF (((aX _ _).alloc (aY _) _).trans (hb1.mono ((aX _ _).alloc (aY _) _).size));have y:=cK (cP w _ _) hb1;obtain ⟨y0,y1,y2,y3,y4,y5,y6⟩:=aS y;clear y hb1)
   all_goals first
    | (exfalso;omega)
    | (go_ret
       refine ⟨?_,by first | exact HB.out | exact aH⟩;rw [HF.out];refine congrArg (fun i=>Ending.returned (Value.int .i64 i)) ?_;clear HF HZ;try clear HB y0 y1 y2 y3 y4 y5 y6
       first | rfl | (simp;done) | (simp;omega) | (simp_all;done) | (simp_all;omega) | grind)
 ·rw [hk] at HR ⊢;have HF:=aF HR.out;clear HR hk h0 hn hq6;simp only at HF;rcases (show q3=true\/(q3=false/\q5=true)\/(q3=false/\q5=false/\q6=true)\/(q3=false/\q5=false/\q6=false/\q7=false)\/(q3=false/\q5=false/\q6=false/\q7=true) by cases q3 <;> cases q5 <;> cases q6 <;> cases q7 <;> simp) with rfl | ⟨rfl,rfl⟩ | ⟨rfl,rfl,rfl⟩ | ⟨rfl,rfl,rfl,rfl⟩ | ⟨rfl,rfl,rfl,rfl⟩
  all_goals
   go_enter Tryz.func141,Tryz.ntmps141
   go_wp2_with (go_at_call 98;refine (HZ.out _).mono ?_;rintro e' w1 ⟨rfl,hb1⟩;have HB:=aF (((aX _ _).alloc (aY _) _).trans (hb1.mono ((aX _ _).alloc (aY _) _).size));have y:=cK (cP w _ _) hb1;obtain ⟨y0,y1,y2,y3,y4,y5,y6⟩:=aS y;clear y hb1)
   all_goals first
    | (exfalso;omega)
    | (go_ret
       refine ⟨?_,by first | exact HB.out | exact aH⟩;rw [HF.out];refine congrArg (fun i=>Ending.returned (Value.int .i64 i)) ?_;clear HF HZ;try clear HB y0 y1 y2 y3 y4 y5 y6
       first | rfl | (simp;done) | (simp;omega) | (simp_all;done) | (simp_all;omega) | grind)
end
section
open Go Go.RowKit Go.Shelf
theorem xHB (c:UInt8):isLet c=((decide (97<=(c.toNat:Int)) && decide ((c.toNat:Int)<=122)) || (decide (65<=(c.toNat:Int)) && decide ((c.toNat:Int)<=90)) || decide ((c.toNat:Int)=95)):=by
 rw [bR];simp only [isLet,Bool.or_eq_true,bQ,decide_eq_true_eq];omega
def okAt (k:Nat) (c:UInt8):Bool:=isLet c || (decide (k≠0) && isDig c)
def okFrom:Nat->List UInt8->Bool
 | _,[]=>true
 | k,c :: r=>okAt k c && okFrom (k+1) r
theorem xBD:∀(l:List UInt8) (k:Nat),okFrom (k+1) l=l.all (fun c=>isLet c || isDig c)
 | [],_=>rfl
 | c :: r,k=>by simp [okFrom,okAt,xBD r]
theorem xFB (l:List UInt8):sM l=(okFrom 0 l && (decide (1<=l.length) && decide (l.length<=255))):=by
 cases l with
 | nil=>rfl
 | cons c r=>
   simp only [sM,okFrom,xBD,okAt,bK];rw [bR];simp only [bQ,Bool.or_eq_true,decide_eq_true_eq];constructor
   ·rintro ⟨⟨h1,h2⟩,h3⟩;exact ⟨⟨.inl h1,h2⟩,by omega,by omega⟩
   ·rintro ⟨⟨h1,h2⟩,h3⟩;exact ⟨⟨h1.resolve_right (by simp),h2⟩,by omega⟩
theorem xAM (s:ByteArray) (w:World) (hs:s.size<=9223372036854775807):
 Calls Tryz.prog 92 #[.string s] w fun e w'=>e = .returned (.bool (isIdent s))/\w'=w:=by
 obtain ⟨R,hR⟩:∃R,okFrom 0 s.data.toList=R:=⟨_,rfl⟩;have HR:Hid (isIdent s=(R && (decide (1<=s.size) && decide (s.size<=255)))):=aF (by unfold isIdent;rw [xFB,hR,eI]);generalize isIdent s=q at HR ⊢;have HR0:=aF hR;clear hR;go_enter Tryz.func92,Tryz.ntmps92
 go_wp2_with fail
 go_loop [3] (fun v=>∃k:Nat,k<=s.size/\v = .int .i64 k/\Hid (R=okFrom k (s.data.toList.drop k))) (fun v=>s.size - (intOf v).toNat)
 case atStart=>exact ⟨0,Nat.zero_le _,rfl,aF HR0.out.symm⟩
 case round=>
  obtain ⟨k,hk,rfl,hr⟩:=hrel;by_cases hlt:k<s.size
  ·have hd:=nF s k hlt;obtain ⟨c,hc⟩:∃c,s[k]=c:=⟨_,rfl⟩;rw [hc] at hd;have hcb:c.toNat<256:=c.toNat_lt;obtain ⟨y,hy⟩:∃y,c.toNat=y:=⟨_,rfl⟩
   have HOK:Hid (okAt k c=((decide (97<=(y:Int)) && decide ((y:Int)<=122)) || (decide (65<=(y:Int)) && decide ((y:Int)<=90)) || decide ((y:Int)=95) || (decide (k≠0) && (decide (48<=(y:Int)) && decide ((y:Int)<=57))))):=aF (by
    rw [<- hy];unfold okAt
    rw [xHB,show isDig c=(decide (48<=(c.toNat:Int)) && decide ((c.toNat:Int)<=57)) by rw [bR];simp only [isDig,bQ,decide_eq_true_eq];omega])
   have HN:Hid (R=(okAt k c && okFrom (k+1) (s.data.toList.drop (k+1)))):=aF (by rw [hr.out,hd];rfl);rw [hy] at hcb;have hcy:s[k].toNat=y:=by rw [hc,hy]
   clear hd hr;cases hz:okAt k c
   ·have HZ:Hid (R=false):=aF (by rw [HN.out,hz];rfl);rw [hz] at HOK;clear hz HN;go_wp2_with fail
    all_goals first
     | (go_ret;exact ⟨by rw [HR.out,HZ.out];rfl,rfl⟩)
     | (exfalso;have:=HOK.out;clear HOK HZ HR HR0;grind)
   ·have HZ:Hid (R=okFrom (k+1) (s.data.toList.drop (k+1))):=aF (by rw [HN.out,hz];rfl);rw [hz] at HOK;clear hz HN;go_wp2_with fail
    all_goals first
     | (go_round
        case rel=>exact ⟨k+1,by omega,by go_num,HZ⟩
        case measure=>simp [intOf];omega)
     | (exfalso;have:=HOK.out;clear HOK HZ HR HR0;grind)
  ·have HQ:Hid (q=(decide (1<=s.size) && decide (s.size<=255))):=aF (by rw [HR.out,hr.out,vP s k (by omega)];rfl);clear hr HR;rcases (show s.size<1\/(1<=s.size/\s.size<=255)\/255<s.size by omega) with h | ⟨h,h'⟩ | h
   ·obtain rfl:q=false:=by rw [HQ.out];simp;omega
    clear HQ;go_wp2_with fail
    go_ret;exact ⟨rfl,rfl⟩
   ·obtain rfl:q=true:=by rw [HQ.out];simp;omega
    clear HQ;go_wp2_with fail
    go_ret;exact ⟨by simp;omega,rfl⟩
   ·obtain rfl:q=false:=by rw [HQ.out];simp;omega
    clear HQ;go_wp2_with fail
    go_ret;exact ⟨by simp;omega,rfl⟩
end
section
open Go Go.RowKit
theorem alF (w:World) (o:Obj):Below w.heap.size w (w.alloc o):=(aX _ _).alloc (aY _) _
theorem xAV (l:List ByteArray) (s:ByteArray):sumN (l ++ [s])=sumN l+(1+szN s):=by simp [sumN]
theorem xHM (w:World) (x:ByteArray):∀j u,[Value.string x][j]?=some u->(w.alloc (.cells #[.string x] 9)).cell? ((⟨w.heap.size,0,none⟩:Addr).add j)=some u:=fun j u hj=>by
 rw [add0];exact rD w [.string x] 9 j u hj
theorem xHL (x:ByteArray):∀u∈[Value.string x],u.oneCell'=true:=fun u hu=>by simp at hu;subst hu;rfl
end
section
open Go Go.RowKit
def idxN (s:ByteArray):Nat->List ByteArray->Int
 | _,[]=> -1
 | k,x :: r=>if x=s then k else idxN s (k+1) r
theorem xBS (s:ByteArray):∀(k:Nat) (l:List ByteArray),(0<=idxN s k l↔memN s l=true)
 | _,[]=>by simp [idxN,memN]
 | k,x :: r=>by
   unfold idxN;by_cases h:x=s
   ·rw [bA h];simp [memN,h]
   ·rw [aZ h,xBS s (k+1) r];simp [memN,h]
theorem xCE (l:List ByteArray) (s:ByteArray) (A:Option Addr) (c:Nat) (w:World) (hs:Slc 1 RN w A c l):
 Calls Tryz.prog 93 #[.slice A l.length c,.string s] w fun e' w'=>e' = .returned (.int .i64 (idxN s 0 l))/\w'=w:=by
 have hle:=hs.le;have hbig:=hs.big;obtain ⟨R,hR⟩:∃R,idxN s 0 l=R:=⟨_,rfl⟩;rw [hR];have HR:=aF hR;have HS:=aF hs;clear hR hs;go_enter Tryz.func93,Tryz.ntmps93
 go_wp2_with fail
 go_loop [5] (fun v=>∃k:Nat,k<=l.length/\v = .int .i64 k/\Hid (R=idxN s k (l.drop k))) (fun v=>l.length - (intOf v).toNat)
 case atStart=>exact ⟨0,by omega,rfl,aF HR.out.symm⟩
 case round=>
  obtain ⟨k,hk,rfl,hr⟩:=hrel;by_cases hlt:k<l.length
  ·have hd:=cS hlt;obtain ⟨b,o,rfl,hb,hx⟩:=HS.out.sl.at_ hlt;obtain ⟨y,hy⟩:∃y,l[k]=y:=⟨_,rfl⟩;rw [hy] at hd hx;have x0:w.cell? ⟨b,o+k,none⟩=some (.string y):=by simpa [RN] using hx
   have HN:Hid (R=if y=s then (k:Int) else idxN s (k+1) (l.drop (k+1))):=aF (by rw [hr.out,hd];rfl);clear hx hy hd hr;by_cases h0:y=s
   ·have HF:Hid (R=k):=aF (by rw [HN.out,bA h0]);subst h0;clear HN;go_wp2_with fail
    all_goals first
     | (go_ret;exact ⟨by rw [HF.out];rfl,rfl⟩)
     | (exfalso;simp_all;done)
   ·have HF:Hid (R=idxN s (k+1) (l.drop (k+1))):=aF (by rw [HN.out,aZ h0]);have e1:(y.toList == s.toList)=false:=beq_false_of_ne (fun h=>h0 (xAA (by rw [<- Lib.toList_data,<- Lib.toList_data];exact h)));clear HN h0;go_wp2_with fail
    go_round
    case rel=>exact ⟨k+1,by omega,by go_num,HF⟩
    case measure=>simp [intOf];omega
  ·have HN:Hid (R = -1):=aF (by rw [hr.out,bE (by omega)];rfl);clear hr;go_wp2_with fail
   go_ret;exact ⟨by rw [HN.out];rfl,rfl⟩
end
section
open Go Go.RowKit
theorem xFS {w:World} {B b o:Nat} {x:Blk} (h:RBk w B b o x):∃A c,w.cell? ⟨b,o,none⟩=some (.slice A x.stmts.length c)/\x.stmts.length<=9223372036854775807:=by
 obtain ⟨⟨A,c,h1,h2,h3,_⟩,_⟩:=h;exact ⟨A,c,h1,by omega⟩
theorem xES (b:Bdy) (bh:BH) (n:Nat) (w:World) (H:BdAt w b bh) (hn:n<=b.blocks.length):
 Calls Tryz.prog 61 #[.agg (bdC b bh).toArray,.int .i64 n] w fun e' w'=>(∃q:Int,e' = .returned (.int .i64 q)/\Hid (cntP (b.blocks.take n)<=4611686018427387904->q=cntP (b.blocks.take n)))/\Below w.heap.size w w':=by
 obtain ⟨A1,c1,A2,c2,A3,c3,A4,c4,A5,c5⟩:=bh;have hbl:=H.blk.le;have hbg:=H.blk.big;have HBK:=aF H.blk;simp only at hbl hbg HBK;have HCW:=aF (cP w [Value.string b.name,.slice A1 b.regions.length c1,.slice A2 b.outl.length c2,.slice A3 b.types.length c3,.slice A4 b.locals.length c4,.int .i64 b.args,.slice A5 b.blocks.length c5] 28);have HBW:=aF ((aX w.heap.size w).alloc (aY _) (.cells ([Value.string b.name,.slice A1 b.regions.length c1,.slice A2 b.outl.length c2,.slice A3 b.types.length c3,.slice A4 b.locals.length c4,.int .i64 b.args,.slice A5 b.blocks.length c5]).toArray 28));have y6:(w.alloc (.cells ([Value.string b.name,.slice A1 b.regions.length c1,.slice A2 b.outl.length c2,.slice A3 b.types.length c3,.slice A4 b.locals.length c4,.int .i64 b.args,.slice A5 b.blocks.length c5]).toArray 28)).cell? ⟨w.heap.size,6,none⟩=some (.slice A5 b.blocks.length c5):=HCW.out 6 _ rfl;clear H HCW;unfold bdC;simp only;go_enter Tryz.func61,Tryz.ntmps61
 go_wp2_with fail
 go_loopw [5,6] (fun m i wr=>∃(k:Nat) (q:Int),k<=n/\i = .int .i64 k/\m = .int .i64 q/\Hid (cntP (b.blocks.take k)<=4611686018427387904->q=cntP (b.blocks.take k))/\wr=w.alloc (.cells ([Value.string b.name,.slice A1 b.regions.length c1,.slice A2 b.outl.length c2,.slice A3 b.types.length c3,.slice A4 b.locals.length c4,.int .i64 b.args,.slice A5 b.blocks.length c5]).toArray 28)) (fun _ i _=>n - (intOf i).toNat)
 case atStart=>exact ⟨0,0,by omega,rfl,rfl,aF (by simp [cntP]),rfl⟩
 case round=>
  obtain ⟨k,q,hk,rfl,rfl,HQ,rfl⟩:=hrel;by_cases hlt:k<n
  ·have hlt2:k<b.blocks.length:=by omega
   obtain ⟨bb,oo,rfl,hbb,hx⟩:=(HBK.out.keep RBk.keeps HBW.out).sl.at_ hlt2;obtain ⟨SA,sc,x0,x1⟩:=xFS hx;have HT:=aF (tE hlt2);generalize (b.blocks[k]).stmts.length=m at *;have hkn:(k:Int)<n:=by omega
   have hkn2:(k:Int)<b.blocks.length:=by omega
   clear hx;go_wp2_with fail
   go_roundw
   case rel=>
    refine ⟨k+1,_,by omega,by go_num,rfl,aF (fun h=>?_),by first | rfl | trivial⟩;have h1:=HT.out;have h2:=HQ.out (by omega);try unfold wrap64
    omega
   case measure=>simp [intOf];omega
  ·obtain rfl:k=n:=by omega
   go_wp2_with fail
   all_goals first
    | (go_ret;exact ⟨⟨_,rfl,HQ⟩,HBW.out⟩)
    | (exfalso;omega)
theorem rcount_any' (b:Bdy) (bh:BH) (w:World) (H:BdAt w b bh):
 Calls Tryz.prog 19 #[.agg (bdC b bh).toArray] w fun e' w'=>(∃q:Int,e' = .returned (.int .i64 q)/\Hid (cntP b.blocks<=4611686018427387904->q=cntP b.blocks))/\Below w.heap.size w w':=by
 obtain ⟨A1,c1,A2,c2,A3,c3,A4,c4,A5,c5⟩:=bh;have hbl:=H.blk.le;have hbg:=H.blk.big;simp only at hbl hbg;have HBW:=aF ((aX w.heap.size w).alloc (aY _) (.cells ([Value.string b.name,.slice A1 b.regions.length c1,.slice A2 b.outl.length c2,.slice A3 b.types.length c3,.slice A4 b.locals.length c4,.int .i64 b.args,.slice A5 b.blocks.length c5]).toArray 28));have HF:Hid (Calls Tryz.prog 61 #[.agg ([Value.string b.name,.slice A1 b.regions.length c1,.slice A2 b.outl.length c2,.slice A3 b.types.length c3,.slice A4 b.locals.length c4,.int .i64 b.args,.slice A5 b.blocks.length c5]).toArray,.int .i64 b.blocks.length] (w.alloc (.cells ([Value.string b.name,.slice A1 b.regions.length c1,.slice A2 b.outl.length c2,.slice A3 b.types.length c3,.slice A4 b.locals.length c4,.int .i64 b.args,.slice A5 b.blocks.length c5]).toArray 28)) _):=aF (xES b ⟨A1,c1,A2,c2,A3,c3,A4,c4,A5,c5⟩ b.blocks.length _ (H.keep HBW.out) (aY _));rw [cA] at HF;clear H;unfold bdC;simp only;go_enter Tryz.func19,Tryz.ntmps19
 go_wp2_with (go_at_call 61;refine HF.out.mono ?_;rintro e' w1 ⟨⟨q,rfl,HQ⟩,hb⟩)
 go_ret;exact ⟨⟨_,rfl,HQ⟩,HBW.out.trans (hb.mono HBW.out.size)⟩
theorem xBP (l:List Opd) (B:Option Addr) (d:Nat) (w:World) (hs:Slc 4 ROp w B d l):
 Calls Tryz.prog 64 #[.slice B l.length d] w fun e' w'=>(∃q:Int,e' = .returned (.int .i64 q)/\0<=q/\q<=20000)/\Below w.heap.size w w':=by
 have hle:=hs.le;have hbg:=hs.big;obtain ⟨n0,hn0⟩:∃n:Nat,min l.length 9000=n:=⟨_,rfl⟩;have hn1:n0<=l.length:=by omega
 have hn2:n0<=9000:=by omega
 have HS:=aF (hs.takeN n0);have hlen:(l.take n0).length=n0:=by simp;omega
 have hmin:min (l.length:Int) 9000=(n0:Int):=by omega
 have hcut:∀W,(Instr.slice 59 (.slice B l.length d) none (some (.int .i64 (n0:Int))) none).run Tryz.prog W = .ok (.slice B n0 d) W:=fun W=>by
  have:=uS (P:=Tryz.prog) 59 160 B l.length d n0 4 Tryz.underlying59 Tryz.sizeOf160 hn1 hle W;rwa [show cutA B d 0 4=B by cases B <;> simp [cutA,Addr.add]] at this
 generalize l.take n0=l' at HS hlen;generalize l.length=L at hcut hmin ⊢;clear hs;go_enter Tryz.func64,Tryz.ntmps64
 go_wp2_with fail
 clear hmin hcut;go_loopw [3,13] (fun v i wr=>∃(k:Nat) (m:Int),k<=n0/\i = .int .i64 k/\v = .int .i64 m/\0<=m/\m<=9000/\Hid (Below w.heap.size w wr)) (fun _ i _=>n0 - (intOf i).toNat)
 case atStart=>exact ⟨0,_,by omega,rfl,rfl,by omega,by omega,aF (aX _ _)⟩
 case round=>
  obtain ⟨k,m,hk,rfl,rfl,hm0,hm1,HB⟩:=hrel;by_cases hlt:k<n0
  ·have hlt2:k<l'.length:=by omega
   obtain ⟨b5,o5,rfl,hb5,hx⟩:=HS.out.sl.at_ hlt2;generalize l'[k]=o at hx;obtain ⟨p0,⟨p1,A2,c2,p2,hc1,hc2,hsl⟩,p3⟩:=ROp.keeps _ _ _ w.heap.size _ _ _ (aY _) hb5 HB.out hx;have p2':wr.cell? ⟨b5,o5+k * 4+2,none⟩=some (.slice A2 o.place.proj.length c2):=p2;have hsz:=HB.out.size;clear hx hsl p2;go_wp2_with fail
   all_goals first
    | (go_ret;exact ⟨⟨_,rfl,by omega,by omega⟩,HB.out.alloc hsz _⟩)
    | (go_roundw
       case rel=>exact ⟨k+1,_,by omega,by go_num,rfl,by omega,by omega,aF (HB.out.alloc hsz _)⟩
       case measure=>simp [intOf];omega)
  ·go_wp2_with fail
   go_ret;exact ⟨⟨_,rfl,by omega,by omega⟩,HB.out⟩
theorem xAJ (w:World) (l m k:List Value) (t1 t2 t3:TypeId):(∀i v,l[i]?=some v->(((w.alloc (.cells l.toArray t1)).alloc (.cells m.toArray t2)).alloc (.cells k.toArray t3)).drew.cell? ⟨w.heap.size,i,none⟩=some v)/\(∀i v,m[i]?=some v->(((w.alloc (.cells l.toArray t1)).alloc (.cells m.toArray t2)).alloc (.cells k.toArray t3)).drew.cell? ⟨w.heap.size+1,i,none⟩=some v)/\(∀i v,k[i]?=some v->(((w.alloc (.cells l.toArray t1)).alloc (.cells m.toArray t2)).alloc (.cells k.toArray t3)).drew.cell? ⟨w.heap.size+1+1,i,none⟩=some v)/\Below w.heap.size w (((w.alloc (.cells l.toArray t1)).alloc (.cells m.toArray t2)).alloc (.cells k.toArray t3)).drew:=
 ⟨(dY (aX _ _)).1,(dY (aX _ _)).2.1,(dY (aX _ _)).2.2,Below.drew (bel3 _ _ _ _)⟩
end
section
open Go Go.RowKit
theorem xFT (ts:List Ty) (A:Option Addr) (c:Nat) (w:World) (hs:Slc 5 RTy w A c ts) (hl:ts.length<=200):
 Calls Tryz.prog 66 #[.slice A ts.length c] w fun e' w'=>(∃q:Bool,e' = .returned (.bool q))/\Below w.heap.size w w':=by
 obtain ⟨i0,hi,hz0,hz1,hz2⟩:=info_parts eF;have hle:=hs.le;have hbg:=hs.big;have HS:=aF hs;clear hs;go_enter Tryz.func66,Tryz.ntmps66
 go_wp2_with fail
 go_loopw [3,11] (fun v i wr=>∃(k:Nat) (xs:List Int),k<=ts.length/\i = .int .i64 k/\xs.length=k/\Hid (wr.ownsRow w.heap.size 3 1 v k (xs.map (Value.int .i64)))/\Hid (Below w.heap.size w wr)) (fun _ i _=>ts.length - (intOf i).toNat)
 case atStart=>exact ⟨0,[],by omega,rfl,rfl,aF (World.ownsRow_nil _ _ _ _),aF (aX _ _)⟩
 case round=>
  obtain ⟨k,xs,hk,rfl,hxl,HO,HB⟩:=hrel;obtain ⟨A',c',hv⟩:=mX HO.out;subst hv;have hsz:=HB.out.size;by_cases hlt:k<ts.length
  next=>
   obtain ⟨b1,o1,rfl,hb1,r1⟩:=HS.out.sl.at_ hlt;obtain ⟨r1,r2,r3,r4,A2,c2,r5,r6,r7,r8⟩:=RTy.keeps _ _ _ w.heap.size _ _ _ (aY _) hb1 HB.out r1;generalize ts[k]=x at *;have HF:Hid (Sl 1 RInt wr w.heap.size A2 x.flds):=aF r8;obtain ⟨B',d',hB',hsl,-⟩:=xG (R:=RInt) (fun w B b o x h=>h) HO.out hxl;simp only [Value.slice.injEq,true_and] at hB';obtain ⟨rfl,rfl⟩:=hB';have HX:=aF hsl;have hls:=cY hb1;clear r8 hsl
   have HFK:Hid (∀X,Below w.heap.size w X->∀b7 o7 j (f:Int),b7<w.heap.size->RInt wr w.heap.size b7 (o7+j * 1) f->X.cell? ⟨b7,o7+j,none⟩=some (.int .i64 f)):=aF (fun X hX b7 o7 j f hb7 h=>by
    rw [Nat.mul_one] at h;have h1:w.cell? ⟨b7,o7+j,none⟩=some (.int .i64 f):=(HB.out.cell (p:=⟨b7,o7+j,none⟩) hb7).symm.trans h
    exact cJ hX h1)
   obtain ⟨kd,mu,rg,el,fl⟩:=x;simp only at r1 r2 r3 r4 r5 r6 r7 HF;by_cases hg:kd=3/\0<=el/\el<k
   next=>
    obtain ⟨rfl,h0,h1⟩:=hg;obtain ⟨e,rfl⟩:=bG h0;obtain ⟨b8,o8,rfl,hb8,hxe⟩:=HX.out.sl.at_ (show e<xs.length by omega);have x1:wr.cell? ⟨b8,o8+e,none⟩=some (.int .i64 xs[e]):=(by simpa [RInt] using hxe);generalize xs[e]=y at x1;clear hxe;have hls8:=cY hb8;go_wp2_with fail
    clear r1 r2 r3 r4 r5;clear HX;all_goals try (exfalso;omega)
    all_goals
     have HO2:=aF (fun o=>HO.out.alloc o);have HB2:=aF (fun o=>HB.out.alloc hsz o);go_loopw [6,40] (fun n u wr2=>∃(j:Nat) (m:Int),j<=fl.length/\u = .int .i64 j/\n = .int .i64 m/\Hid (wr2.ownsRow w.heap.size 3 1 (.slice (some ⟨b8,o8,none⟩) k c') k (xs.map (Value.int .i64)))/\Hid (Below w.heap.size w wr2)) (fun _ u _=>fl.length - (intOf u).toNat)
     case atStart=>exact ⟨0,_,by omega,rfl,rfl,aF (HO2.out _),aF (HB2.out _)⟩
     case round=>
      clear HO2 HB2 HO HB;obtain ⟨j,m,hj,rfl,rfl,HO,HB⟩:=hrel;have hsz:=HB.out.size;by_cases hjl:j<fl.length
      ·obtain ⟨b7,o7,rfl,hb7,hxj⟩:=HF.out.at_ hjl;obtain ⟨f,hf⟩:∃f,fl[j]=f:=⟨_,rfl⟩;rw [hf] at hxj;have x0:wr.cell? ⟨b7,o7+j,none⟩=some (.int .i64 f):=HFK.out wr HB.out b7 o7 j f hb7 hxj;clear hxj hf;by_cases hg:0<=f/\f<k
       ·obtain ⟨e,rfl⟩:=bG hg.1;obtain ⟨B',d',hB',hsl,-⟩:=xG (R:=RInt) (fun w B b o x h=>h) HO.out hxl;simp only [Value.slice.injEq,true_and] at hB';obtain ⟨hB1,hd1⟩:=hB';subst hd1;subst hB1;obtain ⟨b8,o8,hB9,hb8,hxe⟩:=hsl.sl.at_ (show e<xs.length by omega);cases hB9
        have x1:wr.cell? ⟨b8,o8+e,none⟩=some (.int .i64 xs[e]):=(by simpa [RInt] using hxe);generalize xs[e]=y at x1;clear hxe hsl;go_wp2_with fail
        all_goals first
         | (exfalso;omega)
         | (go_ret;exact ⟨by first | exact ⟨_,rfl⟩ | exact .inl rfl | exact .inr rfl,HB.out⟩)
         | (go_roundw
            case rel=>exact ⟨j+1,_,by omega,by go_num,rfl,HO,HB⟩
            case measure=>simp [intOf];omega)
       ·go_wp2_with fail
        all_goals first
         | (exfalso;omega)
         | (go_ret;exact ⟨by first | exact ⟨_,rfl⟩ | exact .inl rfl | exact .inr rfl,HB.out⟩)
         | (go_roundw
            case rel=>exact ⟨j+1,_,by omega,by go_num,rfl,HO,HB⟩
            case measure=>simp [intOf];omega)
      ·have hown2:=HO.out.alloc (.cells #[.int .i64 m] 3);go_wp2_with (at_builtin;refine wpList_append_own _ rfl _ _ 58 rfl w.heap.size 3 i0 (.int .i64 0) 1 8 Tryz.underlying58 hi hz0 hz1 hz2 rfl (by decide) _ _ _ rfl hown2 ⟨wr.heap.size,0,none⟩ 1 1 [.int .i64 m] rfl rfl (fun j u hj=>by rw [add0];exact rD _ [.int .i64 m] _ j u hj) (fun u hu=>by simp at hu;subst hu;rfl) (by unfold maxLen;omega) (by omega) (by simp;omega) ?_)
       intro v' w2 hown' hgrow _;have HO2:Hid (w2.ownsRow w.heap.size 3 1 v' (k+1) ((xs ++ [m]).map (Value.int .i64))):=aF (by rw [bU];exact hown');have HB2:Hid (Below w.heap.size w w2):=aF ((HB.out.alloc hsz _).grown hgrow (by simp;omega) (fun g hg=>(hown2.lt g hg).1));clear hown' hgrow hown2;go_wp2_with fail
       go_roundw
       case rel=>exact ⟨k+1,xs ++ [m],by omega,by go_num,by simp [hxl],HO2,HB2⟩
       case measure=>simp [intOf];omega
   next=>
   go_wp2_with fail
   clear r1 r2 r3 r4 r5;clear HX;all_goals try (exfalso;omega)
   all_goals
    have HO2:=aF (fun o=>HO.out.alloc o);have HB2:=aF (fun o=>HB.out.alloc hsz o);go_loopw [6,40] (fun n u wr2=>∃(j:Nat) (m:Int),j<=fl.length/\u = .int .i64 j/\n = .int .i64 m/\Hid (wr2.ownsRow w.heap.size 3 1 (.slice A' k c') k (xs.map (Value.int .i64)))/\Hid (Below w.heap.size w wr2)) (fun _ u _=>fl.length - (intOf u).toNat)
    case atStart=>exact ⟨0,_,by omega,rfl,rfl,aF (HO2.out _),aF (HB2.out _)⟩
    case round=>
     clear HO2 HB2 HO HB;obtain ⟨j,m,hj,rfl,rfl,HO,HB⟩:=hrel;have hsz:=HB.out.size;by_cases hjl:j<fl.length
     ·obtain ⟨b7,o7,rfl,hb7,hxj⟩:=HF.out.at_ hjl;obtain ⟨f,hf⟩:∃f,fl[j]=f:=⟨_,rfl⟩;rw [hf] at hxj;have x0:wr.cell? ⟨b7,o7+j,none⟩=some (.int .i64 f):=HFK.out wr HB.out b7 o7 j f hb7 hxj;clear hxj hf;by_cases hg:0<=f/\f<k
      ·obtain ⟨e,rfl⟩:=bG hg.1;obtain ⟨B',d',hB',hsl,-⟩:=xG (R:=RInt) (fun w B b o x h=>h) HO.out hxl;simp only [Value.slice.injEq,true_and] at hB';obtain ⟨hB1,hd1⟩:=hB';subst hd1;subst hB1;obtain ⟨b8,o8,hB9,hb8,hxe⟩:=hsl.sl.at_ (show e<xs.length by omega);cases hB9
       have x1:wr.cell? ⟨b8,o8+e,none⟩=some (.int .i64 xs[e]):=(by simpa [RInt] using hxe);generalize xs[e]=y at x1;clear hxe hsl;go_wp2_with fail
       all_goals first
        | (exfalso;omega)
        | (go_ret;exact ⟨by first | exact ⟨_,rfl⟩ | exact .inl rfl | exact .inr rfl,HB.out⟩)
        | (go_roundw
           case rel=>exact ⟨j+1,_,by omega,by go_num,rfl,HO,HB⟩
           case measure=>simp [intOf];omega)
      ·go_wp2_with fail
       all_goals first
        | (exfalso;omega)
        | (go_ret;exact ⟨by first | exact ⟨_,rfl⟩ | exact .inl rfl | exact .inr rfl,HB.out⟩)
        | (go_roundw
           case rel=>exact ⟨j+1,_,by omega,by go_num,rfl,HO,HB⟩
           case measure=>simp [intOf];omega)
     ·have hown2:=HO.out.alloc (.cells #[.int .i64 m] 3);go_wp2_with (at_builtin;refine wpList_append_own _ rfl _ _ 58 rfl w.heap.size 3 i0 (.int .i64 0) 1 8 Tryz.underlying58 hi hz0 hz1 hz2 rfl (by decide) _ _ _ rfl hown2 ⟨wr.heap.size,0,none⟩ 1 1 [.int .i64 m] rfl rfl (fun j u hj=>by rw [add0];exact rD _ [.int .i64 m] _ j u hj) (fun u hu=>by simp at hu;subst hu;rfl) (by unfold maxLen;omega) (by omega) (by simp;omega) ?_)
      intro v' w2 hown' hgrow _;have HO2:Hid (w2.ownsRow w.heap.size 3 1 v' (k+1) ((xs ++ [m]).map (Value.int .i64))):=aF (by rw [bU];exact hown');have HB2:Hid (Below w.heap.size w w2):=aF ((HB.out.alloc hsz _).grown hgrow (by simp;omega) (fun g hg=>(hown2.lt g hg).1));clear hown' hgrow hown2;go_wp2_with fail
      go_roundw
      case rel=>exact ⟨k+1,xs ++ [m],by omega,by go_num,by simp [hxl],HO2,HB2⟩
      case measure=>simp [intOf];omega
  next=>
   clear HO;go_wp2_with fail
   go_ret;exact ⟨by first | exact ⟨_,rfl⟩ | exact .inl rfl | exact .inr rfl,HB.out⟩
end
end Go.Proofs.YtmknfbfppmkcfaaGreatDoor
