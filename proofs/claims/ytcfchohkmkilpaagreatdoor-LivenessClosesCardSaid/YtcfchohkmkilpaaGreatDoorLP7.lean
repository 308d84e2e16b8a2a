/-
  Parts of the proof: V18 Pair V31 V32 V32R V32T.
-/
import Derived.Test.YtcfchohkmkilpaaGreatDoorLP0
import Derived.Test.YtcfchohkmkilpaaGreatDoorLP5
import Derived.Test.YtcfchohkmkilpaaGreatDoorLP3
import Derived.Test.YtcfchohkmkilpaaGreatDoorLP6
import Derived.Deep.MidRow
namespace Go.Proofs.YtcfchohkmkilpaaGreatDoor
set_option maxRecDepth 100000
set_option maxHeartbeats 16000000
section
open Go Go.RowKit Go.Maps
theorem zP (l:List Int) (x:Int) (A:Option Addr) (c:Nat) (w:World) (hs:Slc 1 RInt w A c l):
 Calls Tryz.prog 57 #[.slice A l.length c,.int .i64 x] w fun e' w'=>e' = .returned (.bool (decide (x∈l)))/\w'=w:=by
 have hle:=hs.le;have hbig:=hs.big;obtain ⟨R,hR⟩:∃R,decide (x∈l)=R:=⟨_,rfl⟩;rw [hR];have HR:=aF hR;have HS:=aF hs;clear hR hs;go_enter Tryz.func57,Tryz.ntmps57
 go_wp2_with fail
 go_loop [5] (fun v=>∃k:Nat,k<=l.length/\v = .int .i64 k/\Hid (R=decide (x∈l.drop k))) (fun v=>l.length - (intOf v).toNat)
 case atStart=>exact ⟨0,by omega,rfl,aF HR.out.symm⟩
 case round=>
  obtain ⟨k,hk,rfl,hr⟩:=hrel;by_cases hlt:k<l.length
  ·have hd:=cV hlt;obtain ⟨b,o,rfl,hb,hx⟩:=HS.out.sl.at_ hlt;obtain ⟨y,hy⟩:∃y,l[k]=y:=⟨_,rfl⟩;rw [hy] at hd hx;have x0:w.cell? ⟨b,o+k,none⟩=some (.int .i64 y):=by simpa [RInt] using hx
   clear hx hy;by_cases h0:y=x
   ·have HN:Hid (R=true):=aF (by rw [hr.out,hd,h0];simp);have e1:(y == x)=true:=by simp [h0]
    clear hd hr h0;go_wp2_with fail
    all_goals first
     | (exfalso;omega)
     | (go_ret;exact ⟨by rw [HN.out];rfl,rfl⟩)
   ·have HN:Hid (R=decide (x∈l.drop (k+1))):=aF (by rw [hr.out,hd];simp [Ne.symm h0]);have e1:(y == x)=false:=by simp [h0]
    clear hd hr h0;go_wp2_with fail
    go_round
    case rel=>exact ⟨k+1,by omega,by go_num,HN⟩
    case measure=>simp [intOf];omega
  ·have HN:Hid (R=false):=aF (by rw [hr.out,bE (by omega)];simp);clear hr;go_wp2_with fail
   go_ret;exact ⟨by rw [HN.out];rfl,rfl⟩
def putR (x:Int) (s:List Int) (p:Int × Int):List Int:=if p.1=x/\p.2∉s then s ++ [p.2] else s
theorem xAG (pairs:List (Int × Int)) (x:Int) (s:List Int):nextR pairs x s=pairs.foldl (putR x) s:=rfl
theorem vX {pairs:List (Int × Int)} {n:Nat} (hr:∀p∈pairs,0<=p.1/\p.1<(n:Int)/\0<=p.2/\p.2<(n:Int)) {s:List Int} {x:Int} {p:Int × Int} (hp:p∈pairs) (hn:s.Nodup) (hs:∀y∈s,0<=y/\y<(n:Int)):
 (putR x s p).Nodup/\∀y∈putR x s p,0<=y/\y<(n:Int):=by
 unfold putR;by_cases h:p.1=x/\p.2∉s
 ·rw [bA h];constructor
  ·rw [List.nodup_append];refine ⟨hn,by simp,fun a ha b hb=>?_⟩;rw [bR] at hb;subst hb;exact fun e=>h.2 (e ▸ ha)
  ·intro y hy;rcases List.mem_append.1 hy with hy | hy
   ·exact hs y hy
   ·rw [bR] at hy;subst hy;exact ⟨(hr p hp).2.2.1,(hr p hp).2.2.2⟩
 ·rw [aZ h];exact ⟨hn,hs⟩
theorem zY (x:Int) (s:List Int) (p:Int × Int) (i:Nat) (y:Int) (h:s[i]?=some y):(putR x s p)[i]?=some y:=by
 unfold putR;split
 ·rw [List.getElem?_append_left (List.getElem?_eq_some_iff.1 h).1];exact h
 ·exact h
theorem iK (pairs:List (Int × Int)) (n:Nat) (a b:Int) (A:Option Addr) (c:Nat) (w:World) (hs:Slc 2 RPr w A c pairs) (hr:∀p∈pairs,0<=p.1/\p.1<(n:Int)/\0<=p.2/\p.2<(n:Int)) (hn:n<=65536):
 Calls Tryz.prog 28 #[.slice A pairs.length c,.int .i64 n,.int .i64 a,.int .i64 b] w fun e' w'=>e' = .returned (.bool (outB pairs n a b))/\Below w.heap.size w w':=by
 have hle:=hs.le;have hbig:=hs.big;have HS:=aF hs;clear hs;by_cases hab:0<=a/\a<(n:Int)/\0<=b/\b<(n:Int)
 case neg=>
  have HF:Hid (outB pairs n a b=false):=aF (by unfold outB;rw [bA (by omega)]);rw [HF.out];go_enter Tryz.func28,Tryz.ntmps28
  go_wp2_with fail
  all_goals first
   | (exfalso;omega)
   | (go_ret;exact ⟨rfl,aX _ _⟩)
 case pos=>
  obtain ⟨ha0,ha1,hb0,hb1⟩:=hab;have HQ:Hid (outB pairs n a b=outF pairs b (n+1) [a] 0):=aF (by unfold outB;rw [aZ (by omega)];rfl);generalize outB pairs n a b=q at HQ ⊢;obtain ⟨i0,hi,hz0,hz1,hz2⟩:=info_parts dU;have e1:¬a<0:=by omega
  have e2:¬(n:Int)<=a:=by omega
  have e3:¬b<0:=by omega
  have e4:¬(n:Int)<=b:=by omega
  go_enter Tryz.func28,Tryz.ntmps28
  go_wp2_with fail
  have HOWN0:Hid ((w.alloc (.cells #[.int .i64 a] 3)).ownsRow w.heap.size 3 1 (.slice (some ⟨w.heap.size,0,none⟩) 1 1) [a].length ([a].map (Value.int .i64))):=aF ⟨by simp,.inr ⟨w.heap.size,1,#[.int .i64 a],rfl,aY _,Array.getElem?_push_size,by simp,by unfold maxLen;omega,by simp,by simp⟩⟩;go_loopg [9,10] (n+1) (fun gk v iv wr=>∃(s:List Int) (i:Nat),gk+i=n+1/\iv = .int .i64 i/\Hid (s.Nodup)/\Hid (∀y∈s,0<=y/\y<(n:Int))/\Hid (wr.ownsRow w.heap.size 3 1 v s.length (s.map (Value.int .i64)))/\Hid (Below w.heap.size w wr)/\w.heap.size+1<=wr.heap.size/\Hid (q=outF pairs b gk s i))
  case atStart=>exact ⟨[a],0,by omega,rfl,aF (by simp),aF (by simp;omega),HOWN0,aF ((aX _ _).alloc (aY _) _),by simp,HQ⟩
  case round=>
   clear HOWN0 HQ;obtain ⟨s,i,hgk,rfl,HND,HRG,HOWN,HBL,hsz,HQ⟩:=hrel;have hlen:=dR n s HND.out HRG.out;obtain ⟨B,c2,rfl,hsl⟩:=dB HOWN.out;have hsle:=hsl.le;have hsbig:=hsl.big;by_cases hlt:i<s.length
   ·obtain ⟨g,o,rfl,hg,hx⟩:=hsl.sl.at_ hlt;obtain ⟨x,hxx⟩:∃x,s[i]=x:=⟨_,rfl⟩;have hsi:s[i]?=some x:=(by rw [bD hlt,hxx]);rw [hxx] at hx;have x0:wr.cell? ⟨g,o+i,none⟩=some (.int .i64 x):=(by simpa [RInt] using hx);obtain ⟨m,rfl⟩:∃m,gk=m+1:=⟨gk - 1,by omega⟩;clear hx hxx hsl;by_cases hxb:x=b
    ·have HF:Hid (q=true):=aF (by rw [HQ.out,outF,hsi];simp [hxb]);have e5:(x == b)=true:=by simp [hxb]
     clear HQ hsi hxb;go_wp2_with fail
     go_ret;exact ⟨by rw [HF.out];rfl,HBL.out⟩
    have e5:(x == b)=false:=by simp [hxb]
    have HQ2:Hid (q=outF pairs b m ((pairs.take pairs.length).foldl (putR x) s) (i+1)):=aF (by rw [HQ.out,outF,hsi,bZ];simp only;rw [aZ hxb,xAG]);have HSI:=aF hsi;clear HQ hsi hxb;go_wp2_with fail
    go_loopg [9,11] pairs.length (fun gj v jv wr2=>∃(s2:List Int) (j:Nat),gj=pairs.length - j/\j<=pairs.length/\jv = .int .i64 j/\Hid (s2=(pairs.take j).foldl (putR x) s)/\Hid (s2[i]?=some x)/\Hid (s2.Nodup)/\Hid (∀y∈s2,0<=y/\y<(n:Int))/\Hid (wr2.ownsRow w.heap.size 3 1 v s2.length (s2.map (Value.int .i64)))/\Hid (Below w.heap.size w wr2)/\w.heap.size+1<=wr2.heap.size)
    case atStart=>exact ⟨s,0,by omega,by omega,rfl,aF rfl,HSI,HND,HRG,HOWN,HBL,hsz⟩
    case round=>
     clear HSI HND HRG HOWN HBL x0 e5 hsz hlt hsle hsbig hg hlen;obtain ⟨s2,j,hgj,hj,rfl,HS2,HSI,HND,HRG,HOWN,HBL,hsz⟩:=hrel;have hlen:=dR n s2 HND.out HRG.out;obtain ⟨B2,c3,rfl,hsl⟩:=dB HOWN.out;have hsle:=hsl.le;have hsbig:=hsl.big;by_cases hlt:j<pairs.length
     ·have hil:i<s2.length:=(List.getElem?_eq_some_iff.1 HSI.out).1;have HIL:=aF hil;obtain ⟨g2,o2,rfl,hg2,hx⟩:=hsl.sl.at_ hil
      have hx2:RInt wr wr.heap.size g2 (o2+i * 1) x:=by
       have hxx:=HSI.out;rw [bD hil] at hxx;injection hxx with hxx
       exact hxx ▸ hx
      have x0:wr.cell? ⟨g2,o2+i,none⟩=some (.int .i64 x):=(by simpa [RInt] using hx2);obtain ⟨bp,op,rfl,hbp,hp⟩:=(HS.out.keep RPr.keeps HBL.out).sl.at_ hlt;have HTK:Hid ((pairs.take (j+1)).foldl (putR x) s=putR x s2 pairs[j]):=aF (by rw [bF hlt,List.foldl_append,<- HS2.out];rfl);have HPM:=aF (vX hr (x:=x) (bM hlt) HND.out HRG.out);have HPP:=aF (zY x s2 pairs[j] i x HSI.out);obtain ⟨p,hpp⟩:∃p,pairs[j]=p:=⟨_,rfl⟩;rw [hpp] at hp HTK HPM HPP;obtain ⟨p1,p2⟩:=p;obtain ⟨y0,y1⟩:=hp;simp only at y0 y1;have HSL:=aF (zP s2 p2 (some ⟨g2,o2,none⟩) c3 wr.drew (hsl.keep RInt.keeps ((aX _ _).drew)));clear hx hx2 hpp hsl hil;go_wp2_with fail
      have hS:wr.drew.cell? ⟨bp,op+j * 2,none⟩=some (.int .i64 p1)/\wr.drew.cell? ⟨bp,op+j * 2+1,none⟩=some (.int .i64 p2)/\wr.drew.cell? ⟨g2,o2+i,none⟩=some (.int .i64 x):=⟨y0,y1,x0⟩;have hil:=HIL.out;by_cases hpx:p1=x
      ·have e6:(p1 == x)=true:=by simp [hpx]
       refine cT (S:=fun X=>X.cell? ⟨bp,op+j * 2,none⟩=some (.int .i64 p1)/\X.cell? ⟨bp,op+j * 2+1,none⟩=some (.int .i64 p2)/\X.cell? ⟨g2,o2+i,none⟩=some (.int .i64 x)) [0,1,2,3,4,5,6,7,8,9,10,11,12,13,14,15,16,17,18,19] (by kernel_rfl) ?_;(iterate 9 (refine cR (v:=?_) ?_ hS ?_;rotate_left;(next=>(rintro X ⟨s0,s1,s2'⟩;(try simp only [aI]);go_simp;rfl));simp only [aM]));try rw [e6]
       (iterate 2 (refine cR (v:=?_) ?_ hS ?_;rotate_left;(next=>(rintro X ⟨s0,s1,s2'⟩;(try simp only [aI]);go_simp;rfl));simp only [aM]));(iterate 6 (refine cR (v:=?_) ?_ hS ?_;rotate_left;(next=>(rintro X ⟨s0,s1,s2'⟩;(try simp only [aI]);go_simp;rfl));simp only [aM]));(refine cY (fun K1 hK1=>?_);simp only [aM];rw [bA (by rfl)];go_simp);refine HSL.out.mono ?_;rintro e' w3 ⟨rfl,hw⟩;obtain rfl:=hw.symm;refine hK1.out _ _ (fun _=>hS) ?_;(iterate 2 (refine cR (v:=?_) ?_ hS ?_;rotate_left;(next=>(rintro X ⟨s0,s1,s2'⟩;(try simp only [aI]);go_simp;rfl));simp only [aM]));refine cZ ?_;by_cases hm:p2∈s2
       ·have hmd:decide (p2∈s2)=true:=(by simp [hm]);have HP:Hid (putR x s2 (p1,p2)=s2):=aF (by unfold putR;rw [aZ (fun h=>h.2 hm)]);rw [hmd];clear hmd hm;go_wp2_with fail
        go_roundg (pairs.length - (j+1))
        case measure=>omega
        case rel=>exact ⟨s2,j+1,rfl,by omega,by go_num,aF (by rw [HTK.out,HP.out]),HSI,HND,HRG,aF (HOWN.out.drew),aF (HBL.out.drew),hsz⟩
       ·have hmd:decide (p2∈s2)=false:=(by simp [hm]);have HP:Hid (putR x s2 (p1,p2)=s2 ++ [p2]):=aF (by unfold putR;rw [bA ⟨hpx,hm⟩]);have hln:=dR n _ HPM.out.1 HPM.out.2;rw [HP.out,bB,cG] at hln;rw [hmd];clear hmd hm;go_wp2_with (at_builtin;refine wpList_append_own _ rfl _ _ 34 rfl w.heap.size 3 i0 (.int .i64 0) 1 8 Tryz.underlying34 hi hz0 hz1 hz2 rfl (by decide) _ _ _ rfl (HOWN.out.drew.alloc _) ⟨_,0,none⟩ 1 1 [.int .i64 p2] rfl rfl (dZ _ _ _ _ (by first | rfl | simp)) (ints_oneCell .i64 [p2]) (by unfold maxLen;omega) (by omega) (by simp;omega) ?_;intro v4 w4 hown4 hg4 _)
        have hs4:=hg4.size;go_roundg (pairs.length - (j+1))
        case measure=>omega
        case rel=>exact ⟨s2 ++ [p2],j+1,rfl,by omega,by go_num,aF (by rw [HTK.out,HP.out]),aF (HP.out ▸ HPP.out),aF (HP.out ▸ HPM.out.1),aF (HP.out ▸ HPM.out.2),aF (by rw [bB,cG,bS];exact hown4),aF ((HBL.out.drew.alloc (by simp;omega) _).grown hg4 (by simp;omega) (fun k hk=>(HOWN.out.lt k hk).1)),by simp at hs4;omega⟩
      ·have e6:(p1 == x)=false:=by simp [hpx]
       have HP:Hid (putR x s2 (p1,p2)=s2):=aF (by unfold putR;rw [aZ (fun h=>hpx h.1)]);refine cT (S:=fun X=>X.cell? ⟨bp,op+j * 2,none⟩=some (.int .i64 p1)/\X.cell? ⟨bp,op+j * 2+1,none⟩=some (.int .i64 p2)/\X.cell? ⟨g2,o2+i,none⟩=some (.int .i64 x)) [0,1,2,3,4,5,6,7,8,9,10,11,12,13,14,15,16,17,18,19] (by kernel_rfl) ?_;(iterate 9 (refine cR (v:=?_) ?_ hS ?_;rotate_left;(next=>(rintro X ⟨s0,s1,s2'⟩;(try simp only [aI]);go_simp;rfl));simp only [aM]));try rw [e6]
       (iterate 2 (refine cR (v:=?_) ?_ hS ?_;rotate_left;(next=>(rintro X ⟨s0,s1,s2'⟩;(try simp only [aI]);go_simp;rfl));simp only [aM]));(iterate 8 (refine dA (v:=undef) (by kernel_rfl) (fun _ _ _ h=>h) (Or.inr ⟨by rfl,rfl⟩) hS ?_;simp only [aM]));((refine cR (v:=?_) ?_ hS ?_;rotate_left;(next=>(rintro X ⟨s0,s1,s2'⟩;(try simp only [aI]);go_simp;rfl));simp only [aM]))
       refine cZ ?_;go_wp2_with fail
       go_roundg (pairs.length - (j+1))
       case measure=>omega
       case rel=>exact ⟨s2,j+1,rfl,by omega,by go_num,aF (by rw [HTK.out,HP.out]),HSI,HND,HRG,aF (HOWN.out.drew),aF (HBL.out.drew),hsz⟩
     ·have HF:Hid (q=outF pairs b m s2 (i+1)):=aF (by rw [HQ2.out,HS2.out,show j=pairs.length by omega]);clear HS2 HSI;go_wp2_with fail
      go_roundg m
      case measure=>omega
      case rel=>exact ⟨s2,i+1,by omega,by go_num,HND,HRG,HOWN,HBL,hsz,HF⟩
   ·have HF:Hid (q=false):=aF (by
     rw [HQ.out];cases gk with
     | zero=>rfl
     | succ m=>rw [outF,cE (by omega)])
    clear HQ;go_wp2_with fail
    go_ret;exact ⟨by rw [HF.out];rfl,HBL.out⟩
end
section
open Go Go.RowKit
section
variable {P:Program} {ops:Array Oper} {Q:Exit->Act->World->Prop} {S:World->Prop}
def pairO (ops:Array Oper) (ord ord':List Nat) (k:Nat):Bool:=
 decide (k+1<ops.size) && decide (ord.getD k 0<ops.size) && decide (ord.getD (k+1) 0<ops.size) && decide (ord'.getD k 0=ord.getD (k+1) 0) && decide (ord'.getD (k+1) 0=ord.getD k 0) &&
  decide (Region.ready .any ops (lstO ops.size ord k)=[ord.getD k 0,ord.getD (k+1) 0]) && decide (Region.ready .any ops (lstO ops.size ord (k+1))=[ord.getD (k+1) 0]) && decide (Region.ready .any ops (lstO ops.size ord' (k+1))=[ord.getD k 0]) &&
  decide ((lstO ops.size ord k).setIfInBounds (ord.getD k 0) true=lstO ops.size ord (k+1)) && decide ((lstO ops.size ord k).setIfInBounds (ord.getD (k+1) 0) true=lstO ops.size ord' (k+1)) &&
  decide ((lstO ops.size ord (k+1)).setIfInBounds (ord.getD (k+1) 0) true=lstO ops.size ord (k+2)) && decide ((lstO ops.size ord' (k+1)).setIfInBounds (ord.getD k 0) true=lstO ops.size ord (k+2))
theorem iU {t:Nat} {ord:List Nat} {k:Nat} {a:Act} {w:World} (ord':List Nat) (z:Obj) (hok:pairO ops ord ord' k=true)
 (hi:∀(a:Act) (w:World) (K:Act->World->Prop),K (a.put ((ops[ord.getD k 0]?).getD default).dst (.pointer (some ⟨w.heap.size,0,none⟩))) (w.alloc z)->if Region.wanted ((ops[ord.getD k 0]?).getD default) (yielded ops a.tmps)=true then Oper.wp P ((ops[ord.getD k 0]?).getD default) a w K Q else K (a.put ((ops[ord.getD k 0]?).getD default).dst undef) w)
 (hj:∀(a:Act) (w:World) (K:Act->World->Prop),K (a.put ((ops[ord.getD (k+1) 0]?).getD default).dst (.pointer (some ⟨w.heap.size,0,none⟩))) (w.alloc z)->if Region.wanted ((ops[ord.getD (k+1) 0]?).getD default) (yielded ops a.tmps)=true then Oper.wp P ((ops[ord.getD (k+1) 0]?).getD default) a w K Q else K (a.put ((ops[ord.getD (k+1) 0]?).getD default).dst undef) w)
 (hcomm:∀x y,(a.put ((ops[ord.getD (k+1) 0]?).getD default).dst x).put ((ops[ord.getD k 0]?).getD default).dst y=(a.put ((ops[ord.getD k 0]?).getD default).dst y).put ((ops[ord.getD (k+1) 0]?).getD default).dst x)
 (hS1:S (w.alloc z)) (hS2:S ((w.alloc z).alloc z))
 (h:∀ga gb:Nat,(ga=w.heap.size/\gb=w.heap.size+1)\/(ga=w.heap.size+1/\gb=w.heap.size)->wpO P ops Q S t ord (k+2) ((a.put ((ops[ord.getD k 0]?).getD default).dst (.pointer (some ⟨ga,0,none⟩))).put ((ops[ord.getD (k+1) 0]?).getD default).dst (.pointer (some ⟨gb,0,none⟩))) ((w.alloc z).alloc z)):
 wpO P ops Q S t ord k a w:=by
 simp only [pairO,bP,decide_eq_true_eq] at hok;obtain ⟨⟨⟨⟨⟨⟨⟨⟨⟨⟨⟨h0,h1⟩,h2⟩,-⟩,-⟩,r0⟩,r1⟩,r2⟩,l1⟩,l2⟩,l3⟩,l4⟩:=hok;have hoi:ops[ord.getD k 0]?=some ((ops[ord.getD k 0]?).getD default):=by rw [Array.getElem?_eq_getElem h1];rfl
 have hoj:ops[ord.getD (k+1) 0]?=some ((ops[ord.getD (k+1) 0]?).getD default):=by rw [Array.getElem?_eq_getElem h2];rfl
 unfold wpO at h ⊢;rw [show ops.size - k=(ops.size - (k+2))+1+1 by omega];refine ⟨fun h=>(by rw [r0] at h;cases h),fun i hmem=>?_⟩;rw [r0,cL,bR] at hmem;rcases hmem with rfl | rfl
 ·refine wpOp_step hoi (fun K' hK=>hi _ _ K' (hK _ _ ⟨fun _=>hS1,?_⟩));rw [l1];refine eB r1 hoj (fun K2 hK2=>hj _ _ K2 (hK2 _ _ (fun _=>hS2) ?_));rw [l3];have:=h w.heap.size (w.heap.size+1) (Or.inl ⟨rfl,rfl⟩);rwa [bI]
 ·refine wpOp_step hoj (fun K' hK=>hj _ _ K' (hK _ _ ⟨fun _=>hS1,?_⟩));rw [l2];refine eB r2 hoi (fun K2 hK2=>hi _ _ K2 (hK2 _ _ (fun _=>hS2) ?_));rw [l4,hcomm];have:=h (w.heap.size+1) w.heap.size (Or.inr ⟨rfl,rfl⟩);rwa [bI]
end
theorem dP {B b:Nat} {w0:World} (hb:B<=b):∀(vs:List Value) (o:Nat) (w:World),Below B w0 w->Below B w0 (w.setCells b o vs)
 | [],_,_,h=>h
 | _ :: vs,o,_,h=>dP hb vs (o+1) _ (h.setCell (by simp;omega) _)
theorem dO (w:World) (cs:Array Value) (t:TypeId) (k n:Nat) (hk:k=w.heap.size) (hn:n<=cs.size):(w.alloc (.cells cs t)).there k 0 n:=fun j hj=>by
 subst hk;constructor
 ·rw [World.cell?_alloc_at _ _ _ _ (by simp)];simp;omega
 ·have:(w.alloc (.cells cs t)).heap[w.heap.size]?=some (.cells cs t):=Array.getElem?_push_size;unfold World.frozen?;simp only [this];simp
end
section
open Go Go.RowKit Go.Maps Go.WideMaps
theorem arrP:ArrKey Tryz.prog 43 3 2:=⟨Tryz.underlying43,by kernel_rfl,by kernel_rfl,by kernel_rfl⟩
theorem progN:∃m,Tryz.prog.types.size=m+1:=⟨Tryz.prog.types.size - 1,by kernel_rfl⟩
structure SubE where
 w0:World
 A:Option Addr
 c:Nat
 pk:Nat
 pl:Nat
 pr:Nat
 pf:Nat
 M:Nat
 r:Nat
def SubE.F (E:SubE):Value:= .func (.func 208) #[] #[.pointer (some ⟨E.pk,0,none⟩),.pointer (some ⟨E.pl,0,none⟩),.pointer (some ⟨E.pr,0,none⟩),.pointer (some ⟨E.pf,0,none⟩)]
structure SubE.Ok (E:SubE) (b:Bdy):Prop where
 ty:Slc 5 RTy E.w0 E.A E.c b.types
 ok:DeclOk b
 rel:Rel3 E.w0 E.r b.regions.length (relL b.outl)
 M:E.w0.heap.size<=E.M
 k:E.M≠E.pk
 l:E.M≠E.pl
 r:E.M≠E.pr
 f:E.M≠E.pf
structure SubE.St (E:SubE) (b:Bdy) (W:World) (ks:List (Int × Int)):Prop where
 low:Below E.w0.heap.size E.w0 W
 k:W.cell? ⟨E.pk,0,none⟩=some (.map (some E.M))
 l:W.cell? ⟨E.pl,0,none⟩=some (.slice E.A b.types.length E.c)
 r:W.cell? ⟨E.pr,0,none⟩=some (.pointer (some ⟨E.r,0,none⟩))
 f:W.cell? ⟨E.pf,0,none⟩=some E.F
 memo:Memo Tryz.prog 43 W E.M (subB b) ks
 nd:ks.Nodup
 rng:∀p∈ks,0<=p.1/\p.1<(b.types.length:Int)/\0<=p.2/\p.2<(b.types.length:Int)
theorem SubE.St.len {E:SubE} {b:Bdy} {W:World} {ks:List (Int × Int)} (h:E.St b W ks):ks.length<=b.types.length * b.types.length:=nP _ dR ks h.nd h.rng
theorem SubE.St.lt {E:SubE} {b:Bdy} {W:World} {ks:List (Int × Int)} (h:E.St b W ks) (hE:E.Ok b):ks.length<maxLen:=by
 have h1:=h.len;have h2:=hE.ok.ntyp;have h3:b.types.length * b.types.length<=65535 * 65535:=Nat.mul_le_mul h2 h2;unfold maxLen;omega
theorem SubE.St.keep {E:SubE} {b:Bdy} {W W':World} {ks:List (Int × Int)} (h:E.St b W ks) (hb:Below W.heap.size W W'):E.St b W' ks:=
 ⟨h.low.trans (hb.mono h.low.size),cO hb h.k,cO hb h.l,cO hb h.r,cO hb h.f,h.memo.below hb,h.nd,h.rng⟩
theorem SubE.St.put {E:SubE} {b:Bdy} {W W':World} {ks:List (Int × Int)} (h:E.St b W ks) (hE:E.Ok b) {s t:Int} (hi:(s,t)∉ks) (hr:0<=s/\s<(b.types.length:Int)/\0<=t/\t<(b.types.length:Int))
 (hm:Memo Tryz.prog 43 W' E.M (subB b) ((s,t) :: ks)) (hg:W.grownBy W' (some E.M)):E.St b W' ((s,t) :: ks):=by
 have hc:∀(p:Nat) (v:Value),E.M≠p->W.cell? ⟨p,0,none⟩=some v->W'.cell? ⟨p,0,none⟩=some v:=fun p v hne hv=>dW hg hv (by simpa using (Ne.symm hne))
 refine ⟨h.low.trans (eH hg hE.M h.low.size),hc _ _ hE.k h.k,hc _ _ hE.l h.l,hc _ _ hE.r h.r,hc _ _ hE.f h.f,hm,List.nodup_cons.2 ⟨hi,h.nd⟩,fun x hx=>?_⟩;rcases List.mem_cons.1 hx with rfl | hx
 ·exact hr
 ·exact h.rng x hx
def SubE.Q (E:SubE) (b:Bdy) (W:World) (ks:List (Int × Int)) (s t:Int) (W':World):Prop:=
 ∃ks',E.St b W' ks'/\(∀p∈ks',p∈ks\/p.1+p.2<=s+t)/\W.grownBy W' (some E.M)
def SubE.Ph (E:SubE) (b:Bdy) (W:World) (ks:List (Int × Int)) (n:Int) (W':World):Prop:=
 ∃ks',E.St b W' ks'/\(∀p∈ks',p∈ks\/p.1+p.2<n)/\W.grownBy W' (some E.M)
theorem SubE.Ph.start {E:SubE} {b:Bdy} {W W1:World} {ks:List (Int × Int)} (h:E.St b W ks) (hb:Below W.heap.size W W1) (n:Int):E.Ph b W1 ks n W1:=
 ⟨ks,h.keep hb,fun _p hp=>Or.inl hp,eR (aX _ _) _⟩
theorem SubE.Ph.keep {E:SubE} {b:Bdy} {W W1 W2:World} {ks:List (Int × Int)} {n:Int} (h:E.Ph b W ks n W1) (hb:Below W1.heap.size W1 W2):E.Ph b W ks n W2:=by
 obtain ⟨k1,h1,h2,h3⟩:=h;exact ⟨k1,h1.keep hb,h2,h3.trans (eR hb _)⟩
theorem SubE.Ph.call {E:SubE} {b:Bdy} {W W1 W2:World} {ks ks1:List (Int × Int)} {n s t:Int} (_h1:E.St b W1 ks1) (h2:∀p∈ks1,p∈ks\/p.1+p.2<n) (h3:W.grownBy W1 (some E.M)) (hq:E.Q b W1 ks1 s t W2) (hlt:s+t<n):E.Ph b W ks n W2:=by
 obtain ⟨k2,q1,q2,q3⟩:=hq;refine ⟨k2,q1,fun p hp=>?_,h3.trans q3⟩;rcases q2 p hp with h | h
 ·exact h2 p h
 ·exact Or.inr (by omega)
theorem SubE.fin {E:SubE} {b:Bdy} {W W1 wz w9:World} {ks kz:List (Int × Int)} {s t:Int} (hE:E.Ok b) (hM:(s,t)∉ks) (hr:0<=s/\s<(b.types.length:Int)/\0<=t/\t<(b.types.length:Int)) (hB1:Below W.heap.size W W1)
 (hstz:E.St b wz kz) (hnz:∀p∈kz,p∈ks\/p.1+p.2<s+t) (hgz:W1.grownBy wz (some E.M)) (hm9:Memo Tryz.prog 43 w9 E.M (subB b) ((s,t) :: kz)) (hg9:wz.grownBy w9 (some E.M)):E.Q b W ks s t w9:=by
 refine ⟨(s,t) :: kz,hstz.put hE (fun h=>?_) hr hm9 hg9,fun p hp=>?_,((eR hB1 _).trans hgz).trans hg9⟩
 ·rcases hnz _ h with h | h
  ·exact hM h
  ·exact absurd h (by simp)
 ·rcases List.mem_cons.1 hp with rfl | hp
  ·exact Or.inr (Int.le_refl _)
  ·rcases hnz p hp with h | h
   ·exact Or.inl h
   ·exact Or.inr (by omega)
def SubE.Rec (E:SubE) (b:Bdy) (m:Nat):Prop:=∀s t:Nat,s+t<m->s<b.types.length->t<b.types.length->∀W ks,E.St b W ks->
 Calls Tryz.prog 208 #[.int .i64 s,.int .i64 t,.pointer (some ⟨E.pk,0,none⟩),.pointer (some ⟨E.pl,0,none⟩),.pointer (some ⟨E.pr,0,none⟩),.pointer (some ⟨E.pf,0,none⟩)] W fun e' W'=>e' = .returned (.bool (subB b s t))/\E.Q b W ks s t W'
def ty0:Obj:= .cells #[.int .i64 0,.bool false,.int .i64 0,.int .i64 0,.slice none 0 0] 65
def tyL (t:Ty) (A:Option Addr) (c:Nat):List Value:=[.int .i64 t.kind,.bool t.mu,.int .i64 t.reg,.int .i64 t.elem,.slice A t.flds.length c]
theorem mG (W:World) (ga gb:Nat) (a b:Ty) (A B:Option Addr) (c d:Nat) (h:(ga=W.heap.size/\gb=W.heap.size+1)\/(ga=W.heap.size+1/\gb=W.heap.size)):
 Below W.heap.size W ((((W.alloc ty0).alloc ty0).setCells ga 0 (tyL a A c)).setCells gb 0 (tyL b B d))/\(∀i v,(tyL a A c)[i]?=some v->((((W.alloc ty0).alloc ty0).setCells ga 0 (tyL a A c)).setCells gb 0 (tyL b B d)).cell? ⟨ga,i,none⟩=some v)/\(∀i v,(tyL b B d)[i]?=some v->((((W.alloc ty0).alloc ty0).setCells ga 0 (tyL a A c)).setCells gb 0 (tyL b B d)).cell? ⟨gb,i,none⟩=some v):=by
 have t0:(W.alloc ty0).there W.heap.size 0 5:=dO W _ _ _ 5 rfl (by simp);have t1:((W.alloc ty0).alloc ty0).there W.heap.size 0 5:=World.there_alloc t0 _;have t2:((W.alloc ty0).alloc ty0).there (W.heap.size+1) 0 5:=dO _ _ _ _ 5 (by simp) (by simp);have ta:((W.alloc ty0).alloc ty0).there ga 0 (tyL a A c).length:=by rcases h with ⟨h,-⟩ | ⟨h,-⟩ <;> rw [h] <;> assumption
 have tb:((W.alloc ty0).alloc ty0).there gb 0 (tyL b B d).length:=by rcases h with ⟨-,h⟩ | ⟨-,h⟩ <;> rw [h] <;> assumption
 refine ⟨dP (by omega) _ _ _ (dP (by omega) _ _ _ aH),fun i v hi=>?_,fun i v hi=>?_⟩
 ·have:=World.rangeAt_setCells_apart (World.rangeAt_setCells_same _ _ _ _ ta) gb 0 (tyL b B d) (Or.inl (by omega)) i v hi;simpa using this
 ·have:=World.rangeAt_setCells_same _ _ _ _ (World.there_setCells tb ga 0 (tyL a A c)) i v hi;simpa using this
theorem xCL (E:SubE) (b:Bdy) (HE:E.Ok b) (m:Nat) (HREC0:E.Rec b m) (s t:Nat) (hm:s+t<m+1) (hs:s<b.types.length) (ht:t<b.types.length) (W:World) (ks:List (Int × Int)) (h:E.St b W ks) (hmem:((s:Int),(t:Int))∉ks) (hcase:((b.types[s].kind == b.types[t].kind) && (b.types[s].mu == b.types[t].mu) && ((b.types[s].flds.length:Int) == (b.types[t].flds.length:Int)) && (b.types[s].kind == 3))=true):
 Calls Tryz.prog 208 #[.int .i64 s,.int .i64 t,.pointer (some ⟨E.pk,0,none⟩),.pointer (some ⟨E.pl,0,none⟩),.pointer (some ⟨E.pr,0,none⟩),.pointer (some ⟨E.pf,0,none⟩)] W fun e' W'=>e' = .returned (.bool (subB b s t))/\E.Q b W ks s t W':=by
 have HREC:=aF HREC0;have HSB:=aF (iX HE.ok.tyok hs ht);have HOKS:=aF (HE.ok.tyok s hs);have HOKT:=aF (HE.ok.tyok t ht);have hn:=HE.ok.ntyp;have hlen:=h.lt HE;have wfs:(Lit.int .i64 (s:Int)).wf=true:=WalkArith.wf_i64 (by omega);have wft:(Lit.int .i64 (t:Int)).wf=true:=WalkArith.wf_i64 (by omega);have x1:=h.k;have x2:=h.l;have x3:=h.r;have x4:=h.f;have hmemo:=h.memo;have HST:=aF h;have HEE:=aF HE;have hle:=HE.ty.le;have hbig:=HE.ty.big;have HMD:Hid (decide (((s:Int),(t:Int))∈ks)=false):=aF (by simp [hmem]);have HM:=aF hmem;obtain ⟨bb,oo,hA,hbb,hxs⟩:=HE.ty.sl.at_ hs;obtain ⟨b2,o2,hA2,hbb2,hxt⟩:=HE.ty.sl.at_ ht;have hAA:some (⟨bb,oo,none⟩:Addr)=some ⟨b2,o2,none⟩:=hA.symm.trans hA2;simp only [cI,Addr.mk.injEq,and_true] at hAA;obtain ⟨rfl,rfl⟩:=hAA;clear hA2 hbb2;obtain ⟨ta,hta⟩:∃x,b.types[s]=x:=⟨_,rfl⟩;obtain ⟨tb,htb⟩:∃x,b.types[t]=x:=⟨_,rfl⟩;rw [hta] at hxs HSB HOKS hcase;rw [htb] at hxt HSB HOKT hcase;obtain ⟨r0,r1,r2,r3,A2,c2,r4,r6,r7,r8⟩:=hxs;obtain ⟨q0,q1,q2,q3,B2,d2,q4,q6,q7,q8⟩:=hxt;have HFA:Hid (Slc 1 RInt E.w0 A2 c2 ta.flds):=aF ⟨r8,r6,r7⟩;have HFB:Hid (Slc 1 RInt E.w0 B2 d2 tb.flds):=aF ⟨q8,q6,q7⟩;have hb0:=h.low;replace r0:=cO hb0 r0;replace r1:=cO hb0 r1;replace r2:=cO hb0 r2;replace r3:=cO hb0 r3;replace r4:=cO hb0 r4;replace q0:=cO hb0 q0;replace q1:=cO hb0 q1;replace q2:=cO hb0 q2;replace q3:=cO hb0 q3;replace q4:=cO hb0 q4;rw [hA] at x2;clear r8 q8 hta htb hb0 h HE hmem;go_enter Tryz.func208,Tryz.ntmps208;go_wp2_with (at_lookup;refine fI _ rfl _ _ 93 rfl 43 3 4 arrP Tryz.underlying3 progN Tryz.underlying93 (gC _) _ _ _ rfl hmemo _ _ rfl wfs wft ?_;rw [aZ HM.out,HMD.out])
 have hS:Below W.heap.size W W.drew:=(aX _ _).drew;refine cT (S:=fun X=>Below W.heap.size W X) [0,1,2,3,4,5,6,7,8,9,10,11] (by kernel_rfl) ?_;(iterate 8 (refine cR (v:=?_) ?_ hS ?_;rotate_left;(next=>(rintro X hX;have s0:=cO hX x2;have u0:=cO hX r0;have u1:=cO hX r1;have u2:=cO hX r2;have u3:=cO hX r3;have u4:=cO hX r4;have v0:=cO hX q0;have v1:=cO hX q1;have v2:=cO hX q2;have v3:=cO hX q3;have v4:=cO hX q4;(try simp only [aI]);go_simp;rfl));simp only [aM]));have hS1:Below W.heap.size W (W.drew.alloc ty0):=aH;have hS2:Below W.heap.size W ((W.drew.alloc ty0).alloc ty0):=aH;refine iU [0,1,2,3,4,5,6,7,9,8,10,11] ty0 (by kernel_rfl) ?_ ?_ ?_ hS1 hS2 ?_
 ·intro a1 w1 K hK;(simp only [aM]);rw [bA (by rfl)];go_simp;exact hK
 ·intro a1 w1 K hK;(simp only [aM]);rw [bA (by rfl)];go_simp;exact hK
 ·exact fun _ _=>rfl
 intro ga gb hg;obtain ⟨hB1,ya,yb⟩:=mG W.drew ga gb ta tb A2 B2 c2 d2 hg;have hS3:Below W.heap.size W (((W.drew.alloc ty0).alloc ty0).setCells ga 0 (tyL ta A2 c2)):=dP (by rcases hg with h | h <;> (rw [h.1];simp)) _ _ _ hS2
 have tha:((W.drew.alloc ty0).alloc ty0).there ga 0 (tyL ta A2 c2).toArray.size:=by
  rcases hg with ⟨h,-⟩ | ⟨h,-⟩ <;> rw [h]
  ·exact World.there_alloc (dO _ _ _ _ 5 rfl (by simp)) _
  ·exact dO _ _ _ _ 5 (by simp) (by simp)
 have thb:((W.drew.alloc ty0).alloc ty0).there gb 0 (tyL tb B2 d2).toArray.size:=by
  rcases hg with ⟨-,h⟩ | ⟨-,h⟩ <;> rw [h]
  ·exact dO _ _ _ _ 5 (by simp) (by simp)
  ·exact World.there_alloc (dO _ _ _ _ 5 rfl (by simp)) _
 have hS4:Below W.heap.size W ((((W.drew.alloc ty0).alloc ty0).setCells ga 0 (tyL ta A2 c2)).setCells gb 0 (tyL tb B2 d2)):=hS.trans (hB1.mono (aY _));have hne:ga≠gb/\W.heap.size<=ga/\W.heap.size<=gb:=by rcases hg with ⟨rfl,rfl⟩ | ⟨rfl,rfl⟩ <;> simp
 have hML:=HST.out.memo.lt;have hM:E.M≠ga/\E.M≠gb:=by omega
 clear hg;have thc:=World.there_setCells thb ga 0 (tyL ta A2 c2);generalize (W.drew.alloc ty0).alloc ty0=W8 at *;have E9:∃W9,W8.setCells ga 0 (tyL ta A2 c2)=W9:=⟨_,rfl⟩;obtain ⟨W9,e9⟩:=E9;obtain ⟨W1,e1⟩:∃W1,W9.setCells gb 0 (tyL tb B2 d2)=W1:=⟨_,rfl⟩;rw [e9] at hB1 ya yb hS3 hS4 thc;rw [e1] at hB1 ya yb hS4;(refine cY (fun K1 hK1=>?_);simp only [aM];rw [bA (by rfl)]);refine wp_store_mid 65 (.tmp 11) (.tmp 27) rfl ga 0 (tyL ta A2 c2).toArray rfl rfl tha (by kernel_rfl) (by simp [tyL,Value.oneCell']) ?_;rw [List.toList_toArray,e9];refine hK1.out _ _ (fun _=>hS3) ?_;clear hK1;(refine cY (fun K1 hK1=>?_);simp only [aM];rw [bA (by rfl)]);refine wp_store_mid 65 (.tmp 12) (.tmp 31) rfl gb 0 (tyL tb B2 d2).toArray rfl rfl thc (by kernel_rfl) (by simp [tyL,Value.oneCell']) ?_;rw [List.toList_toArray,e1];refine hK1.out _ _ (fun _=>hS4) ?_;clear hK1;refine cZ ?_;(simp only [aM]);obtain ⟨ya0,ya1,ya2,ya3,ya4⟩:=aQ ya;obtain ⟨yb0,yb1,yb2,yb3,yb4⟩:=aQ yb;have hst1:=HST.out.keep hS4;have HPH:=aF (SubE.Ph.start HST.out hS4 ((s:Int)+t));have HB1:=aF hS4;have HM1:=aF hM
 have HC:Hid (∀X,E.Ph b W1 ks ((s:Int)+t) X->(aA (tyL ta A2 c2) X ga)/\(aA (tyL tb B2 d2) X gb)/\X.cell? ⟨E.pf,0,none⟩=some E.F/\X.cell? ⟨E.pr,0,none⟩=some (.pointer (some ⟨E.r,0,none⟩))/\X.cell? ⟨E.pk,0,none⟩=some (.map (some E.M))/\Below E.w0.heap.size E.w0 X):=aF (fun X ⟨kx,h1,h2,h3⟩=>
  ⟨fun i v hi=>dW h3 (ya i v hi) (by simpa using Ne.symm HM1.out.1),fun i v hi=>dW h3 (yb i v hi) (by simpa using Ne.symm HM1.out.2),h1.f,h1.r,h1.k,h1.low⟩)
 have hbp:=HST.out.memo.lt;clear hS hS1 hS2 hS3 hS4 hB1 ya yb tha thb thc e9 e1 x1 x2 x3 x4 hmemo r0 r1 r2 r3 r4 q0 q1 q2 q3 q4 hM hML
 have HCALL:Hid (∀x y:Int,0<=x->0<=y->x+y<(s:Int)+t->x<(b.types.length:Int)->y<(b.types.length:Int)->∀X,E.Ph b W1 ks ((s:Int)+t) X->
  Calls Tryz.prog 208 #[.int .i64 x,.int .i64 y,.pointer (some ⟨E.pk,0,none⟩),.pointer (some ⟨E.pl,0,none⟩),.pointer (some ⟨E.pr,0,none⟩),.pointer (some ⟨E.pf,0,none⟩)] X fun e' X'=>e' = .returned (.bool (subB b x y))/\E.Ph b W1 ks ((s:Int)+t) X'):=aF (fun x y hx hy hxy hxl hyl X ⟨kx,h1,h2,h3⟩=>by
  obtain ⟨x,rfl⟩:=bG hx;obtain ⟨y,rfl⟩:=bG hy;refine (HREC.out x y (by omega) (by omega) (by omega) X kx h1).mono ?_;rintro e' X' ⟨rfl,hq⟩
  exact ⟨rfl,SubE.Ph.call h1 h2 h3 hq hxy⟩)
 clear HREC hn;obtain ⟨p1,hp1⟩:∃q,(ta.kind == tb.kind)=q:=⟨_,rfl⟩;obtain ⟨p2,hp2⟩:∃q,(ta.mu == tb.mu)=q:=⟨_,rfl⟩;obtain ⟨p3,hp3⟩:∃q,((ta.flds.length:Int) == (tb.flds.length:Int))=q:=⟨_,rfl⟩;obtain ⟨p4,hp4⟩:∃q,(ta.kind == 3)=q:=⟨_,rfl⟩;rw [hp1,hp2,hp3,hp4] at hcase;have HCASE:=aF hcase;clear hcase;have HP1:=aF hp1;have HP2:=aF hp2;have HP3:=aF hp3;have HP4:=aF hp4
 have HLAW:Hid (∀q:Bool,(p1=true->p2=true->p3=true->p4=true->q=(outB b.outl b.regions.length ta.reg tb.reg && subB b ta.elem tb.elem && (!ta.mu || subB b tb.elem ta.elem)))->(¬(p1=true/\p2=true/\p3=true/\p4=true)->q=(p1 && p2 && p3))->
  subB b s t=(q && (((ta.flds.drop 0).zip (tb.flds.drop 0)).all (fun p=>subB b p.1 p.2)))/\(q=true->ta.flds.length=tb.flds.length)):=aF (fun q h1 h2=>by
  rw [HSB.out];unfold subS;have g1:decide (ta.kind=tb.kind)=p1:=by rw [<- HP1.out];rfl
  have g2:decide (ta.mu=tb.mu)=p2:=by rw [<- HP2.out];cases ta.mu <;> cases tb.mu <;> rfl
  have g3:decide (ta.flds.length=tb.flds.length)=p3:=by rw [<- HP3.out,kE]
  have g4:decide (ta.kind≠3) = !p4:=by rw [<- HP4.out];by_cases h:ta.kind=3 <;> simp [h]
  have g5:p4=true->ta.flds=[]:=fun h=>(HOKS.out.1 (by rw [<- HP4.out] at h;simpa using h)).2.2
  rw [g1,g2,g3,g4,bW,bW];have g6:p3=true->ta.flds.length=tb.flds.length:=fun h=>by rw [<- g3] at h;simpa using h
  cases p1 <;> cases p2 <;> cases p3 <;> cases p4 <;> simp_all)
 clear HSB;have HR:Hid (0<=(s:Int)/\(s:Int)<(b.types.length:Int)/\0<=(t:Int)/\(t:Int)<(b.types.length:Int)):=aF ⟨by omega,by omega,by omega,by omega⟩
 have HO:Hid (∀X,E.Ph b W1 ks ((s:Int)+t) X->Calls Tryz.prog 191 #[.pointer (some ⟨E.r,0,none⟩),.int .i64 ta.reg,.int .i64 tb.reg] X fun e' X'=>e' = .returned (.bool (outB b.outl b.regions.length ta.reg tb.reg))/\E.Ph b W1 ks ((s:Int)+t) X'):=aF (fun X hX=>by
  refine (jF b.outl b.regions.length ta.reg tb.reg E.r X (HEE.out.rel.keep (HC.out X hX).2.2.2.2.2) HEE.out.ok.pairs (by have:=HEE.out.ok.nreg;omega) HEE.out.ok.nout).mono ?_;rintro e' X' ⟨rfl,hb⟩
  exact ⟨rfl,hX.keep hb⟩)
 obtain ⟨z1,z2,z3,z4⟩:W1.cell? ⟨E.pf,0,none⟩=some E.F/\W1.cell? ⟨E.pr,0,none⟩=some (.pointer (some ⟨E.r,0,none⟩))/\W1.cell? ⟨E.pk,0,none⟩=some (.map (some E.M))/\True:=⟨hst1.f,hst1.r,hst1.k,trivial⟩;clear hst1 z4;unfold SubE.F at z1;have hall:p1=true/\p2=true/\p3=true/\p4=true:=by have:=HCASE.out;revert this;cases p1 <;> cases p2 <;> cases p3 <;> cases p4 <;> simp
 clear HCASE
 ·obtain ⟨rfl,rfl,rfl,rfl⟩:=hall;have h3:ta.kind=3:=by simpa using hp4
  have h3b:tb.kind=3:=by have:ta.kind=tb.kind:=by simpa using hp1
                         rw [<- this];exact h3
  obtain ⟨a1,a2,-⟩:=HOKS.out.1 h3;obtain ⟨b1,b2,-⟩:=HOKT.out.1 h3b;have HSS:=aF (fun (x y:Int) (hxy:(x=ta.elem/\y=tb.elem)\/(x=tb.elem/\y=ta.elem))=>HCALL.out x y (by omega) (by omega) (by omega) (by omega) (by omega));have HF0:Hid (ta.flds.length=0):=aF (by rw [(HOKS.out.1 h3).2.2];rfl);clear a1 a2 b1 b2 h3 h3b HOKS HOKT;have HL2:Hid (∀q:Bool,q=(outB b.outl b.regions.length ta.reg tb.reg && subB b ta.elem tb.elem && (!ta.mu || subB b tb.elem ta.elem))->subB b s t=(q && (((ta.flds.drop 0).zip (tb.flds.drop 0)).all (fun p=>subB b p.1 p.2)))/\(q=true->ta.flds.length=tb.flds.length)):=aF (fun q hq=>HLAW.out q (fun _ _ _ _=>hq) (fun h=>absurd ⟨rfl,rfl,rfl,rfl⟩ h));clear HLAW HP1 HP2 HP3 HP4;generalize outB b.outl b.regions.length ta.reg tb.reg=o1 at HO HL2;obtain ⟨s1,hs1⟩:∃q,subB b ta.elem tb.elem=q:=⟨_,rfl⟩;obtain ⟨s2,hs2⟩:∃q,subB b tb.elem ta.elem=q:=⟨_,rfl⟩;rw [hs1,hs2] at HL2;have HE1:=aF hs1;have HE2:=aF hs2;clear HCALL hs1 hs2;generalize hmu:ta.mu=mu at *;rcases (show o1=false\/(o1=true/\s1=false)\/(o1=true/\s1=true/\mu=false)\/(o1=true/\s1=true/\mu=true) by cases o1 <;> cases s1 <;> cases mu <;> simp) with rfl | ⟨rfl,rfl⟩ | ⟨rfl,rfl,rfl⟩ | ⟨rfl,rfl,rfl⟩
  ·have HV:=aF (HL2.out false rfl);go_wp2_with (go_at_call 191;refine (HO.out _ HPH.out).mono ?_;rintro e' w1 ⟨rfl,hq⟩;have HQ1:=aF hq;obtain ⟨ca,cb,cf,cr,ck,-⟩:=HC.out _ hq;unfold SubE.F at cf;obtain ⟨ca0,ca1,ca2,ca3,ca4⟩:=aQ ca;obtain ⟨cb0,cb1,cb2,cb3,cb4⟩:=aQ cb;clear ca cb;try rw [hmu] at ca1;clear hq)
   have HPZ:=HQ1;have HVV:Hid (subB b s t=false):=aF (by rw [HV.out.1];rfl);(try clear HCALL);(try clear HSS);(try clear HE1);(try clear HE2); (try clear HO);(try clear HL2);(try clear HLAW);go_loopg [9,13] 0 (fun gk v i wr=>v = .bool false/\i = .int .i64 0/\Hid (E.Ph b W1 ks ((s:Int)+t) wr));(case atStart=>exact ⟨rfl,rfl,HPZ⟩);(case round=>(obtain ⟨rfl,rfl,HPZ⟩:=hrel;obtain ⟨kz,hstz,hnz,hgz⟩:=HPZ.out;have HSZ:=aF hstz;have HNZ:=aF hnz;have HGZ:=aF hgz;have hkz:=hstz.k;clear hnz hgz;go_wp2_with (at_mapUpdate;refine dF _ rfl _ _ _ 93 rfl 43 3 4 arrP Tryz.underlying3 progN Tryz.underlying93 _ _ _ rfl hstz.memo (hstz.lt HEE.out) _ _ rfl wfs wft (by rw [HVV.out];rfl) ?_;intro w9 hm9 hg9;have HM9:=aF hm9;have HG9:=aF hg9;clear hm9 hg9);clear hstz;go_ret;refine ⟨?_,SubE.fin HEE.out HM.out HR.out HB1.out HSZ.out HNZ.out HGZ.out HM9.out HG9.out⟩;rw [HVV.out];rfl))
  ·have HV:=aF (HL2.out false rfl);go_wp2_with (first | (go_at_call 191;refine (HO.out _ HPH.out).mono ?_;rintro e' w1 ⟨rfl,hq⟩;have HQ1:=aF hq;obtain ⟨ca,cb,cf,cr,ck,-⟩:=HC.out _ hq;unfold SubE.F at cf;obtain ⟨ca0,ca1,ca2,ca3,ca4⟩:=aQ ca;obtain ⟨cb0,cb1,cb2,cb3,cb4⟩:=aQ cb;clear ca cb;try rw [hmu] at ca1;clear hq) | (go_at_call 208;refine (HSS.out _ _ (by first | exact Or.inl ⟨rfl,rfl⟩ | exact Or.inr ⟨rfl,rfl⟩) _ (by exact HQ1.out)).mono ?_;rintro e' w2 ⟨rfl,hq⟩;rw [HE1.out];have HQ2:=aF hq;obtain ⟨ca,cb,cf,cr,ck,-⟩:=HC.out _ hq;unfold SubE.F at cf;obtain ⟨ca0,ca1,ca2,ca3,ca4⟩:=aQ ca;obtain ⟨cb0,cb1,cb2,cb3,cb4⟩:=aQ cb;clear ca cb;try rw [hmu] at ca1;clear hq))
   have HPZ:=HQ2;have HVV:Hid (subB b s t=false):=aF (by rw [HV.out.1];rfl);(try clear HCALL);(try clear HSS);(try clear HE1);(try clear HE2); (try clear HO);(try clear HL2);(try clear HLAW);go_loopg [9,13] 0 (fun gk v i wr=>v = .bool false/\i = .int .i64 0/\Hid (E.Ph b W1 ks ((s:Int)+t) wr));(case atStart=>exact ⟨rfl,rfl,HPZ⟩);(case round=>(obtain ⟨rfl,rfl,HPZ⟩:=hrel;obtain ⟨kz,hstz,hnz,hgz⟩:=HPZ.out;have HSZ:=aF hstz;have HNZ:=aF hnz;have HGZ:=aF hgz;have hkz:=hstz.k;clear hnz hgz;go_wp2_with (at_mapUpdate;refine dF _ rfl _ _ _ 93 rfl 43 3 4 arrP Tryz.underlying3 progN Tryz.underlying93 _ _ _ rfl hstz.memo (hstz.lt HEE.out) _ _ rfl wfs wft (by rw [HVV.out];rfl) ?_;intro w9 hm9 hg9;have HM9:=aF hm9;have HG9:=aF hg9;clear hm9 hg9);clear hstz;go_ret;refine ⟨?_,SubE.fin HEE.out HM.out HR.out HB1.out HSZ.out HNZ.out HGZ.out HM9.out HG9.out⟩;rw [HVV.out];rfl))
  ·have HV:=aF (HL2.out true rfl);go_wp2_with (first | (go_at_call 191;refine (HO.out _ HPH.out).mono ?_;rintro e' w1 ⟨rfl,hq⟩;have HQ1:=aF hq;obtain ⟨ca,cb,cf,cr,ck,-⟩:=HC.out _ hq;unfold SubE.F at cf;obtain ⟨ca0,ca1,ca2,ca3,ca4⟩:=aQ ca;obtain ⟨cb0,cb1,cb2,cb3,cb4⟩:=aQ cb;clear ca cb;try rw [hmu] at ca1;clear hq) | (go_at_call 208;refine (HSS.out _ _ (by first | exact Or.inl ⟨rfl,rfl⟩ | exact Or.inr ⟨rfl,rfl⟩) _ (by exact HQ1.out)).mono ?_;rintro e' w2 ⟨rfl,hq⟩;rw [HE1.out];have HQ2:=aF hq;obtain ⟨ca,cb,cf,cr,ck,-⟩:=HC.out _ hq;unfold SubE.F at cf;obtain ⟨ca0,ca1,ca2,ca3,ca4⟩:=aQ ca;obtain ⟨cb0,cb1,cb2,cb3,cb4⟩:=aQ cb;clear ca cb;try rw [hmu] at ca1;clear hq))
   have HPZ:=HQ2;have HVV:Hid (subB b s t=true):=aF (by rw [HV.out.1,List.length_eq_zero_iff.1 HF0.out];rfl);(try clear HCALL);(try clear HSS);(try clear HE1);(try clear HE2); (try clear HO);(try clear HL2);(try clear HLAW);go_loopg [9,13] 0 (fun gk v i wr=>v = .bool true/\i = .int .i64 0/\Hid (E.Ph b W1 ks ((s:Int)+t) wr));(case atStart=>exact ⟨rfl,rfl,HPZ⟩);(case round=>(obtain ⟨rfl,rfl,HPZ⟩:=hrel;have hq:=HPZ.out;obtain ⟨ca,cb,cf,cr,ck,-⟩:=HC.out _ hq;unfold SubE.F at cf;obtain ⟨ca0,ca1,ca2,ca3,ca4⟩:=aQ ca;obtain ⟨cb0,cb1,cb2,cb3,cb4⟩:=aQ cb;clear ca cb;have hf0:=HF0.out;have e0:¬((0:Int)<(ta.flds.length:Int)):=(by omega);clear hq;obtain ⟨kz,hstz,hnz,hgz⟩:=HPZ.out;have HSZ:=aF hstz;have HNZ:=aF hnz;have HGZ:=aF hgz;have hkz:=hstz.k;clear hnz hgz;go_wp2_with (at_mapUpdate;refine dF _ rfl _ _ _ 93 rfl 43 3 4 arrP Tryz.underlying3 progN Tryz.underlying93 _ _ _ rfl hstz.memo (hstz.lt HEE.out) _ _ rfl wfs wft (by rw [HVV.out];rfl) ?_;intro w9 hm9 hg9;have HM9:=aF hm9;have HG9:=aF hg9;clear hm9 hg9);clear hstz;go_ret;refine ⟨?_,SubE.fin HEE.out HM.out HR.out HB1.out HSZ.out HNZ.out HGZ.out HM9.out HG9.out⟩;rw [HVV.out];rfl))
  ·have HV:=aF (HL2.out s2 (by simp));cases s2
   ·go_wp2_with (first | (go_at_call 191;refine (HO.out _ HPH.out).mono ?_;rintro e' w1 ⟨rfl,hq⟩;have HQ1:=aF hq;obtain ⟨ca,cb,cf,cr,ck,-⟩:=HC.out _ hq;unfold SubE.F at cf;obtain ⟨ca0,ca1,ca2,ca3,ca4⟩:=aQ ca;obtain ⟨cb0,cb1,cb2,cb3,cb4⟩:=aQ cb;clear ca cb;try rw [hmu] at ca1;clear hq) | (go_at_call 208;refine (HSS.out _ _ (by first | exact Or.inl ⟨rfl,rfl⟩ | exact Or.inr ⟨rfl,rfl⟩) _ (by exact HQ1.out)).mono ?_;rintro e' w2 ⟨rfl,hq⟩;rw [HE1.out];have HQ2:=aF hq;obtain ⟨ca,cb,cf,cr,ck,-⟩:=HC.out _ hq;unfold SubE.F at cf;obtain ⟨ca0,ca1,ca2,ca3,ca4⟩:=aQ ca;obtain ⟨cb0,cb1,cb2,cb3,cb4⟩:=aQ cb;clear ca cb;try rw [hmu] at ca1;clear hq) | (go_at_call 208;refine (HSS.out _ _ (by first | exact Or.inl ⟨rfl,rfl⟩ | exact Or.inr ⟨rfl,rfl⟩) _ (by exact HQ2.out)).mono ?_;rintro e' w3 ⟨rfl,hq⟩;rw [HE2.out];have HQ3:=aF hq;obtain ⟨ca,cb,cf,cr,ck,-⟩:=HC.out _ hq;unfold SubE.F at cf;obtain ⟨ca0,ca1,ca2,ca3,ca4⟩:=aQ ca;obtain ⟨cb0,cb1,cb2,cb3,cb4⟩:=aQ cb;clear ca cb;try rw [hmu] at ca1;clear hq))
    have HPZ:=HQ3;have HVV:Hid (subB b s t=false):=aF (by rw [HV.out.1];rfl);(try clear HCALL);(try clear HSS);(try clear HE1);(try clear HE2); (try clear HO);(try clear HL2);(try clear HLAW);go_loopg [9,13] 0 (fun gk v i wr=>v = .bool false/\i = .int .i64 0/\Hid (E.Ph b W1 ks ((s:Int)+t) wr));(case atStart=>exact ⟨rfl,rfl,HPZ⟩);(case round=>(obtain ⟨rfl,rfl,HPZ⟩:=hrel;obtain ⟨kz,hstz,hnz,hgz⟩:=HPZ.out;have HSZ:=aF hstz;have HNZ:=aF hnz;have HGZ:=aF hgz;have hkz:=hstz.k;clear hnz hgz;go_wp2_with (at_mapUpdate;refine dF _ rfl _ _ _ 93 rfl 43 3 4 arrP Tryz.underlying3 progN Tryz.underlying93 _ _ _ rfl hstz.memo (hstz.lt HEE.out) _ _ rfl wfs wft (by rw [HVV.out];rfl) ?_;intro w9 hm9 hg9;have HM9:=aF hm9;have HG9:=aF hg9;clear hm9 hg9);clear hstz;go_ret;refine ⟨?_,SubE.fin HEE.out HM.out HR.out HB1.out HSZ.out HNZ.out HGZ.out HM9.out HG9.out⟩;rw [HVV.out];rfl))
   ·go_wp2_with (first | (go_at_call 191;refine (HO.out _ HPH.out).mono ?_;rintro e' w1 ⟨rfl,hq⟩;have HQ1:=aF hq;obtain ⟨ca,cb,cf,cr,ck,-⟩:=HC.out _ hq;unfold SubE.F at cf;obtain ⟨ca0,ca1,ca2,ca3,ca4⟩:=aQ ca;obtain ⟨cb0,cb1,cb2,cb3,cb4⟩:=aQ cb;clear ca cb;try rw [hmu] at ca1;clear hq) | (go_at_call 208;refine (HSS.out _ _ (by first | exact Or.inl ⟨rfl,rfl⟩ | exact Or.inr ⟨rfl,rfl⟩) _ (by exact HQ1.out)).mono ?_;rintro e' w2 ⟨rfl,hq⟩;rw [HE1.out];have HQ2:=aF hq;obtain ⟨ca,cb,cf,cr,ck,-⟩:=HC.out _ hq;unfold SubE.F at cf;obtain ⟨ca0,ca1,ca2,ca3,ca4⟩:=aQ ca;obtain ⟨cb0,cb1,cb2,cb3,cb4⟩:=aQ cb;clear ca cb;try rw [hmu] at ca1;clear hq) | (go_at_call 208;refine (HSS.out _ _ (by first | exact Or.inl ⟨rfl,rfl⟩ | exact Or.inr ⟨rfl,rfl⟩) _ (by exact HQ2.out)).mono ?_;rintro e' w3 ⟨rfl,hq⟩;rw [HE2.out];have HQ3:=aF hq;obtain ⟨ca,cb,cf,cr,ck,-⟩:=HC.out _ hq;unfold SubE.F at cf;obtain ⟨ca0,ca1,ca2,ca3,ca4⟩:=aQ ca;obtain ⟨cb0,cb1,cb2,cb3,cb4⟩:=aQ cb;clear ca cb;try rw [hmu] at ca1;clear hq))
    have HPZ:=HQ3;have HVV:Hid (subB b s t=true):=aF (by rw [HV.out.1,List.length_eq_zero_iff.1 HF0.out];rfl);(try clear HCALL);(try clear HSS);(try clear HE1);(try clear HE2); (try clear HO);(try clear HL2);(try clear HLAW);go_loopg [9,13] 0 (fun gk v i wr=>v = .bool true/\i = .int .i64 0/\Hid (E.Ph b W1 ks ((s:Int)+t) wr));(case atStart=>exact ⟨rfl,rfl,HPZ⟩);(case round=>(obtain ⟨rfl,rfl,HPZ⟩:=hrel;have hq:=HPZ.out;obtain ⟨ca,cb,cf,cr,ck,-⟩:=HC.out _ hq;unfold SubE.F at cf;obtain ⟨ca0,ca1,ca2,ca3,ca4⟩:=aQ ca;obtain ⟨cb0,cb1,cb2,cb3,cb4⟩:=aQ cb;clear ca cb;have hf0:=HF0.out;have e0:¬((0:Int)<(ta.flds.length:Int)):=(by omega);clear hq;obtain ⟨kz,hstz,hnz,hgz⟩:=HPZ.out;have HSZ:=aF hstz;have HNZ:=aF hnz;have HGZ:=aF hgz;have hkz:=hstz.k;clear hnz hgz;go_wp2_with (at_mapUpdate;refine dF _ rfl _ _ _ 93 rfl 43 3 4 arrP Tryz.underlying3 progN Tryz.underlying93 _ _ _ rfl hstz.memo (hstz.lt HEE.out) _ _ rfl wfs wft (by rw [HVV.out];rfl) ?_;intro w9 hm9 hg9;have HM9:=aF hm9;have HG9:=aF hg9;clear hm9 hg9);clear hstz;go_ret;refine ⟨?_,SubE.fin HEE.out HM.out HR.out HB1.out HSZ.out HNZ.out HGZ.out HM9.out HG9.out⟩;rw [HVV.out];rfl))
theorem xCK (E:SubE) (b:Bdy) (HE:E.Ok b) (m:Nat) (HREC0:E.Rec b m) (s t:Nat) (hm:s+t<m+1) (hs:s<b.types.length) (ht:t<b.types.length) (W:World) (ks:List (Int × Int)) (h:E.St b W ks) (hmem:((s:Int),(t:Int))∉ks) (hcase:((b.types[s].kind == b.types[t].kind) && (b.types[s].mu == b.types[t].mu) && ((b.types[s].flds.length:Int) == (b.types[t].flds.length:Int)) && !(b.types[s].kind == 3))=true):
 Calls Tryz.prog 208 #[.int .i64 s,.int .i64 t,.pointer (some ⟨E.pk,0,none⟩),.pointer (some ⟨E.pl,0,none⟩),.pointer (some ⟨E.pr,0,none⟩),.pointer (some ⟨E.pf,0,none⟩)] W fun e' W'=>e' = .returned (.bool (subB b s t))/\E.Q b W ks s t W':=by
 have HREC:=aF HREC0;have HSB:=aF (iX HE.ok.tyok hs ht);have HOKS:=aF (HE.ok.tyok s hs);have HOKT:=aF (HE.ok.tyok t ht);have hn:=HE.ok.ntyp;have hlen:=h.lt HE;have wfs:(Lit.int .i64 (s:Int)).wf=true:=WalkArith.wf_i64 (by omega);have wft:(Lit.int .i64 (t:Int)).wf=true:=WalkArith.wf_i64 (by omega);have x1:=h.k;have x2:=h.l;have x3:=h.r;have x4:=h.f;have hmemo:=h.memo;have HST:=aF h;have HEE:=aF HE;have hle:=HE.ty.le;have hbig:=HE.ty.big;have HMD:Hid (decide (((s:Int),(t:Int))∈ks)=false):=aF (by simp [hmem]);have HM:=aF hmem;obtain ⟨bb,oo,hA,hbb,hxs⟩:=HE.ty.sl.at_ hs;obtain ⟨b2,o2,hA2,hbb2,hxt⟩:=HE.ty.sl.at_ ht;have hAA:some (⟨bb,oo,none⟩:Addr)=some ⟨b2,o2,none⟩:=hA.symm.trans hA2;simp only [cI,Addr.mk.injEq,and_true] at hAA;obtain ⟨rfl,rfl⟩:=hAA;clear hA2 hbb2;obtain ⟨ta,hta⟩:∃x,b.types[s]=x:=⟨_,rfl⟩;obtain ⟨tb,htb⟩:∃x,b.types[t]=x:=⟨_,rfl⟩;rw [hta] at hxs HSB HOKS hcase;rw [htb] at hxt HSB HOKT hcase;obtain ⟨r0,r1,r2,r3,A2,c2,r4,r6,r7,r8⟩:=hxs;obtain ⟨q0,q1,q2,q3,B2,d2,q4,q6,q7,q8⟩:=hxt;have HFA:Hid (Slc 1 RInt E.w0 A2 c2 ta.flds):=aF ⟨r8,r6,r7⟩;have HFB:Hid (Slc 1 RInt E.w0 B2 d2 tb.flds):=aF ⟨q8,q6,q7⟩;have hb0:=h.low;replace r0:=cO hb0 r0;replace r1:=cO hb0 r1;replace r2:=cO hb0 r2;replace r3:=cO hb0 r3;replace r4:=cO hb0 r4;replace q0:=cO hb0 q0;replace q1:=cO hb0 q1;replace q2:=cO hb0 q2;replace q3:=cO hb0 q3;replace q4:=cO hb0 q4;rw [hA] at x2;clear r8 q8 hta htb hb0 h HE hmem;go_enter Tryz.func208,Tryz.ntmps208;go_wp2_with (at_lookup;refine fI _ rfl _ _ 93 rfl 43 3 4 arrP Tryz.underlying3 progN Tryz.underlying93 (gC _) _ _ _ rfl hmemo _ _ rfl wfs wft ?_;rw [aZ HM.out,HMD.out])
 have hS:Below W.heap.size W W.drew:=(aX _ _).drew;refine cT (S:=fun X=>Below W.heap.size W X) [0,1,2,3,4,5,6,7,8,9,10,11] (by kernel_rfl) ?_;(iterate 8 (refine cR (v:=?_) ?_ hS ?_;rotate_left;(next=>(rintro X hX;have s0:=cO hX x2;have u0:=cO hX r0;have u1:=cO hX r1;have u2:=cO hX r2;have u3:=cO hX r3;have u4:=cO hX r4;have v0:=cO hX q0;have v1:=cO hX q1;have v2:=cO hX q2;have v3:=cO hX q3;have v4:=cO hX q4;(try simp only [aI]);go_simp;rfl));simp only [aM]));have hS1:Below W.heap.size W (W.drew.alloc ty0):=aH;have hS2:Below W.heap.size W ((W.drew.alloc ty0).alloc ty0):=aH;refine iU [0,1,2,3,4,5,6,7,9,8,10,11] ty0 (by kernel_rfl) ?_ ?_ ?_ hS1 hS2 ?_
 ·intro a1 w1 K hK;(simp only [aM]);rw [bA (by rfl)];go_simp;exact hK
 ·intro a1 w1 K hK;(simp only [aM]);rw [bA (by rfl)];go_simp;exact hK
 ·exact fun _ _=>rfl
 intro ga gb hg;obtain ⟨hB1,ya,yb⟩:=mG W.drew ga gb ta tb A2 B2 c2 d2 hg;have hS3:Below W.heap.size W (((W.drew.alloc ty0).alloc ty0).setCells ga 0 (tyL ta A2 c2)):=dP (by rcases hg with h | h <;> (rw [h.1];simp)) _ _ _ hS2
 have tha:((W.drew.alloc ty0).alloc ty0).there ga 0 (tyL ta A2 c2).toArray.size:=by
  rcases hg with ⟨h,-⟩ | ⟨h,-⟩ <;> rw [h]
  ·exact World.there_alloc (dO _ _ _ _ 5 rfl (by simp)) _
  ·exact dO _ _ _ _ 5 (by simp) (by simp)
 have thb:((W.drew.alloc ty0).alloc ty0).there gb 0 (tyL tb B2 d2).toArray.size:=by
  rcases hg with ⟨-,h⟩ | ⟨-,h⟩ <;> rw [h]
  ·exact dO _ _ _ _ 5 (by simp) (by simp)
  ·exact World.there_alloc (dO _ _ _ _ 5 rfl (by simp)) _
 have hS4:Below W.heap.size W ((((W.drew.alloc ty0).alloc ty0).setCells ga 0 (tyL ta A2 c2)).setCells gb 0 (tyL tb B2 d2)):=hS.trans (hB1.mono (aY _));have hne:ga≠gb/\W.heap.size<=ga/\W.heap.size<=gb:=by rcases hg with ⟨rfl,rfl⟩ | ⟨rfl,rfl⟩ <;> simp
 have hML:=HST.out.memo.lt;have hM:E.M≠ga/\E.M≠gb:=by omega
 clear hg;have thc:=World.there_setCells thb ga 0 (tyL ta A2 c2);generalize (W.drew.alloc ty0).alloc ty0=W8 at *;have E9:∃W9,W8.setCells ga 0 (tyL ta A2 c2)=W9:=⟨_,rfl⟩;obtain ⟨W9,e9⟩:=E9;obtain ⟨W1,e1⟩:∃W1,W9.setCells gb 0 (tyL tb B2 d2)=W1:=⟨_,rfl⟩;rw [e9] at hB1 ya yb hS3 hS4 thc;rw [e1] at hB1 ya yb hS4;(refine cY (fun K1 hK1=>?_);simp only [aM];rw [bA (by rfl)]);refine wp_store_mid 65 (.tmp 11) (.tmp 27) rfl ga 0 (tyL ta A2 c2).toArray rfl rfl tha (by kernel_rfl) (by simp [tyL,Value.oneCell']) ?_;rw [List.toList_toArray,e9];refine hK1.out _ _ (fun _=>hS3) ?_;clear hK1;(refine cY (fun K1 hK1=>?_);simp only [aM];rw [bA (by rfl)]);refine wp_store_mid 65 (.tmp 12) (.tmp 31) rfl gb 0 (tyL tb B2 d2).toArray rfl rfl thc (by kernel_rfl) (by simp [tyL,Value.oneCell']) ?_;rw [List.toList_toArray,e1];refine hK1.out _ _ (fun _=>hS4) ?_;clear hK1;refine cZ ?_;(simp only [aM]);obtain ⟨ya0,ya1,ya2,ya3,ya4⟩:=aQ ya;obtain ⟨yb0,yb1,yb2,yb3,yb4⟩:=aQ yb;have hst1:=HST.out.keep hS4;have HPH:=aF (SubE.Ph.start HST.out hS4 ((s:Int)+t));have HB1:=aF hS4;have HM1:=aF hM
 have HC:Hid (∀X,E.Ph b W1 ks ((s:Int)+t) X->(aA (tyL ta A2 c2) X ga)/\(aA (tyL tb B2 d2) X gb)/\X.cell? ⟨E.pf,0,none⟩=some E.F/\X.cell? ⟨E.pr,0,none⟩=some (.pointer (some ⟨E.r,0,none⟩))/\X.cell? ⟨E.pk,0,none⟩=some (.map (some E.M))/\Below E.w0.heap.size E.w0 X):=aF (fun X ⟨kx,h1,h2,h3⟩=>
  ⟨fun i v hi=>dW h3 (ya i v hi) (by simpa using Ne.symm HM1.out.1),fun i v hi=>dW h3 (yb i v hi) (by simpa using Ne.symm HM1.out.2),h1.f,h1.r,h1.k,h1.low⟩)
 have hbp:=HST.out.memo.lt;clear hS hS1 hS2 hS3 hS4 hB1 ya yb tha thb thc e9 e1 x1 x2 x3 x4 hmemo r0 r1 r2 r3 r4 q0 q1 q2 q3 q4 hM hML
 have HCALL:Hid (∀x y:Int,0<=x->0<=y->x+y<(s:Int)+t->x<(b.types.length:Int)->y<(b.types.length:Int)->∀X,E.Ph b W1 ks ((s:Int)+t) X->
  Calls Tryz.prog 208 #[.int .i64 x,.int .i64 y,.pointer (some ⟨E.pk,0,none⟩),.pointer (some ⟨E.pl,0,none⟩),.pointer (some ⟨E.pr,0,none⟩),.pointer (some ⟨E.pf,0,none⟩)] X fun e' X'=>e' = .returned (.bool (subB b x y))/\E.Ph b W1 ks ((s:Int)+t) X'):=aF (fun x y hx hy hxy hxl hyl X ⟨kx,h1,h2,h3⟩=>by
  obtain ⟨x,rfl⟩:=bG hx;obtain ⟨y,rfl⟩:=bG hy;refine (HREC.out x y (by omega) (by omega) (by omega) X kx h1).mono ?_;rintro e' X' ⟨rfl,hq⟩
  exact ⟨rfl,SubE.Ph.call h1 h2 h3 hq hxy⟩)
 clear HREC hn;obtain ⟨p1,hp1⟩:∃q,(ta.kind == tb.kind)=q:=⟨_,rfl⟩;obtain ⟨p2,hp2⟩:∃q,(ta.mu == tb.mu)=q:=⟨_,rfl⟩;obtain ⟨p3,hp3⟩:∃q,((ta.flds.length:Int) == (tb.flds.length:Int))=q:=⟨_,rfl⟩;obtain ⟨p4,hp4⟩:∃q,(ta.kind == 3)=q:=⟨_,rfl⟩;rw [hp1,hp2,hp3,hp4] at hcase;have HCASE:=aF hcase;clear hcase;have HP1:=aF hp1;have HP2:=aF hp2;have HP3:=aF hp3;have HP4:=aF hp4
 have HLAW:Hid (∀q:Bool,(p1=true->p2=true->p3=true->p4=true->q=(outB b.outl b.regions.length ta.reg tb.reg && subB b ta.elem tb.elem && (!ta.mu || subB b tb.elem ta.elem)))->(¬(p1=true/\p2=true/\p3=true/\p4=true)->q=(p1 && p2 && p3))->
  subB b s t=(q && (((ta.flds.drop 0).zip (tb.flds.drop 0)).all (fun p=>subB b p.1 p.2)))/\(q=true->ta.flds.length=tb.flds.length)):=aF (fun q h1 h2=>by
  rw [HSB.out];unfold subS;have g1:decide (ta.kind=tb.kind)=p1:=by rw [<- HP1.out];rfl
  have g2:decide (ta.mu=tb.mu)=p2:=by rw [<- HP2.out];cases ta.mu <;> cases tb.mu <;> rfl
  have g3:decide (ta.flds.length=tb.flds.length)=p3:=by rw [<- HP3.out,kE]
  have g4:decide (ta.kind≠3) = !p4:=by rw [<- HP4.out];by_cases h:ta.kind=3 <;> simp [h]
  have g5:p4=true->ta.flds=[]:=fun h=>(HOKS.out.1 (by rw [<- HP4.out] at h;simpa using h)).2.2
  rw [g1,g2,g3,g4,bW,bW];have g6:p3=true->ta.flds.length=tb.flds.length:=fun h=>by rw [<- g3] at h;simpa using h
  cases p1 <;> cases p2 <;> cases p3 <;> cases p4 <;> simp_all)
 clear HSB;have HR:Hid (0<=(s:Int)/\(s:Int)<(b.types.length:Int)/\0<=(t:Int)/\(t:Int)<(b.types.length:Int)):=aF ⟨by omega,by omega,by omega,by omega⟩
 have HO:Hid (∀X,E.Ph b W1 ks ((s:Int)+t) X->Calls Tryz.prog 191 #[.pointer (some ⟨E.r,0,none⟩),.int .i64 ta.reg,.int .i64 tb.reg] X fun e' X'=>e' = .returned (.bool (outB b.outl b.regions.length ta.reg tb.reg))/\E.Ph b W1 ks ((s:Int)+t) X'):=aF (fun X hX=>by
  refine (jF b.outl b.regions.length ta.reg tb.reg E.r X (HEE.out.rel.keep (HC.out X hX).2.2.2.2.2) HEE.out.ok.pairs (by have:=HEE.out.ok.nreg;omega) HEE.out.ok.nout).mono ?_;rintro e' X' ⟨rfl,hb⟩
  exact ⟨rfl,hX.keep hb⟩)
 obtain ⟨z1,z2,z3,z4⟩:W1.cell? ⟨E.pf,0,none⟩=some E.F/\W1.cell? ⟨E.pr,0,none⟩=some (.pointer (some ⟨E.r,0,none⟩))/\W1.cell? ⟨E.pk,0,none⟩=some (.map (some E.M))/\True:=⟨hst1.f,hst1.r,hst1.k,trivial⟩;clear hst1 z4;unfold SubE.F at z1;have hc:=HCASE.out;clear HCASE;have hall:¬(p1=true/\p2=true/\p3=true/\p4=true):=by rintro ⟨rfl,rfl,rfl,rfl⟩;simp at hc
 have HL3:Hid (∀q:Bool,q=(p1 && p2 && p3)->subB b s t=(q && (((ta.flds.drop 0).zip (tb.flds.drop 0)).all (fun p=>subB b p.1 p.2)))/\(q=true->ta.flds.length=tb.flds.length)):=aF (fun q hq=>HLAW.out q (fun h1 h2 h3 h4=>absurd ⟨h1,h2,h3,h4⟩ hall) (fun _=>hq));clear HLAW HO HP1 HP2 HP3 HP4;have HPZ:=HPH;obtain ⟨rfl,rfl,rfl,rfl⟩:p1=true/\p2=true/\p3=true/\p4=false:=by revert hc;cases p1 <;> cases p2 <;> cases p3 <;> cases p4 <;> simp
 clear hc;have HV:=aF (HL3.out true rfl);have hln:=HV.out.2 rfl;have HLN:=aF hln;clear hall HL3 hln;go_wp2_with fail
 go_loopg [9,13] ta.flds.length (fun gk v i wr=>∃(j:Nat) (q:Bool),gk=ta.flds.length - j/\j<=ta.flds.length/\v = .bool q/\i = .int .i64 j/\Hid (E.Ph b W1 ks ((s:Int)+t) wr)/\Hid (subB b s t=(q && ((ta.flds.drop j).zip (tb.flds.drop j)).all (fun p=>subB b p.1 p.2))))
 case atStart=>exact ⟨0,true,by omega,by omega,rfl,rfl,HPZ,aF HV.out.1⟩
 case round=>
  clear HPZ HV;obtain ⟨j,q,hgj,hj,rfl,rfl,HPZ,HV⟩:=hrel;have hq:=HPZ.out;obtain ⟨ca,cb,cf,cr,ck,-⟩:=HC.out _ hq;unfold SubE.F at cf;obtain ⟨ca0,ca1,ca2,ca3,ca4⟩:=aQ ca;obtain ⟨cb0,cb1,cb2,cb3,cb4⟩:=aQ cb;clear ca cb;clear hq;cases q
  ·have HVV:Hid (subB b s t=false):=aF (by rw [HV.out];rfl);clear HCALL HOKS HOKT;obtain ⟨kz,hstz,hnz,hgz⟩:=HPZ.out;have HSZ:=aF hstz;have HNZ:=aF hnz;have HGZ:=aF hgz;have hkz:=hstz.k;clear hnz hgz;go_wp2_with (at_mapUpdate;refine dF _ rfl _ _ _ 93 rfl 43 3 4 arrP Tryz.underlying3 progN Tryz.underlying93 _ _ _ rfl hstz.memo (hstz.lt HEE.out) _ _ rfl wfs wft (by rw [HVV.out];rfl) ?_;intro w9 hm9 hg9;have HM9:=aF hm9;have HG9:=aF hg9;clear hm9 hg9);clear hstz;go_ret;refine ⟨?_,SubE.fin HEE.out HM.out HR.out HB1.out HSZ.out HNZ.out HGZ.out HM9.out HG9.out⟩;rw [HVV.out];rfl
  ·by_cases hlt:j<ta.flds.length
   ·have hlt2:j<tb.flds.length:=by have:=HLN.out;omega
    obtain ⟨ba,oa,rfl,hba,hxa⟩:=HFA.out.sl.at_ hlt;obtain ⟨b8,o8,rfl,hb8,hxb⟩:=HFB.out.sl.at_ hlt2;have h5:=HOKS.out.2 ta.flds[j] (bM hlt);have h6:=HOKT.out.2 tb.flds[j] (bM hlt2);have HV2:Hid (subB b s t=(subB b ta.flds[j] tb.flds[j] && ((ta.flds.drop (j+1)).zip (tb.flds.drop (j+1))).all (fun p=>subB b p.1 p.2))):=aF (by rw [HV.out,cV hlt,cV hlt2,List.zip_cons_cons,cB,Bool.true_and]);obtain ⟨x,hxx⟩:∃x,ta.flds[j]=x:=⟨_,rfl⟩;obtain ⟨y,hyy⟩:∃y,tb.flds[j]=y:=⟨_,rfl⟩;rw [hxx] at hxa h5 HV2;rw [hyy] at hxb h6 HV2;have xa:E.w0.cell? ⟨ba,oa+j,none⟩=some (.int .i64 x):=(by simpa [RInt] using hxa);have xb:E.w0.cell? ⟨b8,o8+j,none⟩=some (.int .i64 y):=(by simpa [RInt] using hxb);have HCX:=aF (HCALL.out x y h5.1 h6.1 (by omega) (by omega) (by omega));have XA:=aF xa;have XB:=aF xb;clear hxa hxb h5 h6 hxx hyy HV HCALL HOKS HOKT xa xb;go_wp2_with fail
    have hS:E.Ph b W1 ks ((s:Int)+t) wr.drew:=HPZ.out.keep ((aX _ _).drew);clear ca0 ca1 ca2 ca3 ca4 cb0 cb1 cb2 cb3 cb4 cf cr ck;refine cT (S:=fun X=>E.Ph b W1 ks ((s:Int)+t) X) [0,1,2,3,4,5,6,7,8,9,10,11,12] (by kernel_rfl) ?_;(iterate 11 (refine cR (v:=?_) ?_ hS ?_;rotate_left;(next=>(rintro X hX;obtain ⟨da,db,df,-,-,dl⟩:=HC.out X hX;unfold SubE.F at df;have s4:=da 4 _ rfl;have u4:=db 4 _ rfl;have v1:=cO dl XA.out;have v2:=cO dl XB.out;clear da db;(try simp only [aI]);go_simp;rfl));simp only [aM]));(refine cY (fun K1 hK1=>?_);simp only [aM];rw [bA (by rfl)];go_simp);refine (HCX.out _ hS).mono ?_;rintro e' w2 ⟨rfl,hq⟩;refine hK1.out _ _ (fun _=>hq) ?_;have HQ:=aF hq;replace hS:=hq;clear hK1 hq;((refine cR (v:=?_) ?_ hS ?_;rotate_left;(next=>(rintro X -;(try simp only [aI]);go_simp;rfl));simp only [aM]))
    refine cZ ?_;go_wp2_with fail
    go_roundg (ta.flds.length - (j+1))
    case measure=>omega
    case rel=>exact ⟨j+1,subB b x y,rfl,by omega,rfl,by go_num,HQ,HV2⟩
   ·have HVV:Hid (subB b s t=true):=aF (by rw [HV.out,bE (by omega)];rfl);have e0:¬((j:Int)<(ta.flds.length:Int)):=(by omega);clear HCALL HOKS HOKT;obtain ⟨kz,hstz,hnz,hgz⟩:=HPZ.out;have HSZ:=aF hstz;have HNZ:=aF hnz;have HGZ:=aF hgz;have hkz:=hstz.k;clear hnz hgz;go_wp2_with (at_mapUpdate;refine dF _ rfl _ _ _ 93 rfl 43 3 4 arrP Tryz.underlying3 progN Tryz.underlying93 _ _ _ rfl hstz.memo (hstz.lt HEE.out) _ _ rfl wfs wft (by rw [HVV.out];rfl) ?_;intro w9 hm9 hg9;have HM9:=aF hm9;have HG9:=aF hg9;clear hm9 hg9);clear hstz;go_ret;refine ⟨?_,SubE.fin HEE.out HM.out HR.out HB1.out HSZ.out HNZ.out HGZ.out HM9.out HG9.out⟩;rw [HVV.out];rfl
end
end Go.Proofs.YtcfchohkmkilpaaGreatDoor
