/-
  LivenessRegions: for every body the law answers true, and the argument reads as it did; the card of the row. Condition: the four listed variables hold at the start what the text of the program lays (the given tie; one is a table of the library, pinned by its name). (part 1)
-/
import Derived.Test.YtcfchohkmkilpaaGreatDoorLP20
import Derived.Test.YtcfchohkmkilpaaGreatDoorLP24
import Derived.Test.YtcfchohkmkilpaaGreatDoorMS
import Derived.Test.YtcfchohkmkilpaaGreatDoorTie
import Derived.Test.YtcfchohkmkilpaaGreatDoorCards
namespace Go.Proofs.YtcfchohkmkilpaaGreatDoor
set_option maxRecDepth 100000
set_option maxHeartbeats 16000000
section
open Go Go.RowKit
theorem xIK : type_of% @List.map_nil := @List.map_nil
theorem xIL : type_of% @List.mem_map := @List.mem_map
end
section
open Go Go.RowKit
theorem Srt.take_ {l:List Int} {P:Int->Prop} {q:Int} (h:Srt l (fun z=>P z/\0<=z/\z<q)) (h0:0<=q) (hq:P q):Srt (l ++ [q]) (fun z=>P z/\0<=z/\z<q+1):=
 (h.push (fun _ hz=>hz.2.2)).iff fun z=>by
   constructor
   ·rintro (⟨a,b,c⟩ | rfl)
    ·exact ⟨a,b,by omega⟩
    ·exact ⟨hq,h0,by omega⟩
   ·rintro ⟨a,b,c⟩;by_cases e:z=q
    ·exact .inr e
    ·exact .inl ⟨a,b,by omega⟩
theorem Srt.skip_ {l:List Int} {P:Int->Prop} {q:Int} (h:Srt l (fun z=>P z/\0<=z/\z<q)) (hq:¬P q):Srt l (fun z=>P z/\0<=z/\z<q+1):=
 h.iff fun z=>by
  constructor
  ·rintro ⟨a,b,c⟩;exact ⟨a,b,by omega⟩
  ·rintro ⟨a,b,c⟩;refine ⟨a,b,?_⟩;by_cases e:z=q
   ·subst e;exact absurd a hq
   ·omega
theorem lt2_tri (a b:Int × Int):lt2 a b\/a=b\/lt2 b a:=by
 obtain ⟨a1,a2⟩:=a;obtain ⟨b1,b2⟩:=b;unfold lt2;simp only [Prod.mk.injEq];omega
theorem xKR {ts:List Ty} (hf:∀t∈ts,t.kind≠4->t.flds=[]) {r i:Int}:Men ts r i↔∃k t,Rt ts i k/\0<=k/\ts[k.toNat]?=some t/\t.kind=3/\t.reg=r:=by
 constructor
 ·intro h;induction h with
  | here h0 h1 h2 h3=>exact ⟨_,_,.refl _,h0,h1,h2,h3⟩
  | elem h0 h1 h2 _ ih=>
    obtain ⟨k,t',g1,g2⟩:=ih;exact ⟨k,t',.step h0 h1 (by unfold prtT;rw [bA h2];simp) g1,g2⟩
  | fld h0 h1 h2 _ ih=>
    obtain ⟨k,t',g1,g2⟩:=ih;rename_i t _
    have h4:t.kind=4:=by
     by_cases e:t.kind=4
     ·exact e
     ·have:=hf t (List.mem_of_getElem? h1) e;rw [this] at h2;cases h2
    exact ⟨k,t',.step h0 h1 (by unfold prtT;rw [aZ (by omega)];exact h2) g1,g2⟩
 ·rintro ⟨k,t,h,h0,h1,h2,h3⟩;induction h with
  | refl i=>exact .here h0 h1 h2 h3
  | step g0 g1 g2 _ ih=>
    have:=ih h0 h1;unfold prtT at g2;split at g2
    ·rename_i e;rw [bR] at g2;subst g2;exact .elem g0 g1 e this
    ·exact .fld g0 g1 g2 this
theorem Lf.found {bs:List Blk} {x p0:Int} {l sl:List Int} {i:Nat} (h:Lf bs x p0 l sl i) {q:Int} (hq:l[i]?=some q) (hu:x∈usP bs q):Lv bs x p0:=
 (h.rch q (List.mem_of_getElem? hq)).live (.use hu)
theorem Vi.reach {ts:List Ty} {i:Int} {sl:List Int} (h:Vi ts i [] sl) (j:Int):j∈sl↔Rt ts i j:=
 ⟨fun hj=>(h.snd j hj).elim (fun g=>by cases g) id,fun hr=>hr.closed (S:=fun x=>x∈sl) (fun x t k hx _ ht hk=>(h.cls x hx).elim (fun g=>by cases g) (fun f=>f t ht k hk)) h.hd⟩
def lvR (b:Bdy) (z:Int × Int):Prop:=RlP b z.1 z.2
end
section
open Go Go.RowKit Go.Maps
theorem Kc.of_grown {A B:World} {b:Nat} (hm:∀cs e z,A.heap[b]?≠some (.cells cs e z)) (hg:A.grownBy B (some b)):Kc A B:=
 ⟨fun a v h=>by
   obtain ⟨cs,e,z,hc⟩:=sJ h
   exact (World.cell?_of_block (hg.block a.block (Array.getElem?_eq_some_iff.1 hc).1 (fun e'=>by injection e' with e';exact hm cs e z (e' ▸ hc)))).trans h,hg.size⟩
end
section
open Go Go.RowKit Go.Maps
theorem xKN (b:Bdy) (bh:BH) (w:World) (H:BdAt w b bh) (hc:cntB b.blocks<=1000000000000):
 Calls Tryz.prog 17 #[.agg (bdC b bh).toArray] w fun e' w'=>e' = .returned (.int .i64 (cntB b.blocks))/\Below w.heap.size w w':=
 (rcount_any' b bh w H).mono (by
   rintro e' w' ⟨⟨q,rfl,hq⟩,hb⟩;rw [fR] at hq
   exact ⟨by rw [hq.out (by omega)],hb⟩)
end
section
open Go Go.RowKit Go.Maps
def tgAny (bs:List Blk) (q:Int) (l:List Int):Bool:=l.any (fun t=>decide (0<=t/\t<(bs.length:Int)/\(stB bs t.toNat:Int)=q))
theorem xLE {bs:List Blk} {q:Int} {l:List Int}:tgAny bs q l=true↔q∈tgL bs l:=by
 rw [vA];simp only [tgAny,List.any_eq_true,decide_eq_true_eq];exact ⟨fun ⟨t,a,b,c,d⟩=>⟨t,a,b,c,d.symm⟩,fun ⟨t,a,b,c,d⟩=>⟨t,a,b,c,d.symm⟩⟩
theorem xLB (bs:List Blk) (q t:Int) (l:List Int):tgAny bs q (t :: l)=(decide (0<=t/\t<(bs.length:Int)/\(stB bs t.toNat:Int)=q) || tgAny bs q l):=rfl
theorem xMP (b:Bdy) (bh:BH) (p q:Int) (w:World) (H:BdAt w b bh) (hc:cntB b.blocks<=1000000000000) (hp : -9223372036854775808<=p/\p<=9223372036854775807):
 Calls Tryz.prog 54 #[.agg (bdC b bh).toArray,.int .i64 p,.int .i64 q] w fun e' w'=>∃r:Bool,e' = .returned (.bool r)/\(r=true↔folP b.blocks p q)/\Below w.heap.size w w':=by
 have HL:=aF (fun (W:World) (hb:Below w.heap.size w W)=>rE b bh p W (H.keep hb) hc hp);have HF:=aF (fun (W:World) (hb:Below w.heap.size w W) (k:Nat) hk=>zQ b bh k W (H.keep hb) hk hc);have HBLK:=aF H.blk;have hbl:=H.blk.le;have hbg:=H.blk.big;have HY:=aF (cQ w [Value.string b.name,.slice bh.A1 b.regions.length bh.c1,.slice bh.A2 b.outl.length bh.c2,.slice bh.A3 b.types.length bh.c3,.slice bh.A4 b.locals.length bh.c4,.int .i64 b.args,.slice bh.A5 b.blocks.length bh.c5] 28);have HC:=aF hc;clear H hc;unfold bdC at *;cases hloc:locB b.blocks p with
 | none=>
   have HN:Hid (¬folP b.blocks p q):=aF (fun ⟨_,_,_,h,_⟩=>by rw [hloc] at h;cases h);rw [hloc] at HL;unfold lcV at HL;clear hloc;go_enter Tryz.func54,Tryz.ntmps54
   go_wp2_with (go_at_call 35;refine (HL.out _ ((aX _ _).alloc (aY _) _)).mono ?_;rintro e' w1 ⟨rfl,hb1⟩)
   go_ret;exact ⟨false,rfl,by simp [HN.out],((aX _ _).alloc (aY _) _).trans (hb1.mono (by simp))⟩
 | some ik=>
   obtain ⟨i,k⟩:=ik;obtain ⟨x,hx,hk,hi⟩:=mI hloc;have hpx:p=(stB b.blocks i+k:Nat):=by obtain ⟨_,_,_,h⟩:=eD.1 hloc;exact h
   have HFOL:=aF (by have h:=xBP hx hk q;rw [<- hpx] at h;exact h);rw [hloc] at HL;unfold lcV at HL;obtain ⟨bb,oo,hA,hbb,hxx⟩:=HBLK.out.sl.at_ hi;obtain ⟨A1,c1,A2,c2,A3,c3,A4,c4,p0,p1,p2,p3,p4,p5,p6,hs1,hs2,-⟩:=eV hxx;rw [show b.blocks[i]=x from by rw [bD hi] at hx;injection hx] at p0 p1 p2 p3 p4 p5 p6 hs1 hs2;have HT:=aF hs2;have htl:=hs2.le;have htb:=hs2.big;have hlt:=jN hx;have hp12:p<1000000000000:=by have:=HC.out;omega
   have hp0:0<=p:=by omega
   rw [hA] at HL HF HY ⊢;clear hA hxx hs1 hs2 hloc hx hpx hlt;have hal:Below w.heap.size w (w.alloc (.cells ([Value.string b.name,.slice bh.A1 b.regions.length bh.c1,.slice bh.A2 b.outl.length bh.c2,.slice bh.A3 b.types.length bh.c3,.slice bh.A4 b.locals.length bh.c4,.int .i64 b.args,.slice (some ⟨bb,oo,none⟩) b.blocks.length bh.c5]).toArray 28)):=(aX _ _).alloc (aY _) _;have HAL:=aF hal;have HP0:=aF p0;have HP2:=aF p2;have hki:(i:Int)<(b.blocks.length:Int):=by omega
   clear p0 p1 p2 p3 p4 p5 p6;by_cases hks:k<x.stmts.length
   ·have HE:Hid (folP b.blocks p q↔q=p+1):=aF (by have h:=HFOL.out;rwa [bA hks] at h);have hks2:(k:Int)<(x.stmts.length:Int):=(by omega);clear HFOL HF HT;go_enter Tryz.func54,Tryz.ntmps54
    go_wp2_with (go_at_call 35;refine (HL.out _ hal).mono ?_;rintro e' w1 ⟨rfl,hb1⟩;have hbw:=HAL.out.trans (hb1.mono HAL.out.size);have y6:=cO hb1 (HY.out 6 _ rfl);have m0:=cO hbw HP0.out;have hl1:=hbw.size)
    go_ret;exact ⟨_,rfl,by rw [HE.out];simp,hbw⟩
   ·have HE:Hid (folP b.blocks p q↔tgAny b.blocks q x.term.targets=true):=aF (by have h:=HFOL.out;rw [aZ hks] at h;rw [h,xLE]);have hks2:¬(k:Int)<(x.stmts.length:Int):=(by omega);clear HFOL;go_enter Tryz.func54,Tryz.ntmps54
    go_wp2_with (go_at_call 35;refine (HL.out _ hal).mono ?_;rintro e' w1 ⟨rfl,hb1⟩;have hbw:=HAL.out.trans (hb1.mono HAL.out.size);have HYY:=aF (fun i v hi=>cO hb1 (HY.out i v hi));have y6:=HYY.out 6 _ rfl;have m0:=cO hbw HP0.out;have m2:=cO hbw HP2.out;have hl1:=hbw.size;have hlw:w.heap.size<w1.heap.size:=cD w1 _ y6)
    have HBW:=aF hbw;clear m0 m2 y6 hbw hb1 hal;go_loopw [11] (fun j wr=>∃m:Nat,j = .int .i64 m/\m<=x.term.targets.length/\Hid (aA ([Value.string b.name,.slice bh.A1 b.regions.length bh.c1,.slice bh.A2 b.outl.length bh.c2,.slice bh.A3 b.types.length bh.c3,.slice bh.A4 b.locals.length bh.c4,.int .i64 b.args,.slice (some ⟨bb,oo,none⟩) b.blocks.length bh.c5]) wr w.heap.size)/\Hid (Below w.heap.size w wr)/\w.heap.size<wr.heap.size/\Hid (tgAny b.blocks q x.term.targets=tgAny b.blocks q (x.term.targets.drop m))) (fun j _=>x.term.targets.length - (intOf j).toNat)
    case atStart=>exact ⟨0,rfl,by omega,HYY,HBW,hlw,aF rfl⟩
    case round=>
     clear HYY HBW;obtain ⟨m,rfl,hm,HYY,HBW,hlw2,hr⟩:=hrel;by_cases hlt:m<x.term.targets.length
     case neg=>
      have HN:Hid (tgAny b.blocks q x.term.targets=false):=aF (by rw [hr.out,bE (by omega)];rfl);go_wp2_with fail
      go_ret;exact ⟨false,rfl,by rw [HE.out,HN.out],HBW.out⟩
     case pos=>
     obtain ⟨tb,to_,hTA,htb2,ht0⟩:=(HT.out.keep RInt.keeps HBW.out).sl.at_ hlt;have t0:wr.cell? ⟨tb,to_+m,none⟩=some (.int .i64 x.term.targets[m]):=(by simpa [RInt] using ht0);have HD:Hid (tgAny b.blocks q x.term.targets=(decide (0<=x.term.targets[m]/\x.term.targets[m]<(b.blocks.length:Int)/\(stB b.blocks x.term.targets[m].toNat:Int)=q) || tgAny b.blocks q (x.term.targets.drop (m+1)))):=aF (by rw [hr.out,cV hlt,xLB]);generalize x.term.targets[m]=t at *;rw [hTA];have HTA:=aF hTA;clear ht0 hTA hr;go_wp2_with fail
     have hS:(aA ([Value.string b.name,.slice bh.A1 b.regions.length bh.c1,.slice bh.A2 b.outl.length bh.c2,.slice bh.A3 b.types.length bh.c3,.slice bh.A4 b.locals.length bh.c4,.int .i64 b.args,.slice (some ⟨bb,oo,none⟩) b.blocks.length bh.c5]) wr.drew w.heap.size)/\wr.drew.cell? ⟨tb,to_+m,none⟩=some (.int .i64 t):=⟨HYY.out,t0⟩;refine cT (S:=fun X=>(aA ([Value.string b.name,.slice bh.A1 b.regions.length bh.c1,.slice bh.A2 b.outl.length bh.c2,.slice bh.A3 b.types.length bh.c3,.slice bh.A4 b.locals.length bh.c4,.int .i64 b.args,.slice (some ⟨bb,oo,none⟩) b.blocks.length bh.c5]) X w.heap.size)/\X.cell? ⟨tb,to_+m,none⟩=some (.int .i64 t)) [0,1,2,3,4,5,6,7,8,9,10,11,12,13,14,15,16,17,18,19,20,22,21,23,24] (by kernel_rfl) ?_;by_cases h1:0<=t
     case neg=>
      have HE2:Hid (tgAny b.blocks q x.term.targets=tgAny b.blocks q (x.term.targets.drop (m+1))):=aF (by rw [HD.out,decide_eq_false (fun h=>h1 h.1)];rfl);(iterate 6 (refine cR (v:=?_) ?_ hS ?_;rotate_left;(next=>(rintro X ⟨hX,hY⟩;(try simp only [aI]);go_simp;rfl));simp only [aM]));(iterate 8 (refine dA (v:=undef) (by kernel_rfl) (fun _ _ _ h=>h) (Or.inr ⟨by rfl,rfl⟩) hS ?_;simp only [aM]));(iterate 2 (refine cR (v:=?_) ?_ hS ?_;rotate_left;(next=>(rintro X ⟨hX,hY⟩;(try simp only [aI]);go_simp;rfl));simp only [aM]));(iterate 8 (refine dA (v:=undef) (by kernel_rfl) (fun _ _ _ h=>h) (Or.inr ⟨by rfl,rfl⟩) hS ?_;simp only [aM]));((refine cR (v:=?_) ?_ hS ?_;rotate_left;(next=>(rintro X ⟨hX,hY⟩;(try simp only [aI]);go_simp;rfl));simp only [aM]))
      refine cZ ?_;go_wp2_with fail
      go_roundw
      case rel=>exact ⟨m+1,by go_num,by omega,HYY,aF HBW.out.drew,hlw2,HE2⟩
      case measure=>simp [intOf];omega
     case pos=>
     by_cases h2:t<(b.blocks.length:Int)
     case neg=>
      have HE2:Hid (tgAny b.blocks q x.term.targets=tgAny b.blocks q (x.term.targets.drop (m+1))):=aF (by rw [HD.out,decide_eq_false (fun h=>h2 h.2.1)];rfl);(iterate 16 (refine cR (v:=?_) ?_ hS ?_;rotate_left;(next=>(rintro X ⟨hX,hY⟩;have s6:=hX 6 _ rfl;(try simp only [aI]);go_simp;rfl));simp only [aM]));(iterate 8 (refine dA (v:=undef) (by kernel_rfl) (fun _ _ _ h=>h) (Or.inr ⟨by rfl,rfl⟩) hS ?_;simp only [aM]));((refine cR (v:=?_) ?_ hS ?_;rotate_left;(next=>(rintro X ⟨hX,hY⟩;(try simp only [aI]);go_simp;rfl));simp only [aM]))
      refine cZ ?_;go_wp2_with fail
      go_roundw
      case rel=>exact ⟨m+1,by go_num,by omega,HYY,aF HBW.out.drew,hlw2,HE2⟩
      case measure=>simp [intOf];omega
     case pos=>
     obtain ⟨j,rfl⟩:=bG h1;have hj:j<=b.blocks.length:=(by omega);(iterate 22 (refine cR (v:=?_) ?_ hS ?_;rotate_left;(next=>(rintro X ⟨hX,hY⟩;obtain ⟨s0,s1,s2,s3,s4,s5,s6⟩:=aS hX;(try simp only [aI]);go_simp;rfl));simp only [aM]));(refine cY (fun K1 hK1=>?_);simp only [aM];rw [bA (by rfl)];go_simp);have HS:=aF hS;go_at_call 22
     refine (HF.out wr.drew HBW.out.drew j hj).mono ?_;rintro e' w3 ⟨rfl,hb3⟩;have hS2:(aA ([Value.string b.name,.slice bh.A1 b.regions.length bh.c1,.slice bh.A2 b.outl.length bh.c2,.slice bh.A3 b.types.length bh.c3,.slice bh.A4 b.locals.length bh.c4,.int .i64 b.args,.slice (some ⟨bb,oo,none⟩) b.blocks.length bh.c5]) w3 w.heap.size)/\w3.cell? ⟨tb,to_+m,none⟩=some (.int .i64 (j:Int)):=⟨fun i v hi=>cO hb3 (HS.out.1 i v hi),cO hb3 HS.out.2⟩;have HS2:=aF hS2.1;have HB3:=aF (HBW.out.drew.trans (hb3.mono HBW.out.size));have hl3:w.heap.size<w3.heap.size:=bN hlw2 hb3.size;refine hK1.out _ _ (fun _=>hS2) ?_;have hS:=hS2;by_cases h3:(stB b.blocks j:Int)=q
     ·have HE2:Hid (tgAny b.blocks q x.term.targets=true):=aF (by rw [HD.out,decide_eq_true (by rw [bV];exact ⟨h1,h2,h3⟩)];rfl);have h4:((stB b.blocks j:Int) == q)=true:=by simp [h3]
      (iterate 2 (refine cR (v:=?_) ?_ hS ?_;rotate_left;(next=>(rintro X ⟨hX,hY⟩;(try simp only [aI]);go_simp;rfl));simp only [aM]));refine cZ ?_;go_wp2_with fail
      go_ret;exact ⟨true,rfl,by rw [HE.out,HE2.out],HB3.out⟩
     ·have HE2:Hid (tgAny b.blocks q x.term.targets=tgAny b.blocks q (x.term.targets.drop (m+1))):=aF (by rw [HD.out,decide_eq_false (fun h=>h3 (by have:=h.2.2;rwa [bV] at this))];rfl);have h4:((stB b.blocks j:Int) == q)=false:=by simp [h3]
      (iterate 2 (refine cR (v:=?_) ?_ hS ?_;rotate_left;(next=>(rintro X ⟨hX,hY⟩;(try simp only [aI]);go_simp;rfl));simp only [aM]));refine cZ ?_;go_wp2_with fail
      go_roundw
      case rel=>exact ⟨m+1,by go_num,by omega,HS2,HB3,hl3,HE2⟩
      case measure=>simp [intOf];omega
theorem xLQ {w:World} {base:Nat} {e:TypeId} {size n m c:Nat} {A:Option Addr} {xs:List Value} (h:w.ownsRow base e size (.slice A m c) n xs):A=none->c=0:=fun e=>by
 subst e;rcases h.2 with ⟨h,_⟩ | ⟨g,cap,cur,h,_⟩
 ·injection h
 ·cases h
theorem xLJ (b:Bdy) (bh:BH) (p:Int) (w:World) (H:BdAt w b bh) (hc:cntB b.blocks<=1000000000000) (hp : -9223372036854775808<=p/\p<=9223372036854775807):
 Calls Tryz.prog 23 #[.agg (bdC b bh).toArray,.int .i64 p] w fun e' w'=>∃A c s,e' = .returned (.slice A s.length c)/\Srt s (folP b.blocks p)/\Slc 1 RInt w' A c s/\(∀a,A=some a->w.heap.size<=a.block)/\(A=none->c=0)/\Below w.heap.size w w':=by
 have HN:=aF (fun (W:World) (hb:Below w.heap.size w W)=>xKN b bh W (H.keep hb) hc);have HF:=aF (fun (W:World) (hb:Below w.heap.size w W) (q:Int)=>xMP b bh p q W (H.keep hb) hc hp);have HY:=aF (cQ w [Value.string b.name,.slice bh.A1 b.regions.length bh.c1,.slice bh.A2 b.outl.length bh.c2,.slice bh.A3 b.types.length bh.c3,.slice bh.A4 b.locals.length bh.c4,.int .i64 b.args,.slice bh.A5 b.blocks.length bh.c5] 28);obtain ⟨i0,hi0,hz0,hz1,hz2⟩:=info_parts dU;clear H;unfold bdC at *;have HLT:=aF (fun z (h:folP b.blocks p z)=>(fX h).2.2);generalize hcn:cntB b.blocks=cn at *;generalize folP b.blocks p=P at *;clear hcn;go_enter Tryz.func23,Tryz.ntmps23
 go_wp2_with fail
 go_loopw [5,6] (fun v q wr=>∃(m:Nat) (s:List Int),q = .int .i64 m/\m<=cn/\Hid (wr.ownsRow (w.heap.size+1) 3 1 v s.length (s.map (Value.int .i64)))/\Hid (Srt s (fun z=>P z/\0<=z/\z<(m:Int)))/\Hid (aA (bdH b bh []) wr w.heap.size)/\Hid (Below w.heap.size w wr)/\w.heap.size<wr.heap.size) (fun _ q _=>cn - (intOf q).toNat)
 case atStart=>exact ⟨0,[],rfl,by omega,aF (World.ownsRow_nil _ _ _ _),aF Srt.zero,HY,aF ((aX _ _).alloc (aY _) _),by simp⟩
 case round=>
  clear HY;obtain ⟨m,s,rfl,hm,HO,HS,HX,HB,hlw⟩:=hrel;have hsl:=HS.out.len (n:=m) (fun z hz=>hz.2);obtain ⟨y0,y1,y2,y3,y4,y5,y6⟩:=aS HX.out;by_cases hlt:m<cn
  case neg=>
   have hme:m=cn:=by omega
   subst hme;have HF2:Hid (Srt s P):=aF (HS.out.iff fun z=>⟨fun h=>h.1,fun h=>⟨h,HLT.out z h⟩⟩);obtain ⟨A,c,rfl,hs1,hlo⟩:=fD (R:=RInt) (fun _ _ _ _ _ h=>h) HO.out rfl;have HS1:=aF hs1;have HLO:=aF hlo;have HC0:=aF (xLQ HO.out);clear hs1 hlo;go_wp2_with (go_at_call 17;refine (HN.out _ HB.out).mono ?_;rintro e' w3 ⟨rfl,hb3⟩)
   go_ret;exact ⟨A,c,s,rfl,HF2.out,HS1.out.keep RInt.keeps hb3,fun a h=>(by have:=(HLO.out a h).1;omega),HC0.out,HB.out.trans (hb3.mono HB.out.size)⟩
  case pos=>
  obtain ⟨VA,vc,rfl⟩:=dE HO.out
  go_wp2_with (first
   | (go_at_call 17;refine (HN.out _ HB.out).mono ?_;rintro e' w3 ⟨rfl,hb3⟩;have HB3:=aF (HB.out.trans (hb3.mono HB.out.size));have HX3:=aF (fun i v hi=>cO hb3 (HX.out i v hi));have HO3:=aF (dG HO.out hb3);have hl3:=hb3.size;clear y0 y1 y2 y3 y4 y5 y6 hb3;have y0:=HX3.out 0 _ rfl;have y1:=HX3.out 1 _ rfl;have y2:=HX3.out 2 _ rfl;have y3:=HX3.out 3 _ rfl;have y4:=HX3.out 4 _ rfl;have y5:=HX3.out 5 _ rfl;have y6:=HX3.out 6 _ rfl)
   | (go_at_call 54;refine (HF.out _ HB3.out m).mono ?_;rintro e' w4 ⟨r,rfl,hr,hb4⟩;have HR:=aF hr;have HB4:=aF (HB3.out.trans (hb4.mono HB3.out.size));have HX4:=aF (fun i v hi=>cO hb4 (HX3.out i v hi));have HO4:=aF (dG HO3.out hb4);have hl4:=hb4.size;clear y0 y1 y2 y3 y4 y5 y6 hb4 hr;cases r)
   | (at_builtin;refine wpList_append_own _ rfl _ _ 34 rfl (w.heap.size+1) 3 i0 (.int .i64 0) 1 8 Tryz.underlying34 hi0 hz0 hz1 hz2 rfl (by decide) _ _ _ rfl (HO4.out.alloc (.cells #[.int .i64 (m:Int)] 3)) ⟨w4.heap.size,0,none⟩ 1 1 [.int .i64 (m:Int)] rfl rfl (cell_one_new _ _ _) (fun u hu=>by simp at hu;subst hu;rfl) (by unfold maxLen;omega) (by omega) (by simp;omega) ?_;intro v' w5 hown' hgrow _))
  ·have HS2:=aF (HS.out.skip_ (fun h=>by have:=HR.out.2 h;cases this));go_roundw
   case rel=>exact ⟨m+1,s,by go_num,by omega,HO4,HS2,HX4,HB4,by omega⟩
   case measure=>simp [intOf];omega
  ·have HS2:=aF (HS.out.take_ (by omega) (HR.out.1 (by simp)));have hlo:=fun g hg=>((HO4.out.alloc (.cells #[.int .i64 (m:Int)] 3)).lt g hg).1
   have HB5:=aF (((HB4.out.alloc HB4.out.size (.cells #[.int .i64 (m:Int)] 3)).grown hgrow (by have:=HB4.out.size;simp;omega) (fun g hg=>by have:=hlo g hg;omega)));have hx5:Hid (aA (bdH b bh []) w5 w.heap.size):=aF (fun i v hi=>(World.cell?_of_block (a:=⟨w.heap.size,i,none⟩) (hgrow.block w.heap.size (by simp;omega) (dV (HO4.out.alloc (.cells #[.int .i64 (m:Int)] 3)) (by omega)))).trans (cO ((aX _ _).alloc (aY _) (.cells #[.int .i64 (m:Int)] 3)) (HX4.out i v hi)));go_roundw
   case rel=>exact ⟨m+1,s ++ [(m:Int)],by go_num,by omega,aF (by rw [bB,bS];exact hown'),HS2,hx5,HB5,by have:=hgrow.size;simp at this;omega⟩
   case measure=>simp [intOf];omega
end
section
open Go Go.RowKit
theorem lv_in {b:Bdy} (h:chkB b=0) {p x:Int} (hl:Lv b.blocks x p):LocIn b x:=by
 obtain ⟨q,hq⟩:=hl.used;exact xEG h hq
end
section
open Go Go.RowKit Go.Maps
theorem xIW {w:World} {a:Addr} {c:Nat} {s:List Int} (h:Slc 1 RInt w (some a) c s):∀j u,(s.map (Value.int .i64))[j]?=some u->w.cell? (a.add j)=some u:=fun j u hu=>by
 rw [cN] at hu;cases hx:s[j]? with
 | none=>rw [hx] at hu;cases hu
 | some x=>
   rw [hx] at hu;injection hu with hu
   subst hu;have hl:=(List.getElem?_eq_some_iff.1 hx).1;obtain ⟨b,off,hA,_,hall⟩:=h.sl (by omega);injection hA with hA
   subst hA;have:=hall j x hx;unfold RInt at this;rw [Nat.mul_one] at this;rw [<- this];congr 1
   unfold Addr.add;split <;> simp_all
theorem xKC {w:World} {c:Nat} {s:List Int} (h:Slc 1 RInt w none c s):s=[]:=by
 cases s with
 | nil=>rfl
 | cons x r=>obtain ⟨_,_,hA,_⟩:=h.sl (by simp);cases hA
theorem xMI {bs:List Blk} {x p:Int} {l sl:List Int} {i:Nat} (h:Lf bs x p l sl i) (hl:l.length<=1+sl.length * cntB bs):l.length<=1+cntB bs * cntB bs:=by
 have:=Nat.mul_le_mul_right (cntB bs) h.len;omega
theorem xMO (xs:List Int) (z:Int):z∈insL [] xs↔z∈xs:=by
 have:=(rW srt_nil xs).2 z;rw [this];simp
theorem xLT {b:Bdy} {bh:BH} {w w1:World} {cn:Nat} (p:Int) (h:∀i u,[Value.string b.name,.slice bh.A1 b.regions.length bh.c1,.slice bh.A2 b.outl.length bh.c2,.slice bh.A3 b.types.length bh.c3,.slice bh.A4 b.locals.length bh.c4,.int .i64 b.args,.slice bh.A5 b.blocks.length bh.c5][i]?=some u->w1.cell? ⟨w.heap.size,i,none⟩=some u) (hb:Below w.heap.size w w1) (hw:w.heap.size<w1.heap.size):
 LvW b bh w w1.heap.size cn [p] [] (.slice (some ⟨w1.heap.size+1,0,none⟩) 1 1) ((w1.alloc (.cells (rowA cn (fun _=> .bool false)) 4)).alloc (.cells #[.int .i64 p] 3)):=by
 have ha:Below w1.heap.size w1 (w1.alloc (.cells (rowA cn (fun _=> .bool false)) 4)):=(aX _ _).alloc (aY _) _;have hr:RowF (w1.alloc (.cells (rowA cn (fun _=> .bool false)) 4)) w1.heap.size cn 4 (fun _=> .bool false):=RowF.new w1 cn _ _;have hz:(w1.alloc (.cells (rowA cn (fun _=> .bool false)) 4)).heap.size=w1.heap.size+1:=by simp
 generalize w1.alloc (.cells (rowA cn (fun _=> .bool false)) 4)=w2 at *;have ha2:Below w2.heap.size w2 (w2.alloc (.cells #[.int .i64 p] 3)):=(aX _ _).alloc (aY _) _;refine ⟨fun i u hi=>cO ha2 (cO ha (h i u hi)),⟨rfl,.inr ⟨w1.heap.size+1,1,#[.int .i64 p],rfl,aY _,by rw [<- hz];exact heap_alloc_new w2 _,by simp,by decide,rfl,rfl⟩⟩,(hr.block (ha2.block _ hr.lt)).congr (fun k _=>by unfold sF;simp),hb.trans ((ha.trans (ha2.mono (by omega))).mono hb.size),hw⟩
theorem xLZ:(Tryz.prog.info? 4).map (fun i=>(i.zero,i.size,i.bytes))=some (some (.bool false),1,1):=by kernel_rfl
theorem xLK (b:Bdy) (bh:BH) (x p:Int) (w:World) (H:BdAt w b bh) (hc:cntB b.blocks<=1000000) (hp:0<=p/\p<(cntB b.blocks:Int)) (hu:∀p,∀z∈usP b.blocks p,0<=z/\z<((1000000:Nat):Int)):
 Calls Tryz.prog 56 #[.agg (bdC b bh).toArray,.int .i64 x,.int .i64 p] w fun e' w'=>∃r:Bool,e' = .returned (.bool r)/\(r=true↔Lv b.blocks x p)/\Below w.heap.size w w':=by
 have HC:=aF (fun (W:World) (hb:Below w.heap.size w W)=>xKN b bh W (H.keep hb) (by omega));have HU:=aF (fun (W:World) (hb:Below w.heap.size w W) (q:Int) hq=>zL b bh q W (H.keep hb) (by omega) hq (hu q));have HD:=aF (fun (W:World) (hb:Below w.heap.size w W) (q:Int) hq=>zT b bh q W (H.keep hb) (by omega) hq);have HN:=aF (fun (W:World) (hb:Below w.heap.size w W) (q:Int) hq=>xLJ b bh q W (H.keep hb) (by omega) hq);have HY:=aF (cQ w [Value.string b.name,.slice bh.A1 b.regions.length bh.c1,.slice bh.A2 b.outl.length bh.c2,.slice bh.A3 b.types.length bh.c3,.slice bh.A4 b.locals.length bh.c4,.int .i64 b.args,.slice bh.A5 b.blocks.length bh.c5] 28);obtain ⟨i0,hi0,hz0,hz1,hz2⟩:=info_parts dU;have LF0:=aF (Lf.start (x:=x) hp.1 hp.2);clear H hu;unfold bdC at *;have HCN:Hid (cntB b.blocks=cntB b.blocks):=aF rfl;obtain ⟨cn,hcn⟩:∃cn,cntB b.blocks=cn:=⟨_,rfl⟩;have HCE:=aF hcn;rw [hcn] at hp hc;rw [hcn] at HC;have hcm:cn * cn<=1000000000000:=by have:=Nat.mul_le_mul hc hc;omega
 obtain ⟨M,hM⟩:∃M,1+cn * cn=M:=⟨_,rfl⟩;have hMl:M<=1000000000001:=by omega
 have HM:=aF hM;clear hcn hM hcm HCN
 have hmk:∀W:World,(Instr.makeSlice 138 (.int .i64 (cn:Int)) (.int .i64 (cn:Int))).run Tryz.prog W = .ok (.slice (some ⟨W.heap.size,0,none⟩) cn cn) (W.alloc (.cells (rowA cn (fun _=> .bool false)) 4)):=by
  intro W;obtain ⟨ib,hib,hbz,hbs,hby⟩:=info_parts xLZ;have:=gH (P:=Tryz.prog) W 138 4 ib (.bool false) #[.bool false] 1 Tryz.underlying138 hib hbz rfl hbs cn (by rw [hby];omega) (by omega);rw [this,Nat.mul_one];congr 4
  funext j
  simp [Nat.mod_one]
 go_enter Tryz.func56,Tryz.ntmps56
 go_wp2_with (go_at_call 17;refine (HC.out _ ((aX _ _).alloc (aY _) _)).mono ?_;rintro e' w1 ⟨rfl,hb1⟩)
 have HB0:=aF (((aX w.heap.size w).alloc (aY _) (.cells ([Value.string b.name,.slice bh.A1 b.regions.length bh.c1,.slice bh.A2 b.outl.length bh.c2,.slice bh.A3 b.types.length bh.c3,.slice bh.A4 b.locals.length bh.c4,.int .i64 b.args,.slice bh.A5 b.blocks.length bh.c5]).toArray 28)).trans (hb1.mono (by simp)));have hw1:w.heap.size<w1.heap.size:=by have:=hb1.size;simp at this;omega
 have HS0:Hid (LvW b bh w w1.heap.size cn [p] [] (.slice (some ⟨w1.heap.size+1,0,none⟩) 1 1) ((w1.alloc (.cells (rowA cn (fun _=> .bool false)) 4)).alloc (.cells #[.int .i64 p] 3))):=aF (xLT p (fun i v hi=>cO hb1 (HY.out i v hi)) HB0.out hw1);clear hb1;go_loopw [8,9,10,11,12] (fun v q _ _ _ wr=>∃(i:Nat) (l sl:List Int),q = .int .i64 i/\l.length<=M/\Hid (Lf b.blocks x p l sl i)/\Hid (l.length<=1+sl.length * cn)/\Hid (LvW b bh w w1.heap.size cn l sl v wr)/\i<=M) (fun _ q _ _ _ _=>M - (intOf q).toNat)
 case atStart=>exact ⟨0,[p],[],rfl,(by have:=HM.out;simp;omega),LF0,aF (by simp),HS0,by omega⟩
 case round=>
  clear HS0;obtain ⟨i,l,sl,rfl,hlM,HL,HLN,HS,hiM⟩:=hrel;obtain ⟨A,c,rfl,hs1,hlo⟩:=fD (R:=RInt) (fun _ _ _ _ _ h=>h) HS.out.own rfl;have hlB:=HS.out.row.lt;have hwB:=HS.out.lt;have HLO:=aF hlo;clear hlo;by_cases hlt:i<l.length
  case neg=>
   have HE:=aF (HL.out.done (by omega));clear hs1;go_wp2_with fail
   go_ret;exact ⟨false,rfl,by simp [HE.out],HS.out.low⟩
  case pos=>
  obtain ⟨lb,lo,hLA,hlb,hl0⟩:=hs1.sl.at_ hlt;have t0:wr.cell? ⟨lb,lo+i,none⟩=some (.int .i64 l[i]):=by simpa [RInt] using hl0
  have hli:l[i]?=some l[i]:=bD hlt;have HLI:=aF hli;have hrg:=HL.out.rng l[i] (List.mem_of_getElem? hli);rw [HCE.out] at hrg;clear hs1 hl0 hli;generalize l[i]=q at *;obtain ⟨j,rfl⟩:=bG hrg.1;have hj:j<cn:=by omega
  have hsc:wr.cell? ⟨w1.heap.size,j,none⟩=some (.bool (decide ((j:Int)∈sl))):=HS.out.row.cell hj;have hsf:wr.frozen? ⟨w1.heap.size,j,none⟩=false:=HS.out.row.frozen j;rw [hLA];rw [hLA] at HS;by_cases hs:(j:Int)∈sl
  ·rw [decide_eq_true hs] at hsc;have HL2:=aF (HL.out.known HLI.out hs);go_wp2_with fail
   go_roundw
   case rel=>exact ⟨i+1,l,sl,by go_num,hlM,HL2,HLN,HS,by omega⟩
   case measure=>simp [intOf];omega
  ·rw [decide_eq_false hs] at hsc;have HS2:=aF (HS.out.mark j);have y0:=HS.out.box 0 _ rfl;have y1:=HS.out.box 1 _ rfl;have y2:=HS.out.box 2 _ rfl;have y3:=HS.out.box 3 _ rfl;have y4:=HS.out.box 4 _ rfl;have y5:=HS.out.box 5 _ rfl;have y6:=HS.out.box 6 _ rfl;have HDJ:=aF (fun W hb=>HD.out W hb (j:Int) (by omega));have HIN:=aF (xMO (usP b.blocks (j:Int)) x);have HUJ:=aF (fun W hb=>HU.out W hb (j:Int) (by omega));have HNJ:=aF (fun W hb=>HN.out W hb (j:Int) (by omega));have HFL:=aF (fun z (hz:folP b.blocks (j:Int) z)=>by have:=fX hz;rw [HCE.out] at this;exact this);have HMO:=aF (fun (h1:x∉usP b.blocks (j:Int)) (h2:dfP b.blocks (j:Int)≠some x) nx hn=>HL.out.more (nx:=nx) HLI.out hs h1 h2 hn);have HST:=aF (fun (h1:x∉usP b.blocks (j:Int)) (h2:dfP b.blocks (j:Int)=some x)=>HL.out.stop HLI.out hs h1 h2);have HFO:=aF (fun (h1:x∈usP b.blocks (j:Int))=>HL.out.found HLI.out h1);clear HD HU HN;by_cases hux:x∈usP b.blocks (j:Int)
   ·have hdu:decide (x∈insL [] (usP b.blocks (j:Int)))=true:=decide_eq_true (HIN.out.2 hux);go_wp2_with (first | (go_at_call 15;refine (HUJ.out _ HS2.out.low).mono ?_;rintro e' w3 ⟨A3,c3,rfl,hs3,hb3⟩;have HS3:=aF (HS2.out.keep hb3);have H3:=aF hs3;have hl3:=HS3.out.row.lt;clear hb3 hs3 hsc hsf t0;clear y0 y1 y2 y3 y4 y5 y6;have y0:=HS3.out.box 0 _ rfl;have y1:=HS3.out.box 1 _ rfl;have y2:=HS3.out.box 2 _ rfl;have y3:=HS3.out.box 3 _ rfl;have y4:=HS3.out.box 4 _ rfl;have y5:=HS3.out.box 5 _ rfl;have y6:=HS3.out.box 6 _ rfl) | (go_at_call 57;refine (zP _ x A3 c3 _ H3.out).mono ?_;rintro e' w4 ⟨rfl,rfl⟩))
    go_ret;exact ⟨true,rfl,by simp [HFO.out hux],HS3.out.low⟩
   ·have hdu:decide (x∈insL [] (usP b.blocks (j:Int)))=false:=decide_eq_false (fun h=>hux (HIN.out.1 h));by_cases hdx:dfP b.blocks (j:Int)=some x
    ·rw [hdx] at HDJ;unfold dfV at HDJ;have HL2:=aF (HST.out hux hdx);go_wp2_with (first | (go_at_call 15;refine (HUJ.out _ HS2.out.low).mono ?_;rintro e' w3 ⟨A3,c3,rfl,hs3,hb3⟩;have HS3:=aF (HS2.out.keep hb3);have H3:=aF hs3;have hl3:=HS3.out.row.lt;clear hb3 hs3 hsc hsf t0;clear y0 y1 y2 y3 y4 y5 y6;have y0:=HS3.out.box 0 _ rfl;have y1:=HS3.out.box 1 _ rfl;have y2:=HS3.out.box 2 _ rfl;have y3:=HS3.out.box 3 _ rfl;have y4:=HS3.out.box 4 _ rfl;have y5:=HS3.out.box 5 _ rfl;have y6:=HS3.out.box 6 _ rfl) | (go_at_call 57;refine (zP _ x A3 c3 _ H3.out).mono ?_;rintro e' w4 ⟨rfl,rfl⟩) | (go_at_call 12;refine (HDJ.out _ HS3.out.low).mono ?_;rintro e' w5 ⟨rfl,hb5⟩;have HS5:=aF (HS3.out.keep hb5);have hl5:=HS5.out.row.lt;clear hb5;clear y0 y1 y2 y3 y4 y5 y6;have y0:=HS5.out.box 0 _ rfl;have y1:=HS5.out.box 1 _ rfl;have y2:=HS5.out.box 2 _ rfl;have y3:=HS5.out.box 3 _ rfl;have y4:=HS5.out.box 4 _ rfl;have y5:=HS5.out.box 5 _ rfl;have y6:=HS5.out.box 6 _ rfl))
     go_roundw
     case rel=>exact ⟨i+1,l,(j:Int) :: sl,by go_num,hlM,HL2,aF (by have:=HLN.out;simp only [bK];rw [Nat.succ_mul];omega),HS5,by omega⟩
     case measure=>simp [intOf];omega
    ·cases hd:dfP b.blocks (j:Int) with
     | none=>
       rw [hd] at HDJ;unfold dfV at HDJ;go_wp2_with (first | (go_at_call 15;refine (HUJ.out _ HS2.out.low).mono ?_;rintro e' w3 ⟨A3,c3,rfl,hs3,hb3⟩;have HS3:=aF (HS2.out.keep hb3);have H3:=aF hs3;have hl3:=HS3.out.row.lt;clear hb3 hs3 hsc hsf t0;clear y0 y1 y2 y3 y4 y5 y6;have y0:=HS3.out.box 0 _ rfl;have y1:=HS3.out.box 1 _ rfl;have y2:=HS3.out.box 2 _ rfl;have y3:=HS3.out.box 3 _ rfl;have y4:=HS3.out.box 4 _ rfl;have y5:=HS3.out.box 5 _ rfl;have y6:=HS3.out.box 6 _ rfl) | (go_at_call 57;refine (zP _ x A3 c3 _ H3.out).mono ?_;rintro e' w4 ⟨rfl,rfl⟩) | (go_at_call 12;refine (HDJ.out _ HS3.out.low).mono ?_;rintro e' w5 ⟨rfl,hb5⟩;have HS5:=aF (HS3.out.keep hb5);have hl5:=HS5.out.row.lt;clear hb5;clear y0 y1 y2 y3 y4 y5 y6;have y0:=HS5.out.box 0 _ rfl;have y1:=HS5.out.box 1 _ rfl;have y2:=HS5.out.box 2 _ rfl;have y3:=HS5.out.box 3 _ rfl;have y4:=HS5.out.box 4 _ rfl;have y5:=HS5.out.box 5 _ rfl;have y6:=HS5.out.box 6 _ rfl) | (go_at_call 23;refine (HNJ.out _ HS5.out.low).mono ?_;rintro e' w6 ⟨A6,c6,s6,rfl,hsr,hs6,-,hc6,hb6⟩;have HS6:=aF (HS5.out.keep hb6);have hl6:=HS6.out.row.lt;have hn6:s6.length<=cn:=(hsr.len fun z hz=>⟨(HFL.out z hz).2.2.1,(HFL.out z hz).2.2.2⟩);have HR6:=aF hsr;have H6:=aF hs6;have HC6:=aF hc6;clear hb6 hs6 hsr hc6;clear y0 y1 y2 y3 y4 y5 y6;rcases A6 with _ | a6;obtain ⟨rfl,rfl⟩:s6=[]/\c6=0:=⟨xKC H6.out,HC6.out rfl⟩) | (at_builtin;refine wpList_append_own_none rfl _ _ 34 rfl (w1.heap.size+1) 3 i0 1 Tryz.underlying34 hi0 _ _ _ rfl HS6.out.own rfl ?_) | (at_builtin;refine wpList_append_own _ rfl _ _ 34 rfl (w1.heap.size+1) 3 i0 (.int .i64 0) 1 8 Tryz.underlying34 hi0 hz0 hz1 hz2 rfl (by decide) _ _ _ rfl (HS6.out.own) a6 s6.length c6 (s6.map (Value.int .i64)) rfl (by simp) (xIW H6.out) (fun u hu=>by rw [xIL] at hu;obtain ⟨z,_,rfl⟩:=hu;rfl) (by unfold maxLen;omega) (by omega) (by omega) ?_;intro v7 w7 hown7 hgrow7 _))
       ·go_roundw
        case rel=>exact ⟨i+1,l,(j:Int) :: sl,by go_num,hlM,aF (by have:=HMO.out hux (by rw [hd];simp) [] HR6.out.2;rwa [List.append_nil] at this),aF (by have:=HLN.out;simp only [bK];rw [Nat.succ_mul];omega),HS6,by omega⟩
        case measure=>simp [intOf];omega
       ·have HL2:=aF (HMO.out hux (by rw [hd];simp) s6 HR6.out.2);have HLN2:Hid ((l ++ s6).length<=1+((j:Int) :: sl).length * cn):=aF (by have:=HLN.out;simp only [bK,bB];rw [Nat.succ_mul];omega);have HS7:=aF (HS6.out.grow hgrow7 hown7);go_roundw
        case rel=>exact ⟨i+1,l ++ s6,(j:Int) :: sl,by go_num,by rw [<- HM.out,<- HCE.out];exact xMI HL2.out (by rw [HCE.out];exact HLN2.out),HL2,HLN2,HS7,by omega⟩
        case measure=>simp [intOf];omega
     | some d=>
       have hdn:d≠x:=fun e=>hdx (by rw [hd,e])
       have hdb:(d == x)=false:=by simp [hdn]
       rw [hd] at HDJ;unfold dfV at HDJ;go_wp2_with (first | (go_at_call 15;refine (HUJ.out _ HS2.out.low).mono ?_;rintro e' w3 ⟨A3,c3,rfl,hs3,hb3⟩;have HS3:=aF (HS2.out.keep hb3);have H3:=aF hs3;have hl3:=HS3.out.row.lt;clear hb3 hs3 hsc hsf t0;clear y0 y1 y2 y3 y4 y5 y6;have y0:=HS3.out.box 0 _ rfl;have y1:=HS3.out.box 1 _ rfl;have y2:=HS3.out.box 2 _ rfl;have y3:=HS3.out.box 3 _ rfl;have y4:=HS3.out.box 4 _ rfl;have y5:=HS3.out.box 5 _ rfl;have y6:=HS3.out.box 6 _ rfl) | (go_at_call 57;refine (zP _ x A3 c3 _ H3.out).mono ?_;rintro e' w4 ⟨rfl,rfl⟩) | (go_at_call 12;refine (HDJ.out _ HS3.out.low).mono ?_;rintro e' w5 ⟨rfl,hb5⟩;have HS5:=aF (HS3.out.keep hb5);have hl5:=HS5.out.row.lt;clear hb5;clear y0 y1 y2 y3 y4 y5 y6;have y0:=HS5.out.box 0 _ rfl;have y1:=HS5.out.box 1 _ rfl;have y2:=HS5.out.box 2 _ rfl;have y3:=HS5.out.box 3 _ rfl;have y4:=HS5.out.box 4 _ rfl;have y5:=HS5.out.box 5 _ rfl;have y6:=HS5.out.box 6 _ rfl) | (go_at_call 23;refine (HNJ.out _ HS5.out.low).mono ?_;rintro e' w6 ⟨A6,c6,s6,rfl,hsr,hs6,-,hc6,hb6⟩;have HS6:=aF (HS5.out.keep hb6);have hl6:=HS6.out.row.lt;have hn6:s6.length<=cn:=(hsr.len fun z hz=>⟨(HFL.out z hz).2.2.1,(HFL.out z hz).2.2.2⟩);have HR6:=aF hsr;have H6:=aF hs6;have HC6:=aF hc6;clear hb6 hs6 hsr hc6;clear y0 y1 y2 y3 y4 y5 y6;rcases A6 with _ | a6;obtain ⟨rfl,rfl⟩:s6=[]/\c6=0:=⟨xKC H6.out,HC6.out rfl⟩) | (at_builtin;refine wpList_append_own_none rfl _ _ 34 rfl (w1.heap.size+1) 3 i0 1 Tryz.underlying34 hi0 _ _ _ rfl HS6.out.own rfl ?_) | (at_builtin;refine wpList_append_own _ rfl _ _ 34 rfl (w1.heap.size+1) 3 i0 (.int .i64 0) 1 8 Tryz.underlying34 hi0 hz0 hz1 hz2 rfl (by decide) _ _ _ rfl (HS6.out.own) a6 s6.length c6 (s6.map (Value.int .i64)) rfl (by simp) (xIW H6.out) (fun u hu=>by rw [xIL] at hu;obtain ⟨z,_,rfl⟩:=hu;rfl) (by unfold maxLen;omega) (by omega) (by omega) ?_;intro v7 w7 hown7 hgrow7 _))
       ·go_roundw
        case rel=>exact ⟨i+1,l,(j:Int) :: sl,by go_num,hlM,aF (by have:=HMO.out hux (by rw [hd];simp [hdn]) [] HR6.out.2;rwa [List.append_nil] at this),aF (by have:=HLN.out;simp only [bK];rw [Nat.succ_mul];omega),HS6,by omega⟩
        case measure=>simp [intOf];omega
       ·have HL2:=aF (HMO.out hux (by rw [hd];simp [hdn]) s6 HR6.out.2);have HLN2:Hid ((l ++ s6).length<=1+((j:Int) :: sl).length * cn):=aF (by have:=HLN.out;simp only [bK,bB];rw [Nat.succ_mul];omega);have HS7:=aF (HS6.out.grow hgrow7 hown7);go_roundw
        case rel=>exact ⟨i+1,l ++ s6,(j:Int) :: sl,by go_num,by rw [<- HM.out,<- HCE.out];exact xMI HL2.out (by rw [HCE.out];exact HLN2.out),HL2,HLN2,HS7,by omega⟩
        case measure=>simp [intOf];omega
theorem xKB {w:World} {base n:Nat} {A:Option Addr} {c:Nat} {l:List Int} (h:w.ownsRow base 3 1 (.slice A l.length c) n (l.map (Value.int .i64))) (hn:l.length=n):Slc 1 RInt w A c l:=by
 obtain ⟨A',c',hv,hs,_⟩:=fD (R:=RInt) (fun _ _ _ _ _ h=>h) h hn;subst hn;injection hv with e1 e2 e3
 rw [e1,e3];exact hs
theorem xKQ {w:World} {base base':Nat} {e:TypeId} {k n:Nat} {v:Value} {xs:List Value} (h:w.ownsRow base e k v n xs) (hb:base'<=base):w.ownsRow base' e k v n xs:=
 ⟨h.1,h.2.imp id (fun ⟨g,cap,cur,h1,h2,h3⟩=>⟨g,cap,cur,h1,bX hb h2,h3⟩)⟩
theorem xKW (b:Bdy) (bh:BH) (w:World) (H:BdAt w b bh) (hc:cntB b.blocks<=1000000) (hu:∀p,∀z∈usP b.blocks p,0<=z/\z<((1000000:Nat):Int)) (hin:∀p z,Lv b.blocks z p->0<=z/\z<(b.locals.length:Int)) (hl:b.locals.length<=1000000):
 Calls Tryz.prog 26 #[.agg (bdC b bh).toArray] w fun e' w'=>∃A c ll,e' = .returned (.slice A ll.length c)/\ll.length=cntB b.blocks/\(∀(k:Nat) (l:List Int),ll[k]?=some l->Srt l (fun z=>Lv b.blocks z (k:Int)))/\Slc 1 (RSl 1 RInt) w' A c ll/\Below w.heap.size w w':=by
 have HC:=aF (fun (W:World) (hb:Below w.heap.size w W)=>xKN b bh W (H.keep hb) (by omega));have HL:=aF (fun (W:World) (hb:Below w.heap.size w W) (x p:Int) hp=>xLK b bh x p W (H.keep hb) hc hp hu);have HY:=aF (cQ w [Value.string b.name,.slice bh.A1 b.regions.length bh.c1,.slice bh.A2 b.outl.length bh.c2,.slice bh.A3 b.types.length bh.c3,.slice bh.A4 b.locals.length bh.c4,.int .i64 b.args,.slice bh.A5 b.blocks.length bh.c5] 28);obtain ⟨i0,hi0,hz0,hz1,hz2⟩:=info_parts dU;obtain ⟨j0,hj0,hy0,hy1,hy2⟩:=info_parts xFB;have HIN:=aF hin;clear H hu hin;unfold bdC at *;obtain ⟨cn,hcn⟩:∃cn,cntB b.blocks=cn:=⟨_,rfl⟩;have HCE:=aF hcn;rw [hcn] at hc;rw [hcn] at HC HL ⊢;clear hcn;go_enter Tryz.func26,Tryz.ntmps26
 go_wp2_with fail
 go_loopw [3,4,5,6] (fun v q _ _ wr=>∃(m:Nat) (tr:List Tr),q = .int .i64 m/\m<=cn/\Hid (RcW b bh w m tr v wr)) (fun _ q _ _ _=>cn - (intOf q).toNat)
 case atStart=>exact ⟨0,[],rfl,by omega,aF ⟨HY.out,World.ownsRow_nil _ _ _ _,fun t ht=>(by cases ht),rfl,(aX _ _).alloc (aY _) _,by simp,fun k t h=>(by cases h)⟩⟩
 case round=>
  clear HY;obtain ⟨m,tr,rfl,hm,HS⟩:=hrel;have y0:=HS.out.box 0 _ rfl;have y1:=HS.out.box 1 _ rfl;have y2:=HS.out.box 2 _ rfl;have y3:=HS.out.box 3 _ rfl;have y4:=HS.out.box 4 _ rfl;have y5:=HS.out.box 5 _ rfl;have y6:=HS.out.box 6 _ rfl;by_cases hlt:m<cn
  case neg=>
   have hme:m=cn:=by omega
   subst hme;obtain ⟨A,c,rfl,hs,-⟩:=fD (R:=RTr) (fun _ _ _ _ _ h=>h) HS.out.own HS.out.len;have hs2:=zH hs (fun t ht=>xKB (HS.out.rows t ht) rfl);have HS2:=aF hs2;have HLE:=aF HS.out.len;clear hs hs2;go_wp2_with (go_at_call 17;refine (HC.out _ HS.out.low).mono ?_;rintro e' w3 ⟨rfl,hb3⟩)
   go_ret
   exact ⟨A,c,tr.map (·.2.1),by rw [cF,HLE.out];rfl,by rw [cF,HLE.out],fun k l h=>by
    rw [cN] at h;cases e:tr[k]? with
    | none=>rw [e] at h;cases h
    | some t=>rw [e] at h;injection h with h;subst h;exact HS.out.srt k t e,HS2.out.keep (RSl.keeps RInt.keeps) hb3,HS.out.low.trans (hb3.mono HS.out.low.size)⟩
  case pos=>
  obtain ⟨VA,vc,rfl⟩:=dE HS.out.own;go_wp2_with (go_at_call 17;refine (HC.out _ HS.out.low).mono ?_;rintro e' w2 ⟨rfl,hb2⟩;have HS2:=aF (HS.out.keep hb2);clear hb2;clear y0 y1 y2 y3 y4 y5 y6)
  go_loopw [5,6] (fun v q wr=>∃(k:Nat) (s:List Int),q = .int .i64 k/\k<=b.locals.length/\Hid (wr.ownsRow w2.heap.size 3 1 v s.length (s.map (Value.int .i64)))/\Hid (Srt s (fun z=>Lv b.blocks z (m:Int)/\0<=z/\z<(k:Int)))/\Hid (Below w2.heap.size w2 wr)) (fun _ q _=>b.locals.length - (intOf q).toNat)
  case atStart=>exact ⟨0,[],rfl,by omega,aF (World.ownsRow_nil _ _ _ _),aF Srt.zero,aF (aX _ _)⟩
  case round=>
   obtain ⟨k,s,rfl,hk,HO,HR,HB⟩:=hrel;have HS3:=aF (HS2.out.keep HB.out);have hsl:=HR.out.len (n:=k) (fun z hz=>hz.2);have hl3:=HB.out.size;have y0:=HS3.out.box 0 _ rfl;have y1:=HS3.out.box 1 _ rfl;have y2:=HS3.out.box 2 _ rfl;have y3:=HS3.out.box 3 _ rfl;have y4:=HS3.out.box 4 _ rfl;have y5:=HS3.out.box 5 _ rfl;have y6:=HS3.out.box 6 _ rfl;by_cases hkl:k<b.locals.length
   case neg=>
    have hke:k=b.locals.length:=(by omega);subst hke;have HSS:Hid (Srt s (fun z=>Lv b.blocks z (m:Int))):=aF (HR.out.iff fun z=>⟨fun h=>h.1,fun h=>⟨h,HIN.out _ _ h⟩⟩);obtain ⟨A5,c5,rfl⟩:=dE HO.out;have hlt3:=HS3.out.lt;go_wp2_with (at_builtin;refine wpList_append_own _ rfl _ _ 45 rfl (w.heap.size+1) 34 j0 (.slice none 0 0) 1 24 Tryz.underlying45 hj0 hy0 hy1 hy2 rfl (by decide) _ _ _ rfl (HS3.out.own.alloc (.cells #[.slice A5 s.length c5] 34)) ⟨wr.heap.size,0,none⟩ 1 1 [.slice A5 s.length c5] rfl rfl (cell_one_new _ _ _) (fun u hu=>by simp at hu;subst hu;rfl) (by unfold maxLen;omega) (by omega) (by simp;omega) ?_;intro v7 w7 hown7 hgrow7 _)
    have hb:Below wr.heap.size wr (wr.alloc (.cells #[.slice A5 s.length c5] 34)):=(aX _ _).alloc (aY _) _;have HS7:=aF ((HS3.out.keep hb).grow (A5,s,c5) (xKQ (HO.out.alloc _) (by have:=HS2.out.lt;omega)) hgrow7 hown7 HSS.out);go_roundw
    case rel=>exact ⟨m+1,tr ++ [(A5,s,c5)],by go_num,by omega,HS7⟩
    case measure=>simp [intOf];omega
   case pos=>
   obtain ⟨A5,c5,rfl⟩:=dE HO.out
   go_wp2_with (first
    | (go_at_call 56;refine (HL.out _ HS3.out.low (k:Int) (m:Int) ⟨by omega,by omega⟩).mono ?_;rintro e' w4 ⟨r,rfl,hr,hb4⟩;have HR4:=aF hr;have HO4:=aF (dG HO.out hb4);have HB4:=aF (HB.out.trans (hb4.mono HB.out.size));have hl4:=HB4.out.size;clear y0 y1 y2 y3 y4 y5 y6 hr hb4;cases r)
    | (at_builtin;refine wpList_append_own _ rfl _ _ 34 rfl w2.heap.size 3 i0 (.int .i64 0) 1 8 Tryz.underlying34 hi0 hz0 hz1 hz2 rfl (by decide) _ _ _ rfl (HO4.out.alloc (.cells #[.int .i64 (k:Int)] 3)) ⟨w4.heap.size,0,none⟩ 1 1 [.int .i64 (k:Int)] rfl rfl (cell_one_new _ _ _) (fun u hu=>by simp at hu;subst hu;rfl) (by unfold maxLen;omega) (by omega) (by simp;omega) ?_;intro v5 w5 hown5 hgrow5 _))
   ·have HR2:=aF (HR.out.skip_ (fun h=>by have:=HR4.out.2 h;cases this));go_roundw
    case rel=>exact ⟨k+1,s,by go_num,by omega,HO4,HR2,HB4⟩
    case measure=>simp [intOf];omega
   ·have HR2:=aF (HR.out.take_ (by omega) (HR4.out.1 (by simp)));have HB5:=aF (fS HB4.out HO4.out hgrow5);go_roundw
    case rel=>exact ⟨k+1,s ++ [(k:Int)],by go_num,by omega,aF (gP hown5),HR2,HB5⟩
    case measure=>simp [intOf];omega
end
section
open Go Go.RowKit Go.Maps
theorem OwnI.store2 {w:World} {b n:Nat} {sl:List Int} (h:OwnI w b n sl) (hn:n<maxLen) {x:Int} (hkey:keyOf Tryz.prog 3 (.int .i64 x)=some (.int .i64 x)):
 ∃w',(Instr.mapUpdate 74 (.map (some b)) (.int .i64 x) (.bool true)).run Tryz.prog w = .ok () w'/\OwnI w' b (n+1) (x :: sl)/\w.grownBy w' (some b):=by
 obtain ⟨D,h1,h2,h3⟩:=h;obtain ⟨w',hrun,g1,g2⟩:=h1.update law3 Tryz.underlying74 hn hkey (jW Tryz.underlying4 true);have hk:WideAt.IsKeyLit (Lit.int .i64 x):=trivial;refine ⟨w',hrun,⟨_,g1,fun kl=>?_,fun kl=>?_⟩,g2⟩
 ·by_cases e:kl=Lit.int .i64 x
  ·subst e;rw [atKey_put_same h1.isMap hk,iA]
  ·rw [atKey_put_other e,jC _ _ _ e,h2]
 ·by_cases e:kl=Lit.int .i64 x
  ·subst e;rw [has_put_same h1.isMap hk,iA]
  ·rw [has_put_other e,jC _ _ _ e,h3]
theorem xIN (w:World) {ops:Array Oper} {rest:List Oper} {o:Oper} {a:Act} {Q:Exit->Act->World->Prop}
 (hg:o.guard=none) (m x v:Operand) (hop:o.op=Op.mapUpdate 74 m x v) (b n:Nat) (sl:List Int)
 (hm:a.eval m = .map (some b)) (hown:OwnI w b n sl) (hn:n<maxLen) (key:Int) (hx:a.eval x = .int .i64 key) (hv:a.eval v = .bool true) (hkey:keyOf Tryz.prog 3 (.int .i64 key)=some (.int .i64 key))
 (hK:∀w',OwnI w' b (n+1) (key :: sl)->w.grownBy w' (some b)->wpList Tryz.prog ops Q rest (a.put o.dst undef) w'):
 wpList Tryz.prog ops Q (o :: rest) a w:=by
 refine wpList_plain hg fun K' hK'=>?_
 obtain ⟨w',hrun,r1,r2⟩:=hown.store2 hn hkey;unfold Oper.wp;simp [execOp,hop,hm,hx,hv,hrun,Result.andThen];exact hK' _ _ (hK w' r1 r2)
theorem xJC (w:World) {ops:Array Oper} {rest:List Oper} {o:Oper} {a:Act} {Q:Exit->Act->World->Prop} (hg:o.guard=none) (m:Operand) (hop:o.op=Op.range 74 m) (b n:Nat) (sl:List Int)
 (hm:a.eval m = .map (some b)) (hown:OwnI w b n sl)
 (hK:∀w' cnt,RngI w' b w.heap.size n sl (fun x=>decide (x∈sl)) cnt->w.grownBy w' none->w'.heap.size=w.heap.size+1->wpList Tryz.prog ops Q rest (a.put o.dst (.pointer (some ⟨w.heap.size,0,none⟩))) w'):
 wpList Tryz.prog ops Q (o :: rest) a w:=by
 obtain ⟨D,h1,h2,h3⟩:=hown;refine wpList_range_own w hg m 74 hop 3 4 law3 Tryz.underlying74 _ b n D hm h1 (fun w' g1 g2 g3=>hK w' _ ⟨D,_,g1,h3,fun x=>by rw [h3];rfl,fun kl hkl=>?_⟩ g2 g3);rw [h3] at hkl;unfold i64F at hkl;split at hkl
 ·exact ⟨_,rfl⟩
 ·cases hkl
theorem xLP (t:Ty) (A:Option Addr) (c:Nat) (w:World) (hs:Slc 1 RInt w A c t.flds):
 Calls Tryz.prog 122 #[tyAgg t A c] w fun e' w'=>∃B d,e' = .returned (.slice B (prtT t).length d)/\Slc 1 RInt w' B d (prtT t)/\Below w.heap.size w w':=by
 obtain ⟨kd,mu,rg,el,fl⟩:=t;unfold tyAgg prtT;simp only at *;have hb:=alF w (.cells #[.int .i64 kd,.bool mu,.int .i64 rg,.int .i64 el,.slice A fl.length c] 65);have HS:=aF hs;have HB:=aF hb;clear hs hb;by_cases hk:kd=3
 ·have HO:=aF (fun (W:World)=>fN W el 3 W.heap.size rfl);subst hk;rw [bA rfl];go_enter Tryz.func122,Tryz.ntmps122
  go_wp2_with fail
  go_ret;exact ⟨_,1,rfl,by have:=HO.out (w.alloc (.cells #[.int .i64 3,.bool mu,.int .i64 rg,.int .i64 el,.slice A fl.length c] 65));simpa using this,aH⟩
 ·have hb3:(kd == 3)=false:=by simp [hk]
  rw [aZ hk];clear hk;go_enter Tryz.func122,Tryz.ntmps122
  go_wp2_with fail
  go_ret;exact ⟨A,c,rfl,HS.out.keep RInt.keeps HB.out,HB.out⟩
def CopE.F2 (E:CopE):Value:= .func (.func 121) #[] #[.pointer (some ⟨E.ps,0,none⟩),.pointer (some ⟨E.pl,0,none⟩),.pointer (some ⟨E.pc,0,none⟩)]
structure ViS (E:CopE) (n:Nat) (W:World) (sl:List Int):Prop where
 low:Below E.w0.heap.size E.w0 W
 l:W.cell? ⟨E.pl,0,none⟩=some (.slice E.A n E.c)
 s:W.cell? ⟨E.ps,0,none⟩=some (.map (some E.M))
 c:W.cell? ⟨E.pc,0,none⟩=some E.F2
 own:OwnI W E.M 1000000 sl
 nd:sl.Nodup
 rng:∀x∈sl,0<=x/\x<(n:Int)
theorem ViS.keep {E:CopE} {n:Nat} {W W':World} {sl:List Int} (h:ViS E n W sl) (hb:Below W.heap.size W W'):ViS E n W' sl:=
 ⟨h.low.trans (hb.mono h.low.size),cO hb h.l,cO hb h.s,cO hb h.c,h.own.below hb,h.nd,h.rng⟩
theorem ViS.put {E:CopE} {n:Nat} {W W':World} {sl:List Int} (h:ViS E n W sl) (hM:E.w0.heap.size<=E.M) (hn:n<=65535) {i:Int} (hi:i∉sl) (hr:0<=i/\i<(n:Int)) (ho:OwnI W' E.M 1000001 (i :: sl)) (hg:W.grownBy W' (some E.M)):ViS E n W' (i :: sl)/\Kc W W':=by
 obtain ⟨D,⟨es,clock,h1,_⟩,_⟩:=h.own;have hk:Kc W W':=Kc.of_grown (fun cs e z g=>by rw [h1] at g;cases g) hg;have hrg:∀x∈i :: sl,0<=x/\x<(n:Int):=fun x hx=>(List.mem_cons.1 hx).elim (fun e=>e ▸ hr) (h.rng x)
 exact ⟨⟨h.low.trans (eH hg hM h.low.size),hk.cell _ _ h.l,hk.cell _ _ h.s,hk.cell _ _ h.c,ho.tight (m:=1000000) (fun x hx=>by have:=hrg x hx;omega),List.nodup_cons.2 ⟨hi,h.nd⟩,hrg⟩,hk⟩
def CopE.VRec (E:CopE) (ts:List Ty) (m:Nat):Prop:=∀i:Nat,i<m->i<ts.length->∀W sl,ViS E ts.length W sl->
 Calls Tryz.prog 121 #[.int .i64 i,.pointer (some ⟨E.ps,0,none⟩),.pointer (some ⟨E.pl,0,none⟩),.pointer (some ⟨E.pc,0,none⟩)] W fun e' W'=>e' = .returned undef/\∃sl',Vi ts i sl sl'/\ViS E ts.length W' sl'/\Kc W W'
theorem xMU {ts:List Ty} (h:TyOk ts) {i:Nat} (hi:i<ts.length):∀k∈prtT ts[i],0<=k/\k<(i:Int):=fun k hk=>by
 obtain ⟨h1,h2⟩:=h i hi;unfold prtT at hk;split at hk
 ·rename_i e;rw [bR] at hk;subst hk;exact ⟨(h1 e).1,(h1 e).2.1⟩
 ·exact h2 k hk
theorem xIV (E:CopE) (ts:List Ty) (HE:E.Ok ts):∀m:Nat,E.VRec ts m
 | 0=>fun _ h=>absurd h (by omega)
 | m+1=>fun i him hi W sl h=>by
   by_cases him2:i<m
   ·exact xIV E ts HE m i him2 hi W sl h
   obtain rfl:m=i:=by omega
   have HREC:=aF (xIV E ts HE m);have hn:=HE.n;have x1:=h.l;have x2:=h.s;have keyi:=fO (z:=(m:Int)) (by omega);have hown:=h.own;have HST:=aF h;have hle:=HE.ty.le;have hbig:=HE.ty.big;have HM:=aF HE.M;by_cases hin:(m:Int)∈sl
   ·have HFB:Hid (i64F (inF sl) (.int .i64 (m:Int))=true):=aF (by simp [i64F,inF,hin]);have HVI:=aF (Vi.known ts hin);clear hin HREC HE h;go_enter Tryz.func121,Tryz.ntmps121
    go_wp2_with (at_lookup;refine dD _ rfl _ _ 74 rfl 3 4 law3 Tryz.underlying74 Tryz.underlying4 (gC _) _ _ _ rfl hown.toB _ _ rfl keyi ?_;rw [HFB.out])
    first | (simp only [Exit.inBlock,Exit.then];refine bodyPost_ret (results_none rfl _ _ _) rfl ?_) | refine bodyPost_ret (results_none rfl _ _ _) rfl ?_
    exact ⟨rfl,sl,HVI.out,HST.out,Kc.refl _⟩
   ·have HFB:Hid (i64F (inF sl) (.int .i64 (m:Int))=false):=aF (by simp [i64F,inF,hin]);have HNI:=aF hin;obtain ⟨bb,oo,hA,hbb,hx⟩:=HE.ty.sl.at_ hi;have HPL:=aF (xMU HE.tyok hi);have htg:ts[((m:Nat):Int).toNat]?=some ts[m]:=(by simp [hi]);have HTG:=aF htg;obtain ⟨t,ht⟩:∃t,ts[m]=t:=⟨_,rfl⟩;rw [ht] at hx HPL HTG;obtain ⟨r1,r2,r3,r4,A2,c2,r5,r6,r7,r8⟩:=hx;have y1:=cO h.low r1;have y2:=cO h.low r2;have y3:=cO h.low r3;have y4:=cO h.low r4;have y5:=cO h.low r5;have HFL:Hid (Slc 1 RInt E.w0 A2 c2 t.flds):=aF ⟨r8,r6,r7⟩;have hbl:=bN hbb h.low.size;clear hin HE h ht htg r1 r2 r3 r4 r5 r8;rw [hA] at x1;go_enter Tryz.func121,Tryz.ntmps121
    go_wp2_with (first
     | (at_lookup;refine dD _ rfl _ _ 74 rfl 3 4 law3 Tryz.underlying74 Tryz.underlying4 (gC _) _ _ _ rfl hown.toB _ _ rfl keyi ?_;rw [HFB.out])
     | (at_mapUpdate;refine xIN _ rfl _ _ _ rfl E.M 1000000 sl rfl hown (by unfold maxLen;omega) (m:Int) rfl rfl keyi ?_;intro w7 ho7 hg7;obtain ⟨hs7,hk7⟩:=HST.out.put HM.out hn HNI.out ⟨by omega,by omega⟩ ho7 hg7;have HS7:=aF hs7;have HK7:=aF hk7;have z1:=hk7.cell _ _ x1;have z2:=hk7.cell _ _ y1;have z3:=hk7.cell _ _ y2;have z4:=hk7.cell _ _ y3;have z5:=hk7.cell _ _ y4;have z6:=hk7.cell _ _ y5;clear ho7 hg7 hs7 hk7 x1 x2 y1 y2 y3 y4 y5)
     | (go_at_call 122;refine (xLP t A2 c2 w7 (HFL.out.keep RInt.keeps HS7.out.low)).mono ?_;rintro e' w8 ⟨PA,pc,rfl,hp8,hb8⟩;have HP8:=aF hp8;have n8:=hp8.le;have n9:=hp8.big;have HS8:=aF (HS7.out.keep hb8);have HK8:=aF (HK7.out.trans (.of_below hb8));clear hp8 hb8 z1 z2 z3 z4 z5 z6))
    go_loopw [6,18] (fun _ i wr=>∃(k:Nat) (sl':List Int),i = .int .i64 k/\k<=(prtT t).length/\Hid (Vk ts (m:Int) (prtT t) k sl sl')/\Hid (ViS E ts.length wr sl')/\Hid (Kc w8 wr)) (fun _ i _=>(prtT t).length - (intOf i).toNat)
    case atStart=>exact ⟨0,(m:Int) :: sl,rfl,by omega,aF (Vk.start HNI.out),HS8,aF (Kc.refl _)⟩
    case round=>
     obtain ⟨k,sl',rfl,hk,HV,HS,HK⟩:=hrel;by_cases hlt:k<(prtT t).length
     case pos=>
      obtain ⟨pb,po,rfl,hpb,hx0⟩:=(HP8.out.keepC RInt.keepsC HK.out).sl.at_ hlt;have x0:wr.cell? ⟨pb,po+k,none⟩=some (.int .i64 (prtT t)[k]):=(by simpa [RInt] using hx0);have hki:=bD hlt;have hpl:=HPL.out _ (bM hlt);have HKI:=aF hki;clear hx0 hki;generalize (prtT t)[k]=y0 at *;obtain ⟨y,rfl⟩:=bG hpl.1;have HC:=aF (HREC.out y (by omega) (by omega) wr sl' HS.out);have xc:=HS.out.c;unfold CopE.F2 at xc;go_wp2_with (go_at_call 121;refine HC.out.mono ?_;rintro e' w9 ⟨rfl,sl9,hv9,hs9,hk9⟩;have HV9:=aF hv9;have HS9:=aF hs9;have HK9:=aF (HK.out.trans hk9);clear hv9 hs9 hk9 x0 xc)
      have HVK:=aF (HV.out.step (by omega) HTG.out HKI.out HV9.out);go_roundw
      case rel=>exact ⟨k+1,sl9,by go_num,by omega,HVK,HS9,HK9⟩
      case measure=>simp [intOf];omega
     case neg=>
      have HVC:=aF (HV.out.close HTG.out (by omega));go_wp2_with fail
      go_end0
      exact ⟨rfl,sl',HVC.out,HS.out,HK8.out.trans HK.out⟩
end
section
open Go Go.RowKit Go.Maps
attribute [local irreducible] Calls
theorem xMS (w:World) (n:Nat) (A:Option Addr) (c:Nat) (t1 t2 t3:TypeId):
 ViS ⟨w,A,c,w.heap.size,w.heap.size+2,w.heap.size+3,w.heap.size+1⟩ n ((((w.alloc (.cells #[.slice A n c] t1)).alloc (.map #[] 0)).alloc (.cells #[.map (some (w.heap.size+1))] t2)).alloc (.cells #[CopE.F2 ⟨w,A,c,w.heap.size,w.heap.size+2,w.heap.size+3,w.heap.size+1⟩] t3)) []:=by
 refine ⟨aH,?_,?_,?_,?_,by simp,by simp⟩
 ·exact cO ((((aX _ _).alloc (aY _) _).alloc (by simp) _).alloc (by simp) _) (cQ w [.slice A n c] t1 0 _ rfl)
 ·have:=cQ ((w.alloc (.cells #[.slice A n c] t1)).alloc (.map #[] 0)) [.map (some (w.heap.size+1))] t2 0 _ rfl;simp only [bI] at this;exact cO ((aX _ _).alloc (aY _) _) this
 ·have:=cQ (((w.alloc (.cells #[.slice A n c] t1)).alloc (.map #[] 0)).alloc (.cells #[.map (some (w.heap.size+1))] t2)) [CopE.F2 ⟨w,A,c,w.heap.size,w.heap.size+2,w.heap.size+3,w.heap.size+1⟩] t3 0 _ rfl;simp only [bI] at this;exact this
 ·have:=(OwnI.made (w.alloc (.cells #[.slice A n c] t1))).mono (m:=1000000) (by omega);rw [bI] at this;exact (this.alloc _).alloc _
theorem xLN (ts:List Ty) (hok:TyOk ts) (hn:ts.length<=65535) (k:Nat) (hlt:k<ts.length) (A:Option Addr) (c:Nat) (w:World) (hs:Slc 5 RTy w A c ts):
 Calls Tryz.prog 78 #[.slice A ts.length c,.int .i64 (k:Int)] w fun e' w'=>∃g sl,e' = .returned (.map (some g))/\OwnI w' g 1000000 sl/\sl.Nodup/\(∀x∈sl,0<=x/\x<(ts.length:Int))/\(∀z,z∈sl↔Rt ts (k:Int) z)/\w.heap.size<=g/\Below w.heap.size w w':=by
 have hle:=hs.le;have hbig:=hs.big;have HE:CopE.Ok ⟨w,A,c,w.heap.size,w.heap.size+2,w.heap.size+3,w.heap.size+1⟩ ts:=⟨hs,hok,hn,Nat.le_succ _,by simp,by simp,by simp⟩;have HC:=aF (fun W h=>xIV _ ts HE (k+1) k (by omega) hlt W [] h);have hmm:= @run_makeMap Tryz.prog;have hst:∀(a:Addr) (fn:Fn) (f c:Array Value) (W:World),(store a (.func fn f c)).run Tryz.prog W=stored Tryz.prog W a (.func fn f c) .plain:=fun a fn f c W=>run_store Tryz.prog W a (.func fn f c) _ rfl
 clear hs HE;go_enter Tryz.func78,Tryz.ntmps78
 go_wp2_with (go_at_call 121;refine (HC.out _ (xMS w ts.length A c _ _ _)).mono ?_;rintro e' w1 ⟨rfl,sl,hv,hs1,hk1⟩;have HV:=aF hv;have HS1:=aF hs1;have x1:=hs1.s;clear hv hs1 hk1)
 go_ret;exact ⟨_,sl,rfl,HS1.out.own,HS1.out.nd,HS1.out.rng,HV.out.reach,by omega,HS1.out.low⟩
def PtR (ts:List Ty) (x r:Int):Prop:=∃t,ts[x.toNat]?=some t/\t.kind=3/\t.reg=r
structure Mv (ts:List Ty) (sl vs o:List Int) (left:Int->Bool):Prop where
 nd:vs.Nodup
 mem:∀x∈vs,x∈sl/\left x=false
 all:∀x∈sl,left x=false->x∈vs
 len:o.length<=vs.length
 out:∀r,r∈o↔∃x∈vs,PtR ts x r
theorem Mv.start (ts:List Ty) (sl:List Int):Mv ts sl [] [] (fun x=>decide (x∈sl)):=
 ⟨by simp,by simp,fun x hx h=>by simp [hx] at h,aY _,fun r=>by simp⟩
theorem Mv.len_le {ts:List Ty} {sl vs o:List Int} {left:Int->Bool} (h:Mv ts sl vs o left) {n:Nat} (hr:∀x∈sl,0<=x/\x<(n:Int)):o.length<=n:=
 bX h.len (dR n vs h.nd (fun x hx=>hr x (h.mem x hx).1))
theorem Mv.pass {ts:List Ty} {sl vs o:List Int} {left:Int->Bool} (h:Mv ts sl vs o left) {x:Int} (hx:x∈sl) (hl:left x=true) (hp:∀r,¬PtR ts x r):Mv ts sl (x :: vs) o (fun z=>left z && decide (z≠x)):=
 ⟨List.nodup_cons.2 ⟨fun hv=>(by have:=(h.mem x hv).2;rw [hl] at this;cases this),h.nd⟩,
  fun y hy=>(List.mem_cons.1 hy).elim (fun e=>by subst e;exact ⟨hx,by simp⟩) (fun hv=>⟨(h.mem y hv).1,by simp [(h.mem y hv).2]⟩),
  fun y hy hf=>by
   by_cases e:y=x
   ·subst e;simp
   ·refine List.mem_cons_of_mem _ (h.all y hy ?_);simpa [e] using hf,
  bX h.len (by simp),fun r=>by rw [h.out];simp [hp]⟩
theorem Mv.take {ts:List Ty} {sl vs o:List Int} {left:Int->Bool} (h:Mv ts sl vs o left) {x:Int} (hx:x∈sl) (hl:left x=true) {t:Ty} (ht:ts[x.toNat]?=some t) (h3:t.kind=3):Mv ts sl (x :: vs) (o ++ [t.reg]) (fun z=>left z && decide (z≠x)):=
 ⟨List.nodup_cons.2 ⟨fun hv=>(by have:=(h.mem x hv).2;rw [hl] at this;cases this),h.nd⟩,
  fun y hy=>(List.mem_cons.1 hy).elim (fun e=>by subst e;exact ⟨hx,by simp⟩) (fun hv=>⟨(h.mem y hv).1,by simp [(h.mem y hv).2]⟩),
  fun y hy hf=>by
   by_cases e:y=x
   ·subst e;simp
   ·refine List.mem_cons_of_mem _ (h.all y hy ?_);simpa [e] using hf,
  by simp [h.len],fun r=>by
   rw [cK,h.out,bR];constructor
   ·rintro (⟨y,hy,hr⟩ | rfl)
    ·exact ⟨y,List.mem_cons_of_mem _ hy,hr⟩
    ·exact ⟨x,by simp,t,ht,h3,rfl⟩
   ·rintro ⟨y,hy,hr⟩;rcases List.mem_cons.1 hy with rfl | hv
    ·obtain ⟨u,hu,_,he⟩:=hr;rw [ht] at hu;injection hu with hu;subst hu
     exact .inr he.symm
    ·exact .inl ⟨y,hv,hr⟩⟩
theorem Mv.done {ts:List Ty} {sl vs o:List Int} {left:Int->Bool} (h:Mv ts sl vs o left) (hl:∀x,left x=false) (r:Int):r∈o↔∃x∈sl,PtR ts x r:=
 (h.out r).trans ⟨fun ⟨x,a,b⟩=>⟨x,(h.mem x a).1,b⟩,fun ⟨x,a,b⟩=>⟨x,h.all x a (hl x),b⟩⟩
theorem RngI.grow1 {W W':World} {mb r k:Nat} {sl:List Int} {left:Int->Bool} {cnt:Nat} (h:RngI W mb r k sl left cnt) {base m:Nat} {v:Value} {xs:List Value} (ho:W.ownsRow base 3 1 v m xs) (hg:W.grownBy W' v.ownBlock):RngI W' mb r k sl left cnt:=by
 obtain ⟨a1,a2,a3,a4,hi⟩:=h.iter;obtain ⟨c1,c2,hm⟩:=h.mobj;refine h.kept (hg.block _ h.lt.2.1 (fun e=>?_)) (hg.block _ h.lt.1 (fun e=>?_))
 ·obtain ⟨cur,hc⟩:=gZ ho e.symm;rw [hm] at hc;cases hc
 ·obtain ⟨cur,hc⟩:=gZ ho e.symm;rw [hi] at hc;cases hc
theorem xLR (ts:List Ty) (hok:TyOk ts) (hn:ts.length<=65535) (k:Nat) (hlt:k<ts.length) (A:Option Addr) (c:Nat) (w:World) (hs:Slc 5 RTy w A c ts):
 Calls Tryz.prog 46 #[.slice A ts.length c,.int .i64 (k:Int)] w fun e' w'=>∃B d s,e' = .returned (.slice B s.length d)/\Srt s (fun r=>∃x,Rt ts (k:Int) x/\PtR ts x r)/\Slc 1 RInt w' B d s/\(∀a,B=some a->w.heap.size<=a.block)/\Below w.heap.size w w':=by
 have hle:=hs.le;have hbig:=hs.big;have HS0:=aF hs;have HR:=aF (xLN ts hok hn k hlt A c w hs);obtain ⟨i0,hi0,hz0,hz1,hz2⟩:=info_parts dU;obtain ⟨bb,oo,rfl,hbb,hx0⟩:=hs.sl.at_ hlt;clear hs hok hx0;go_enter Tryz.func46,Tryz.ntmps46
 go_wp2_with (first
  | (at_range;refine xJC _ rfl _ rfl g 1000000 sl rfl HO1.out ?_;intro w2 cnt hrg hg2 hs2;have HB2:=aF (HB1.out.trans ((show Below w1.heap.size w1 w2 from ⟨hg2.os,hg2.tape,hg2.output,hg2.size,fun k hk=>hg2.block k hk (by simp)⟩).mono HB1.out.size));have HRG2:=aF hrg;have hr1:=HB1.out.size;clear hrg hg2 hs2 HO1)
  | (go_at_call 78;refine HR.out.mono ?_;rintro e' w1 ⟨g,sl,rfl,ho1,hnd,hrng,hrt,hgl,hb1⟩;have HO1:=aF ho1;have HRN:=aF hrng;have HRT:=aF hrt;have HB1:=aF hb1;have HGL:=aF hgl;clear ho1 hnd hrng hrt hgl hb1))
 go_frame
 obtain ⟨r,hr⟩:∃r,w1.heap.size=r:=⟨_,rfl⟩;rw [hr] at HRG2 hr1 ⊢;clear hr;go_loopw [5] (fun v wr=>∃(left:Int->Bool) (cnt:Nat) (vs o:List Int),Hid (RngI wr g r 1000000 sl left cnt)/\Hid (Below w.heap.size w wr)/\Hid (wr.ownsRow w.heap.size 3 1 v o.length (o.map (Value.int .i64)))/\Hid (Mv ts sl vs o left)) (fun _ wr=>wr.rangeLeft g r)
 case atStart=>exact ⟨_,cnt,[],[],HRG2,HB2,aF (by simpa using World.ownsRow_nil _ _ _ _),aF (Mv.start ts sl)⟩
 case round=>
  clear HRG2 HB2;obtain ⟨left,cnt,vs,o,HRG,HB,HW,HM⟩:=hrel;go_wp2_with (at_next;refine mU _ rfl _ rfl g r 1000000 sl left cnt rfl HRG.out ?_ ?_)
  ·intro hl0;have HO:=aF (HM.out.done hl0);have hol:=HM.out.len_le HRN.out;have HSO:=aF (zF wr w.heap.size _ _ _ HW.out (by simp) (by omega));clear HRG HM
   go_wp2_with (first
    | (go_at_call 66;refine HSO.out.mono ?_;rintro e' w5 ⟨rfl,ho5,hg5⟩;have HK:=aF (qM w5 _ _ _ _ ho5 (by simp) (xAL _));have HG5:=aF hg5;clear ho5 hg5)
    | (go_at_call 79;refine HK.out.mono ?_;rintro e' w6 ⟨LA,lc,s,rfl,hs,hl,hlo,hg6⟩;have HLO:=aF hlo;have HSS:=aF hs;have HL:=aF hl;have HG6:=aF hg6;clear hs hl hg6 hlo))
   go_ret;have hlt3:=fun g hg=>(HW.out.lt g hg).1
   have hb5:=HB.out.grown HG5.out HB.out.size hlt3;have hb6:=hb5.grown HG6.out hb5.size hlt3;refine ⟨LA,lc,s,rfl,HSS.out.iff (fun r=>?_),HL.out,HLO.out,hb6⟩;rw [(List.mergeSort_perm _ _).mem_iff,HO.out];exact ⟨fun ⟨x,a,b⟩=>⟨x,(HRT.out x).1 a,b⟩,fun ⟨x,a,b⟩=>⟨x,(HRT.out x).2 a,b⟩⟩
  ·intro x c2 w6 cnt2 hwf hlx hxs hrg6 hlt6 hgr6 hsz6 hen;obtain ⟨ms,ss,ts',cs,hit⟩:=HRG.out.iter;have HW6:=aF (nR HW.out hit (fun _ _ e=>by cases e) hgr6);have HB6:=aF (HB.out.grown hgr6 HB.out.size (fun g hg=>(by injection hg with hg;subst hg;exact hr1)));have HRG6:=aF hrg6;have HLT:=aF hlt6;have hol:=HM.out.len_le HRN.out;have hxr:=HRN.out x hxs;obtain ⟨y,rfl⟩:=bG hxr.1;obtain ⟨b2,o2,hA,_,hx⟩:=(HS0.out.keep RTy.keeps HB6.out).sl.at_ (i:=y) (by omega);injection hA with hA
   injection hA with hA1 hA2
   subst hA1 hA2;have htg:ts[((y:Nat):Int).toNat]?=some ts[y]:=by simp [show y<ts.length by omega]
   obtain ⟨t,ht⟩:∃t,ts[y]=t:=⟨_,rfl⟩;rw [ht] at hx htg;obtain ⟨r1,r2,r3,r4,A2,c3,r5,r6,r7,r8⟩:=hx;have hle6:=HB6.out.size;by_cases h3:t.kind=3
   ·have HMV:=aF (HM.out.take hxs hlx htg h3);simp only [ne_eq,decide_not] at HMV;rw [h3] at r1;have hown2:=HW6.out.alloc (.cells #[.int .i64 t.reg] 3);obtain ⟨VA,vc,rfl⟩:=dE HW.out;clear r2 r4 r5 r6 r7 r8 htg hit hwf hlx hxs hrg6 hlt6 hgr6 hsz6 HM HW h3 ht;go_wp2_with (at_builtin;refine wpList_append_own _ rfl _ _ 34 rfl w.heap.size 3 i0 (.int .i64 0) 1 8 Tryz.underlying34 hi0 hz0 hz1 hz2 rfl (by decide) _ _ _ rfl hown2 ⟨w6.heap.size,0,none⟩ 1 1 [.int .i64 t.reg] rfl rfl (cell_one_new _ _ _) (fun u hu=>by simp at hu;subst hu;rfl) (by unfold maxLen;omega) (by omega) (by simp;omega) ?_;intro v' w7 hown' hgrow _)
    have hal6:=alF w6 (.cells #[.int .i64 t.reg] 3);have HRG7:=aF ((HRG6.out.below hal6).grow1 hown2 hgrow);have HB7:=aF ((HB6.out.trans (hal6.mono hle6)).grown hgrow (by simp;omega) (fun g hg=>(hown2.lt g hg).1));go_roundw
    case rel=>exact ⟨_,cnt2,_,_,HRG7,HB7,aF (by rw [bS,bB];exact hown'),HMV⟩
    case measure=>rw [HRG7.out.left_eq,HRG.out.left_eq];exact HLT.out
   ·have e3:(t.kind == 3)=false:=by simp [h3]
    have HMV:=aF (HM.out.pass hxs hlx (fun r ⟨u,hu,hk,_⟩=>h3 (by rw [htg] at hu;injection hu with hu;rw [hu];exact hk)));simp only [ne_eq,decide_not] at HMV;clear r2 r3 r4 r5 r6 r7 r8 htg hit hwf hlx hxs hrg6 hlt6 hgr6 hsz6 HM HW h3 ht;go_wp2_with fail
    go_roundw
    case rel=>exact ⟨_,cnt2,_,_,HRG6,HB6,HW6,HMV⟩
    case measure=>rw [HRG6.out.left_eq,HRG.out.left_eq];exact HLT.out
end
end Go.Proofs.YtcfchohkmkilpaaGreatDoor
