/-
  Parts of the proof: HC HD HE KA.
-/
import Derived.Sort.WalkA
import Derived.Test.YtkaigkfbkpinlaaGreatDoorFP0
import Derived.Test.YtkaigkfbkpinlaaGreatDoorFP7
import Derived.Test.YtkaigkfbkpinlaaGreatDoorFP9
import Derived.Test.YtkaigkfbkpinlaaGreatDoorFP2
import Derived.Test.YtkaigkfbkpinlaaGreatDoorFP3
import Derived.Test.YtkaigkfbkpinlaaGreatDoorFP4
import Derived.Test.YtkaigkfbkpinlaaGreatDoorFP6
import Derived.Maps.OwnIn
namespace Go.Proofs.YtkaigkfbkpinlaaGreatDoor
set_option maxRecDepth 100000
set_option maxHeartbeats 16000000
section
open Go Go.RowKit Go.Maps
theorem uC {bs:List Blk} {k i:Nat} (h:i<=k):(stL bs k)[i]?=some (stB bs i:Int):=by rw [uD bs h,kH]
def tgL (bs:List Blk) (l:List Int):List Int:=(l.filter (fun t=>decide (0<=t/\t<(bs.length:Int)))).map (fun t=>(stB bs t.toNat:Int))
theorem yD (bs:List Blk) (l:List Int) (t:Int):tgL bs (l ++ [t])=if 0<=t/\t<(bs.length:Int) then tgL bs l ++ [(stB bs t.toNat:Int)] else tgL bs l:=by
 unfold tgL;rw [List.filter_append];by_cases h:0<=t/\t<(bs.length:Int)
 ·rw [bD h,show [t].filter (fun t=>decide (0<=t/\t<(bs.length:Int)))=[t] by simp [h]];simp
 ·rw [bB h,show [t].filter (fun t=>decide (0<=t/\t<(bs.length:Int)))=[] by simp only [List.filter_cons,h,decide_false];simp];simp
theorem tT {bs:List Blk} {l:List Int} {q:Int}:q∈tgL bs l↔∃t∈l,0<=t/\t<(bs.length:Int)/\q=stB bs t.toNat:=by
 unfold tgL;simp only [cN,List.mem_filter,decide_eq_true_eq];exact ⟨fun ⟨t,⟨a,b,c⟩,d⟩=>⟨t,a,b,c,d.symm⟩,fun ⟨t,a,b,c,d⟩=>⟨t,⟨a,b,c⟩,d.symm⟩⟩
theorem tU (bs:List Blk) (l:List Int):(tgL bs l).length<=l.length:=by
 unfold tgL;rw [cH];exact List.length_filter_le _ _
theorem xBO {bs:List Blk} {i k:Nat} {x:Blk} (hx:bs[i]?=some x) (hk:k<=x.stmts.length) (q:Int):
 folP bs (stB bs i+k:Nat) q↔if k<x.stmts.length then q=(stB bs i+k:Nat)+1 else q∈tgL bs x.term.targets:=by
 have hl:=dP.2 (show locP bs (stB bs i+k:Nat) i k from ⟨x,hx,hk,rfl⟩);constructor
 ·rintro ⟨i',k',x',h1,h2,h3⟩;rw [hl] at h1;injection h1 with h1
  injection h1 with h1 h4
  subst h1 h4;rw [hx] at h2;injection h2 with h2
  subst h2;split
  ·rwa [bD ‹_›] at h3
  ·rw [bB ‹_›] at h3;exact tT.2 h3
 ·intro h;refine ⟨i,k,x,hl,hx,?_⟩;split
  ·rwa [bD ‹_›] at h
  ·rw [bB ‹_›] at h;exact tT.1 h
theorem zI (b:Bdy) (bh:BH) (i k:Nat) (x:Blk) (hx:b.blocks[i]?=some x) (hk:k<x.stmts.length) (FA:Option Addr) (fc:Nat) (w:World) (H:BdAt w b bh) (hf:Slc 1 RInt w FA fc (stL b.blocks b.blocks.length)) (hc:cntB b.blocks<=1000000000000):
 Calls Tryz.prog 91 #[.agg (bdC b bh).toArray,.slice FA (b.blocks.length+1) fc,.agg #[.int .i64 i,.int .i64 k]] w fun e' w'=>∃A c s,e' = .returned (.slice A s.length c)/\Srt s (folP b.blocks (stB b.blocks i+k:Nat))/\Slc 1 RInt w' A c s/\(∀a,A=some a->w.heap.size<=a.block)/\Below w.heap.size w w':=by
 have hbl:=H.blk.le;have hbg:=H.blk.big;have hi:=(List.getElem?_eq_some_iff.1 hx).1;have hlt:=iO hx;have HFIN:Hid (Srt [((stB b.blocks i+k:Nat):Int)+1] (folP b.blocks (stB b.blocks i+k:Nat))):=aH ⟨List.pairwise_singleton _ _,fun z=>by rw [xBO hx (by omega),bD hk,bU]⟩;obtain ⟨bb,oo,hA,hbb,hxx⟩:=H.blk.sl.at_ hi;obtain ⟨A1,c1,A2,c2,A3,c3,A4,c4,p0,p1,p2,p3,p4,p5,p6,-⟩:=eX hxx;rw [show b.blocks[i]=x from by rw [bF hi] at hx;injection hx] at p0 p1 p2 p3 p4 p5 p6;obtain ⟨g,o,rfl,hg,hy⟩:=hf.sl.at_ (i:=i) (by rw [fP];omega)
 have f0:w.cell? ⟨g,o+i,none⟩=some (.int .i64 (stB b.blocks i:Int)):=by
  have:=uC (bs:=b.blocks) (k:=b.blocks.length) (i:=i) (by omega);rw [bF (by rw [fP];omega)] at this;injection this with this
  rw [this] at hy;simpa [RInt] using hy
 have hfl:=hf.le;have hfb:=hf.big;rw [fP] at hfl;generalize stB b.blocks i=s0 at *;unfold bdC;rw [hA];obtain ⟨m,hm⟩:∃m,b.blocks.length+1=m:=⟨_,rfl⟩;rw [hm] at hfl ⊢;have him:i<m:=by omega
 have hs12:s0+k+1<=1000000000001:=by omega
 have HM:Hid (m=b.blocks.length+1):=aH hm.symm;have HY:=aH (cT w [Value.string b.name,.slice bh.A1 b.regions.length bh.c1,.slice bh.A2 b.outl.length bh.c2,.slice bh.A3 b.types.length bh.c3,.slice bh.A4 b.locals.length bh.c4,.int .i64 b.args,.slice (some ⟨bb,oo,none⟩) b.blocks.length bh.c5] 59);clear hA hxx hx hy hf H hc hlt hm;obtain ⟨W3,hW3⟩:∃W,((w.alloc (.cells #[Value.string b.name,.slice bh.A1 b.regions.length bh.c1,.slice bh.A2 b.outl.length bh.c2,.slice bh.A3 b.types.length bh.c3,.slice bh.A4 b.locals.length bh.c4,.int .i64 b.args,.slice (some ⟨bb,oo,none⟩) b.blocks.length bh.c5] 59)).alloc (.cells #[.int .i64 i,.int .i64 k] 154)).alloc (.cells #[.slice A1 x.stmts.length c1,.int .i64 x.term.kind,.slice A2 x.term.targets.length c2,.slice A3 x.term.args.length c3,.int .i64 x.term.place.loc,.slice A4 x.term.place.proj.length c4,.string x.term.name] 116)=W:=⟨_,rfl⟩;have hb3:Below w.heap.size w W3:=by rw [<- hW3];exact aJ
 have hz3:W3.heap.size=w.heap.size+1+1+1:=by rw [<- hW3];simp
 have z1:W3.cell? ⟨w.heap.size+1,0,none⟩=some (.int .i64 i):=by rw [<- hW3];clear hW3;go_simp
 have z2:W3.cell? ⟨w.heap.size+1,1,none⟩=some (.int .i64 k):=by rw [<- hW3];clear hW3;go_simp
 have z3:W3.cell? ⟨w.heap.size+1+1,0,none⟩=some (.slice A1 x.stmts.length c1):=by rw [<- hW3];clear hW3;go_simp
 have f3:=cQ hb3 f0;go_enter Tryz.func91,Tryz.ntmps91
 go_wp2_with fail
 go_still_tail 9,(by kernel_rfl)
 change wpList _ _ _ _ _ W3.drew;go_wp2_with fail
 go_ret;have hrow:=vF W3.drew (.int .i64 ((s0:Int)+(k:Int)+1)) 3 0 (Nat.zero_le _);obtain ⟨LA,lc,hv,hl,-⟩:=gR (R:=RInt) (enc:=Value.int .i64) (xs:=[(s0:Int)+(k:Int)+1]) (fun _ _ _ _ _ h=>h) hrow rfl;injection hv with h1 _ h2
 subst h1 h2;refine ⟨some ⟨w.heap.size+1+1+1,0,none⟩,1,[(s0:Int)+(k:Int)+1],rfl,?_,?_,fun a h=>(by injection h with h;subst h;simp only;omega),(hb3.drew).alloc (by simp;omega) _⟩
 ·have:=HFIN.out;push_cast at this;exact this
 ·rw [show w.heap.size+1+1+1=W3.drew.heap.size from hz3.symm];exact hl
def nxQ (w0:World) (base:Nat) (bs:List Blk) (l:List Int) (v:Value) (wr:World):Prop:=wr.ownsRow base 3 1 v (tgL bs l).length ((tgL bs l).map (Value.int .i64))/\Below base w0 wr
theorem zJ (b:Bdy) (bh:BH) (i:Nat) (x:Blk) (hx:b.blocks[i]?=some x) (FA:Option Addr) (fc:Nat) (w:World) (H:BdAt w b bh) (hf:Slc 1 RInt w FA fc (stL b.blocks b.blocks.length)) (_hc:cntB b.blocks<=1000000000000) (ht:x.term.targets.length<=1000000000000):
 Calls Tryz.prog 91 #[.agg (bdC b bh).toArray,.slice FA (b.blocks.length+1) fc,.agg #[.int .i64 i,.int .i64 x.stmts.length]] w fun e' w'=>∃A c s,e' = .returned (.slice A s.length c)/\Srt s (folP b.blocks (stB b.blocks i+x.stmts.length:Nat))/\Slc 1 RInt w' A c s/\(∀a,A=some a->w.heap.size<=a.block)/\Below w.heap.size w w':=by
 have hbl:=H.blk.le;have hbg:=H.blk.big;have hi:=(List.getElem?_eq_some_iff.1 hx).1;have HFIN:Hid (∀s zs:List Int,Srt s (fun z=>z∈zs)->(∀z,z∈zs↔z∈tgL b.blocks x.term.targets)->Srt s (folP b.blocks (stB b.blocks i+x.stmts.length:Nat))):=aH (fun s zs h1 h2=>h1.iff fun z=>by rw [xBO hx (bA _),bB (by omega)];exact h2 z);obtain ⟨bb,oo,hA,hbb,hxx⟩:=H.blk.sl.at_ hi;obtain ⟨A1,c1,A2,c2,A3,c3,A4,c4,p0,p1,p2,p3,p4,p5,p6,hs1,hs2,-⟩:=eX hxx;rw [show b.blocks[i]=x from by rw [bF hi] at hx;injection hx] at p0 p1 p2 p3 p4 p5 p6 hs1 hs2;have HT:=aH hs2;have htl:=hs2.le;have htb:=hs2.big;have HFF:=aH hf;have hfl:=hf.le;have hfb:=hf.big;rw [fP] at hfl;have HA:=aH hA;unfold bdC;rw [hA];obtain ⟨m,hm⟩:∃m,b.blocks.length+1=m:=⟨_,rfl⟩;rw [hm] at hfl ⊢;have HM:Hid (m=b.blocks.length+1):=aH hm.symm;clear hA hxx hx hf H _hc hm hs1 hs2;obtain ⟨W3,hW3⟩:∃W,((w.alloc (.cells #[Value.string b.name,.slice bh.A1 b.regions.length bh.c1,.slice bh.A2 b.outl.length bh.c2,.slice bh.A3 b.types.length bh.c3,.slice bh.A4 b.locals.length bh.c4,.int .i64 b.args,.slice (some ⟨bb,oo,none⟩) b.blocks.length bh.c5] 59)).alloc (.cells #[.int .i64 i,.int .i64 x.stmts.length] 154)).alloc (.cells #[.slice A1 x.stmts.length c1,.int .i64 x.term.kind,.slice A2 x.term.targets.length c2,.slice A3 x.term.args.length c3,.int .i64 x.term.place.loc,.slice A4 x.term.place.proj.length c4,.string x.term.name] 116)=W:=⟨_,rfl⟩;have hb3:Below w.heap.size w W3:=by rw [<- hW3];exact aJ
 have hz3:W3.heap.size=w.heap.size+1+1+1:=by rw [<- hW3];simp
 have z2:W3.cell? ⟨w.heap.size+1,1,none⟩=some (.int .i64 x.stmts.length):=by rw [<- hW3];clear hW3;go_simp
 have z3:W3.cell? ⟨w.heap.size+1+1,0,none⟩=some (.slice A1 x.stmts.length c1):=by rw [<- hW3];clear hW3;go_simp
 have z4:W3.cell? ⟨w.heap.size+1+1,2,none⟩=some (.slice A2 x.term.targets.length c2):=by rw [<- hW3];clear hW3;go_simp
 have z5:W3.cell? ⟨w.heap.size,6,none⟩=some (.slice (some ⟨bb,oo,none⟩) b.blocks.length bh.c5):=by rw [<- hW3];clear hW3;go_simp
 have HZ5:=aH z5;have HB3:=aH hb3;obtain ⟨i0,hi0,hz0,hz1,hz2⟩:=info_parts dV;go_enter Tryz.func91,Tryz.ntmps91
 go_wp2_with fail
 go_loopw [8,10,37] (fun v _ t wr=>∃k:Nat,t = .int .i64 k/\k<=x.term.targets.length/\Hid (nxQ W3 W3.heap.size b.blocks (x.term.targets.take k) v wr)) (fun _ _ t _=>x.term.targets.length - (intOf t).toNat)
 case atStart=>exact ⟨0,rfl,by omega,aH ⟨World.ownsRow_nil _ _ _ _,aZ _ _⟩⟩
 case round=>
  clear p0 p1 p2 p3 p4 p5 p6;obtain ⟨k,rfl,hk,HQ⟩:=hrel;by_cases hlt:k<x.term.targets.length
  case pos=>
   obtain ⟨n,hn⟩:∃n,(tgL b.blocks (x.term.targets.take k)).length=n:=⟨_,rfl⟩;have hq:=HQ.out.1;rw [hn] at hq;obtain ⟨VA,vc,rfl⟩:=cW hq;have hnl:n<=x.term.targets.length:=by have:=tU b.blocks (x.term.targets.take k);rw [cO] at this;omega
   have HBW:=aH (HB3.out.trans (HQ.out.2.mono HB3.out.size));obtain ⟨tb,to_,hTA,htb2,ht0⟩:=(HT.out.keep RInt.keeps HBW.out).sl.at_ hlt;have hsn:Hid (tgL b.blocks (x.term.targets.take (k+1))=if 0<=x.term.targets[k]/\x.term.targets[k]<(b.blocks.length:Int) then tgL b.blocks (x.term.targets.take k) ++ [(stB b.blocks x.term.targets[k].toNat:Int)] else tgL b.blocks (x.term.targets.take k)):=aH (by rw [bH hlt,yD]);have t0:wr.cell? ⟨tb,to_+k,none⟩=some (.int .i64 x.term.targets[k]):=by simpa [RInt] using ht0
   generalize x.term.targets[k]=t at *;have y5:=cQ HQ.out.2 z5;have hsz:=HQ.out.2.size;rw [hTA];have HTA:=aH hTA;clear ht0 hTA;by_cases h1:0<=t
   case neg=>
    have HE:Hid (tgL b.blocks (x.term.targets.take (k+1))=tgL b.blocks (x.term.targets.take k)):=aH (by rw [hsn.out,bB (fun h=>h1 h.1)]);clear hsn;go_wp2_with fail
    go_roundw
    case rel=>exact ⟨k+1,by go_num,by omega,aH (by have:=HQ.out;unfold nxQ at this ⊢;rw [HE.out];exact this)⟩
    case measure=>simp [intOf];omega
   case pos=>
   by_cases h2:t<(b.blocks.length:Int)
   case neg=>
    have HE:Hid (tgL b.blocks (x.term.targets.take (k+1))=tgL b.blocks (x.term.targets.take k)):=aH (by rw [hsn.out,bB (fun h=>h2 h.2)]);clear hsn;go_wp2_with fail
    go_roundw
    case rel=>exact ⟨k+1,by go_num,by omega,aH (by have:=HQ.out;unfold nxQ at this ⊢;rw [HE.out];exact this)⟩
    case measure=>simp [intOf];omega
   case pos=>
   obtain ⟨j,rfl⟩:=bI h1;have hj:j<b.blocks.length:=by omega
   have HE:Hid (tgL b.blocks (x.term.targets.take (k+1))=tgL b.blocks (x.term.targets.take k) ++ [(stB b.blocks j:Int)]):=aH (by rw [hsn.out,bD ⟨h1,h2⟩,bX]);obtain ⟨g,o,hFA,hg,hy⟩:=(HFF.out.keep RInt.keeps HBW.out).sl.at_ (i:=j) (by rw [fP];omega)
   have f0:wr.cell? ⟨g,o+j,none⟩=some (.int .i64 (stB b.blocks j:Int)):=by
    have:=uC (bs:=b.blocks) (k:=b.blocks.length) (i:=j) (by omega);rw [bF (by rw [fP];omega)] at this;injection this with this
    rw [this] at hy;simpa [RInt] using hy
   have hjm:j<m:=by have:=HM.out;omega
   generalize stB b.blocks j=s0 at *;rw [hFA];have hown2:=hq.alloc (.cells #[.int .i64 (s0:Int)] 3);clear hsn hy hFA;go_wp2_with (at_builtin;refine wpList_append_own _ rfl _ _ 48 rfl W3.heap.size 3 i0 (.int .i64 0) 1 8 Tryz.underlying48 hi0 hz0 hz1 hz2 rfl (by decide) _ _ _ rfl hown2 ⟨wr.heap.size,0,none⟩ 1 1 [.int .i64 (s0:Int)] rfl rfl (cell_one_new _ _ _) (fun u hu=>by simp at hu;subst hu;rfl) (by unfold maxLen;omega) (by omega) (by simp;omega) ?_;intro v' w2 hown' hgrow _)
   have HB2:Hid (Below W3.heap.size W3 w2):=aH ((HQ.out.2.alloc hsz _).grown hgrow (by simp;omega) (fun g hg=>(hown2.lt g hg).1));go_roundw
   case rel=>exact ⟨k+1,by go_num,by omega,aH ⟨by rw [HE.out,bV,bE,hn];exact hown',HB2.out⟩⟩
   case measure=>simp [intOf];omega
  case neg=>
   have hke:x.term.targets.take k=x.term.targets:=List.take_of_length_le (by omega);rw [hke] at HQ;have hlen:=tU b.blocks x.term.targets;have HS:=aH (nG wr W3.heap.size _ _ _ HQ.out.1 rfl (by omega))
   go_wp2_with (first
    | (go_at_call 130;refine HS.out.mono ?_;rintro e' w5 ⟨rfl,ho5,hg5⟩;have HK:=aH (lW w5 _ _ _ _ ho5 (by simp) (rS _));have HG5:=aH hg5;clear ho5 hg5)
    | (go_at_call 131;refine HK.out.mono ?_;rintro e' w6 ⟨LA,lc,s,rfl,hs,hl,hlo,hg6⟩;have HLO:=aH hlo;have HSS:=aH hs;have HL:=aH hl;have HG6:=aH hg6;clear hs hl hg6 hlo))
   go_ret;have hlt3:=fun g hg=>(HQ.out.1.lt g hg).1
   have hb5:=HQ.out.2.grown HG5.out HQ.out.2.size hlt3;have hb6:=hb5.grown HG6.out hb5.size hlt3;exact ⟨LA,lc,s,rfl,HFIN.out s _ HSS.out (fun z=>by simp),HL.out,fun a h=>(by have:=HLO.out a h;omega),HB3.out.trans (hb6.mono HB3.out.size)⟩
theorem zK (b:Bdy) (bh:BH) (i k:Nat) (x:Blk) (hx:b.blocks[i]?=some x) (hk:k<=x.stmts.length) (FA:Option Addr) (fc:Nat) (w:World) (H:BdAt w b bh) (hf:Slc 1 RInt w FA fc (stL b.blocks b.blocks.length)) (hc:cntB b.blocks<=1000000000000) (ht:x.term.targets.length<=1000000000000):
 Calls Tryz.prog 91 #[.agg (bdC b bh).toArray,.slice FA (b.blocks.length+1) fc,.agg #[.int .i64 i,.int .i64 k]] w fun e' w'=>∃A c s,e' = .returned (.slice A s.length c)/\Srt s (folP b.blocks (stB b.blocks i+k:Nat))/\Slc 1 RInt w' A c s/\(∀a,A=some a->w.heap.size<=a.block)/\Below w.heap.size w w':=by
 by_cases h:k<x.stmts.length
 ·exact zI b bh i k x hx h FA fc w H hf hc
 ·obtain rfl:k=x.stmts.length:=by omega
  exact zJ b bh i x hx FA fc w H hf hc ht
end
section
open Go Go.RowKit
attribute [local go_sem] Oper.semAt_some
def locN (bs:List Blk) (p:Nat):Nat × Nat:=(locB bs p).getD (0,0)
theorem xCU {bs:List Blk} {i k:Nat} {x:Blk} (hx:bs[i]?=some x) (hk:k<=x.stmts.length):locN bs (stB bs i+k)=(i,k):=by
 unfold locN;rw [dP.2 (show locP bs ((stB bs i+k:Nat):Int) i k from ⟨x,hx,hk,rfl⟩)];rfl
def encL (bs:List Blk) (p:Nat):Array Value:= #[.int .i64 p,.agg #[.int .i64 (locN bs p).1,.int .i64 (locN bs p).2]]
theorem rE {n p:Nat} (h:p<n):List.range n=List.range p ++ p :: List.range' (p+1) (n - p - 1):=by
 rw [List.range_eq_range',List.range_eq_range',show n=p+(1+(n - p - 1)) by omega];rw [<- List.range'_append_1,<- List.range'_append_1];simp [List.range'_one]
theorem uP {n p:Nat} {pre post:List Nat} (h:List.range n=pre ++ p :: post):pre=List.range p/\p<n:=by
 have hl:=congrArg List.length h;simp at hl;have h1:(List.range n)[pre.length]?=some p:=by rw [h];simp
 have hp:p=pre.length:=by
  rw [List.getElem?_range (by omega)] at h1;injection h1 with h1;exact h1.symm
 refine ⟨?_,by omega⟩;have h2:=congrArg (List.take pre.length) h;rw [List.take_left,List.take_range] at h2;rw [<- h2,hp,Nat.min_eq_left (by omega)]
theorem xDO (b:Bdy) (bh:BH) (w:World):
 Calls Tryz.prog 90 #[.agg (bdC b bh).toArray] w fun e' w'=>e' = .returned (.func (.func 135) #[] #[.pointer (some ⟨w.heap.size,0,none⟩)])/\w'=w.alloc (.cells (bdC b bh).toArray 59):=by
 unfold bdC;go_enter Tryz.func90,Tryz.ntmps90
 go_wp2
 go_ret;exact ⟨rfl,rfl⟩
theorem xDN (n:Nat) (hn:1<=n) (b:Bdy) (bh:BH) (bx:Nat) (w0 w:World) (hw:Below w0.heap.size w0 w) (H:BdAt w0 b bh) (h6:w.cell? ⟨bx,6,none⟩=some (.slice bh.A5 b.blocks.length bh.c5)) (hc:cntB b.blocks<=1000000000000):
 SeqL Fence.wide n Tryz.prog 135 #[.pointer (some ⟨bx,0,none⟩)] (encL b.blocks) (fun _=>false) (fun k=>k<w0.heap.size\/k=bx) (List.range (cntB b.blocks)) w:=by
 intro lp J Jx W hW hJ hJx hY h0;have g6:=cQ hW h6;have HBLK:=aH H.blk;have hbl:=H.blk.le;have hbg:=H.blk.big;have HC:=aH hc;have hbx:=cF w _ h6;have hB0:=aH (hw.trans (hW.mono hw.size));have HJ:=aH hJ;have HYY:=aH hY;have H00:=aH h0;have HWS:=aH hW.size;clear H h6 hc hY h0 hW;(refine callsIn_of_wp Tryz.func135 rfl trivial ?_ rfl;simp only [Tryz.ntmps135,List.size_toArray,bN,bQ,Nat.reduceAdd,Nat.reduceSub,Array.replicate_succ,Array.replicate_zero,List.push_toArray,List.append_toArray,List.nil_append,List.cons_append]);gi_wp2
 gi_loopw [3,4,10] (fun p _ i wr=>∃k:Nat,p = .int .i64 (stB b.blocks k)/\i = .int .i64 k/\k<=b.blocks.length/\Hid (J (List.range (stB b.blocks k)) wr)/\Hid (Below w0.heap.size w0 wr)/\W.heap.size<=wr.heap.size) (fun _ _ i _=>b.blocks.length - (intOf i).toNat)
 case atStart=>exact ⟨0,by rw [stB_zero];rfl,rfl,by omega,aH (by rw [stB_zero];exact H00.out),hB0,bA _⟩
 case round=>
  clear H00 g6;obtain ⟨k,rfl,rfl,hk,HJ0,HB,hsz⟩:=hrel;by_cases h2:k<b.blocks.length
  case neg=>
   have hke:k=b.blocks.length:=by omega
   subst hke;gi_wp2
   go_end0
   exact ⟨⟨_,rfl⟩,.inl HJ0.out⟩
  case pos=>
  obtain ⟨bb,oo,hA,hbb,hx⟩:=(HBLK.out.keep RBk.keeps HB.out).sl.at_ h2;obtain ⟨A1,c1,A2,c2,A3,c3,A4,c4,p0,p1,p2,p3,p4,p5,p6,-⟩:=eX hx;have HX:=aH (bF h2);have hle:=nF b.blocks (show k+1<=b.blocks.length by omega);have hcc:cntB b.blocks<=1000000000000:=HC.out;unfold cntB at hcc;have hs:=eP HX.out;obtain ⟨x,hxx⟩:∃x,b.blocks[k]=x:=⟨_,rfl⟩;rw [hxx] at p0 p1 p2 p3 p4 p5 p6 hs HX;have HS:=aH hs;have hs12:stB b.blocks k+x.stmts.length+1<=1000000000000:=by omega
  rw [hA];obtain ⟨W1,hW1⟩:∃W,wr.alloc (.cells (bkL x A1 c1 A2 c2 A3 c3 A4 c4).toArray 116)=W:=⟨_,rfl⟩;obtain ⟨hb1,hsw,hnn⟩:=xBU (_b:=0) (_o:=0) _ hW1;have n0:=hnn 0 _ rfl;have HB1:=aH (HB.out.trans (hb1.mono HB.out.size));have HJ1:=aH (HJ.out _ _ _ HJ0.out (Turn.of_below hb1));unfold bkL at hW1;generalize hs0:stB b.blocks k=s0 at *;have HS0:=aH hs0;clear hx hA hxx hcc hle hs hnn hs0;gi_wp2
  gi_loopw [3,6,19] (fun p _ j wr2=>∃m:Nat,p = .int .i64 (s0+m:Nat)/\j = .int .i64 m/\m<=x.stmts.length+1/\Hid (J (List.range (s0+m)) wr2)/\Hid (Below w0.heap.size w0 wr2)/\W.heap.size<=wr2.heap.size) (fun _ _ j _=>x.stmts.length+1 - (intOf j).toNat)
  case atStart=>exact ⟨0,rfl,rfl,by omega,HJ1,HB1,by omega⟩
  case round=>
   clear HJ1 HJ0 p0 p1 p2 p3 p4 p5 p6 n0 hW1;obtain ⟨m,rfl,rfl,hm,HJ2,HB2,hsz2⟩:=hrel;by_cases h3:m<x.stmts.length+1
   case neg=>
    have hme:m=x.stmts.length+1:=(by omega);subst hme;gi_wp2
    go_roundw
    case rel=>exact ⟨k+1,by rw [HS.out],by go_num,by omega,aH (by rw [HS.out];exact HJ2.out),HB2,hsz2⟩
    case measure=>first | (simp [intOf];done) | (simp [intOf];omega)
   case pos=>
   have hlt:s0+m<cntB b.blocks:=by have:=iO HX.out;have:=HS0.out;omega
   obtain ⟨fn,tmps,assign,body,hy,hR⟩:=HYY.out (List.range (s0+m)) (s0+m) _ wr (rE hlt) HJ2.out
   have he:encL b.blocks (s0+m) = #[.int .i64 ((s0:Int)+(m:Int)),.agg #[.int .i64 k,.int .i64 m]]:=by
    unfold encL;rw [<- HS0.out,xCU HX.out (by omega)];push_cast
    rfl
   rw [he] at hy;clear he;gi_wp2
   refine hR.mono ?_;clear hy hR;rintro e W3 (⟨rfl,hJ3,hk3⟩ | ⟨rfl,hJx3⟩)
   ·have HJ3:=aH hJ3;have HB3:=aH (HB2.out.trans (hk3.below (n₀ := w0.heap.size) (fun k hk=> .inl hk) HB2.out.size));have hsz3:=hk3.size;clear hJ3 hk3;gi_wp2
    go_roundw
    case rel=>exact ⟨m+1,by go_num,by go_num,by omega,aH (by rw [<- Nat.add_assoc,List.range_succ];exact HJ3.out),HB3,by omega⟩
    case measure=>first | (simp [intOf];done) | (simp [intOf];omega)
   ·have HJX:=aH hJx3;have HR2:=aH (rE hlt);clear hJx3;gi_wp2
    refine bodyPost_ret (results_none rfl _ _ _) rfl ?_;exact ⟨⟨_,rfl⟩,.inr ⟨_,_,_,HR2.out,HJX.out⟩⟩
end
section
open Go Go.RowKit
attribute [local go_sem] Oper.semAt_some
def prC (z:Int × Int):List Value:=[.int .i64 z.1,.int .i64 z.2]
theorem kQ {W:World} {base n:Nat} {e:TypeId} {v:Value} {ys:List (Int × Int)} (h:W.ownsRow base e 2 v n (ys.flatMap prC)) (hn:ys.length=n):∃A c,v = .slice A n c/\Slc 2 RPr W A c ys:=by
 subst hn;rcases h.2 with ⟨rfl,hz⟩ | ⟨g,cap,cur,rfl,hb,hh,hnc,hm,_,_⟩
 ·have:ys=[]:=bW hz;subst this;exact ⟨none,0,rfl,Sl.nil,by simp,by omega⟩
 ·refine ⟨some ⟨g,0,none⟩,cap,rfl,⟨fun _=>⟨g,0,rfl,(Array.getElem?_eq_some_iff.1 hh).1,fun i x hx=>?_⟩,hnc,by simp only [maxLen] at hm;omega⟩⟩
  have key:∀(ys:List (Int × Int)) (i:Nat),ys[i]?=some x->(ys.flatMap prC)[i * 2]?=some (.int .i64 x.1)/\(ys.flatMap prC)[i * 2+1]?=some (.int .i64 x.2):=by
   intro ys;induction ys with
   | nil=>intro i hi;simp at hi
   | cons y r ih=>
     intro i hi;cases i with
     | zero=>simp at hi;subst hi;simp [prC]
     | succ i=>
       obtain ⟨h1,h2⟩:=ih i (by simpa using hi);rw [show (i+1) * 2=i * 2+2 by omega];simpa [prC] using ⟨h1,h2⟩
  obtain ⟨h1,h2⟩:=key ys i hx;have c1:=h.cells (g:=g) rfl (i * 2) _ h1;have c2:=h.cells (g:=g) rfl (i * 2+1) _ h2;rw [add0] at c1 c2;exact ⟨by simpa using c1,by simpa [Nat.add_assoc] using c2⟩
theorem yS {l:List (Int × Int)} {P:Int × Int->Prop} {n:Nat} (h:Srt2 l P) (hP:∀z,P z->0<=z.1/\z.1<(n:Int)/\0<=z.2/\z.2<(n:Int)):l.length<=n * n:=
 oQ n dY l (h.1.imp fun {a b} hab e=>by subst e;exact iE hab hab) (fun p hp=>hP p ((h.2 p).1 hp))
theorem wH:(Tryz.prog.info? 42).map (fun i=>(i.zero,i.size,i.bytes))=some (some (.agg #[.int .i64 0,.int .i64 0]),2,16):=by kernel_rfl
structure Eb (W0:World) (lc:Nat) (W:World):Prop where
 os:W.os=W0.os
 tape:W.tape=W0.tape
 output:W.output=W0.output
 size:W0.heap.size<=W.heap.size
 keep:∀k,k<W0.heap.size->k≠lc->W.heap[k]?=W0.heap[k]?
theorem Eb.refl (W:World) (lc:Nat):Eb W lc W:=⟨rfl,rfl,rfl,bA _,fun _ _ _=>rfl⟩
theorem Eb.turn {W0 A B:World} {lc:Nat} {T:TypeId->Bool} (h:Eb W0 lc A) (ht:Turn W0.heap.size T A B):Eb W0 lc B:=
 ⟨ht.os.trans h.os,ht.tape.trans h.tape,ht.output.trans h.output,cA h.size ht.size,fun k hk hne=>(ht.low k hk (bP hk h.size)).trans (h.keep k hk hne)⟩
theorem Eb.then_ {W0 A B:World} {lc:Nat} (h:Eb W0 lc A) (hb:Below A.heap.size A B):Eb W0 lc B:=
 ⟨hb.os.trans h.os,hb.tape.trans h.tape,hb.output.trans h.output,cA h.size hb.size,fun k hk hne=>(hb.block k (bP hk h.size)).trans (h.keep k hk hne)⟩
theorem Eb.set {W0 A:World} {lc:Nat} (h:Eb W0 lc A) (j:Nat) (v:Value):Eb W0 lc (A.setCell ⟨lc,j,none⟩ v):=
 ⟨h.os,h.tape,h.output,by simpa using h.size,fun k hk hne=>(bJ A ⟨lc,j,none⟩ v k hne).trans (h.keep k hk hne)⟩
theorem Eb.grown {W0 A B:World} {lc:Nat} {row:Option Nat} (h:Eb W0 lc A) (hg:A.grownBy B row) (hr:∀g,row=some g->W0.heap.size<=g):Eb W0 lc B:=
 ⟨hg.os.trans h.os,hg.tape.trans h.tape,hg.output.trans h.output,cA h.size hg.size,fun k hk hne=>(hg.block k (bP hk h.size) (fun e=>by have:=hr k e.symm;omega)).trans (h.keep k hk hne)⟩
theorem Eb.below {w W0 W:World} {lc:Nat} (h:Eb W0 lc W) (hb:Below w.heap.size w W0) (hl:w.heap.size<=lc):Below w.heap.size w W:=
 ⟨h.os.trans hb.os,h.tape.trans hb.tape,h.output.trans hb.output,cA hb.size h.size,fun k hk=>(h.keep k (bP hk hb.size) (by omega)).trans (hb.block k hk)⟩
theorem Eb.ints {W0 W:World} {lc:Nat} (h:Eb W0 lc W) {v:Value} {T:TypeId} (hv:W0.heap[lc]?=some (.cells #[v] T (0,0))) (hi:∀q x,v ≠ .int q x) {A:Option Addr} {c:Nat} {xs:List Int} (hs:Slc 1 RInt W0 A c xs):Slc 1 RInt W A c xs:=by
 refine ⟨fun hn=>?_,hs.le,hs.big⟩;obtain ⟨b,off,hA,hlt,hx⟩:=hs.sl hn;refine ⟨b,off,hA,bP hlt h.size,fun i x hix=>?_⟩;have hc:=hx i x hix
 have hne:b≠lc:=fun e=>by
  subst e;unfold RInt World.cell? at hc;rw [hv] at hc;have hc2:(#[v]:Array Value)[off+i * 1]?=some (.int .i64 x):=hc;obtain ⟨hl,he⟩:=Array.getElem?_eq_some_iff.1 hc2;have h0:off+i * 1=0:=by simp at hl;omega
  simp only [h0] at he;exact hi _ _ he
 exact (World.cell?_of_block (a:=⟨b,off+i * 1,none⟩) (h.keep b hlt hne)).trans hc
theorem Kc.put {A:World} {D:Nat} {o:Obj} (o':Obj) (h:A.heap[D]?=some o) (hn:∀cs e z,o ≠ .cells cs e z):Kc A (A.putObj D o'):=
 ⟨fun a v g=>by
   obtain ⟨cs,e,z,hc⟩:=nS g;refine (World.cell?_of_block (World.putObj_heap_other (fun e'=>?_))).trans g;rw [e',h] at hc;injection hc with hc
   exact hn cs e z hc,by simp⟩
theorem yT {w W:World} {A:Option Addr} {c:Nat} {xs:List Int} (h:Slc 1 RInt w A c xs) (hs:w.heap.size<=W.heap.size) (hb:∀a,A=some a->a.block<w.heap.size->W.heap[a.block]?=w.heap[a.block]?):Slc 1 RInt W A c xs:=
 ⟨fun hn=>by
   obtain ⟨b,off,hA,hlt,hx⟩:=h.sl hn
   exact ⟨b,off,hA,by omega,fun i x hi=>(World.cell?_of_block (a:=⟨b,off+i * 1,none⟩) (hb ⟨b,off,none⟩ hA hlt)).trans (hx i x hi)⟩,h.le,h.big⟩
structure EdS (bs:List Blk) (W0:World) (lc p:Nat) (l:List Int) (W:World) (v:Value) (L:List (Int × Int)):Prop where
 head:W.heap[lc]?=some (.cells #[v] 23 (0,0))
 own:W.ownsRow W0.heap.size 42 2 v L.length (L.flatMap prC)
 srt:Srt2 L (fun z=>folP bs z.1 z.2/\(z.1<(p:Int)\/(z.1=(p:Int)/\z.2∈l)))
 eb:Eb W0 lc W
theorem EdS.turn {bs:List Blk} {W0 A B:World} {lc p:Nat} {l:List Int} {v:Value} {L:List (Int × Int)} (h:EdS bs W0 lc p l A v L) (hl:lc<W0.heap.size) {T:TypeId->Bool} (hT:T 42=false) (ht:Turn W0.heap.size T A B):EdS bs W0 lc p l B v L:=
 ⟨ht.block_low hl h.head,ht.grownBy hT h.own,h.srt,h.eb.turn ht⟩
theorem EdS.then_ {bs:List Blk} {W0 A B:World} {lc p:Nat} {l:List Int} {v:Value} {L:List (Int × Int)} (h:EdS bs W0 lc p l A v L) (hb:Below A.heap.size A B):EdS bs W0 lc p l B v L:=
 ⟨(hb.block _ (Array.getElem?_eq_some_iff.1 h.head).1).trans h.head,dE h.own hb,h.srt,h.eb.then_ hb⟩
theorem EdS.rec_ {bs:List Blk} {W0 A B:World} {lc p lr:Nat} {l:List Int} {v:Value} {L:List (Int × Int)} (h:EdS bs W0 lc p l A v L) (hr:Rec lr A B) (hl:W0.heap.size<=lr):EdS bs W0 lc p l B v L:=by
 refine ⟨hr.cells h.head,⟨h.own.1,?_⟩,h.srt,⟨hr.os.trans h.eb.os,hr.tape.trans h.eb.tape,hr.output.trans h.eb.output,by rw [hr.size];exact h.eb.size,fun k hk hne=>(hr.block k (by omega)).trans (h.eb.keep k hk hne)⟩⟩;rcases h.own.2 with hn | ⟨g,cap,cur,hv,hg,hh,rest⟩
 ·exact .inl hn
 ·exact .inr ⟨g,cap,cur,hv,hg,hr.cells hh,rest⟩
theorem EdS.more {bs:List Blk} {W0 A:World} {lc p:Nat} {l:List Int} {v:Value} {L:List (Int × Int)} (h:EdS bs W0 lc p l A v L) {s:List Int} (hs:Srt s (folP bs p)) {j:Nat} (hj:j<s.length) (hl:l=s.take j):Srt2 (L ++ [((p:Int),s[j])]) (fun z=>folP bs z.1 z.2/\(z.1<(p:Int)\/(z.1=(p:Int)/\z.2∈s.take (j+1)))):=by
 have hf:folP bs p s[j]:=(hs.2 _).1 (bO hj);refine (h.srt.push (q:=((p:Int),s[j])) fun z hz=>?_).iff fun z=>?_
 ·rcases hz.2 with e | ⟨e,e2⟩
  ·exact .inl e
  ·refine .inr ⟨e,?_⟩;rw [hl] at e2;obtain ⟨i,hi,e3⟩:=List.getElem_of_mem e2;rw [cO] at hi;rw [List.getElem_take] at e3;rw [<- e3];exact List.pairwise_iff_getElem.1 hs.1 i j (by omega) hj (by omega)
 ·rw [bH hj,hl];simp only [cL,bU];constructor
  ·rintro (⟨a,b⟩ | rfl)
   ·exact ⟨a,b.imp id (fun ⟨c,d⟩=>⟨c,.inl d⟩)⟩
   ·exact ⟨hf,.inr ⟨rfl,.inr rfl⟩⟩
  ·rintro ⟨a,b | ⟨c,d | d⟩⟩
   ·exact .inl ⟨a,.inl b⟩
   ·exact .inl ⟨a,.inr ⟨c,d⟩⟩
   ·exact .inr (Prod.ext c d)
theorem EdS.next {bs:List Blk} {W0 A:World} {lc p:Nat} {v:Value} {L:List (Int × Int)} {s:List Int} (h:EdS bs W0 lc p s A v L) (hs:Srt s (folP bs p)):EdS bs W0 lc (p+1) [] A v L:=
 ⟨h.head,h.own,h.srt.iff fun z=>by
   constructor
   ·rintro ⟨a,b | ⟨b,c⟩⟩
    ·exact ⟨a,.inl (by omega)⟩
    ·exact ⟨a,.inl (by omega)⟩
   ·rintro ⟨a,b | ⟨_,c⟩⟩
    ·refine ⟨a,?_⟩;by_cases e:z.1=(p:Int)
     ·exact .inr ⟨e,(hs.2 _).2 (by rw [<- e];exact a)⟩
     ·exact .inl (by omega)
    ·exact absurd c List.not_mem_nil,h.eb⟩
theorem pD (b:Bdy) (bh:BH) (w:World) (H:BdAt w b bh) (hc:cntB b.blocks<=1000000) (hl:b.blocks.length<=1000000) (ht:∀x∈b.blocks,x.term.targets.length<=1000000000000):
 Calls Tryz.prog 63 #[.agg (bdC b bh).toArray] w fun e' w'=>∃A c L,e' = .returned (.slice A L.length c)/\Srt2 L (fun z=>folP b.blocks z.1 z.2)/\Slc 2 RPr w' A c L/\Below w.heap.size w w':=by
 have HH:=aH H;have HT:=aH ht;have HS:=aH (fun (W:World) (hb:Below w.heap.size w W)=>mH b bh W (H.keep hb) (by rw [gC];omega) hl);have HN:=aH (fun (W:World) (hb:Below w.heap.size w W)=>fun i k x hx hk FA fc hf=>zK b bh i k x hx hk FA fc W (H.keep hb) hf (by omega) (ht x (List.mem_of_getElem? hx)));have HA:=aH (fun (W:World)=>xDO b bh W);have HY:=aH (cT w (#[Value.string b.name,.slice bh.A1 b.regions.length bh.c1,.slice bh.A2 b.outl.length bh.c2,.slice bh.A3 b.types.length bh.c3,.slice bh.A4 b.locals.length bh.c4,.int .i64 b.args,.slice bh.A5 b.blocks.length bh.c5]).toList 59);unfold bdC at *;refine (callsIn_wide (n:=5)).1 ?_;refine callsIn_of_wp_marks Tryz.func63 rfl trivial ?_ rfl;simp only [Tryz.ntmps63,List.size_toArray,bN,bQ,Nat.reduceAdd,Nat.reduceSub,Array.replicate_succ,Array.replicate_zero,List.push_toArray,List.append_toArray,List.nil_append,List.cons_append];obtain ⟨W1,hW1⟩:∃W,(w.alloc (.cells #[Value.string b.name,.slice bh.A1 b.regions.length bh.c1,.slice bh.A2 b.outl.length bh.c2,.slice bh.A3 b.types.length bh.c3,.slice bh.A4 b.locals.length bh.c4,.int .i64 b.args,.slice bh.A5 b.blocks.length bh.c5] 59)).alloc (.cells #[.slice none 0 0] 23)=W:=⟨_,rfl⟩;have hb1:Below w.heap.size w W1:=by rw [<- hW1];exact aJ
 have HX:Hid (∀i v,(#[Value.string b.name,.slice bh.A1 b.regions.length bh.c1,.slice bh.A2 b.outl.length bh.c2,.slice bh.A3 b.types.length bh.c3,.slice bh.A4 b.locals.length bh.c4,.int .i64 b.args,.slice bh.A5 b.blocks.length bh.c5]).toList[i]?=some v->W1.cell? ⟨w.heap.size,i,none⟩=some v):=aH (fun i v hi=>by rw [<- hW1];exact cQ ((aZ _ _).alloc (bA _) _) (HY.out i v hi));have HL1:Hid (W1.heap[w.heap.size+1]?=some (.cells #[.slice none 0 0] 23 (0,0))):=aH (by rw [<- hW1];exact kK _ _ _ (by simp));obtain ⟨y0,y1,y2,y3,y4,y5,y6⟩:=aU HX.out;clear HY
 gi_wp2_with (first
  | (refine ⟨trivial,?_⟩;gi_at_call 89;refine (callsIn_wide.2 (HS.out _ hb1)).mono ?_;rintro e' w2 ⟨⟨FA,fc,rfl,hf⟩,hb2⟩;have HF:=aH hf;have HB2:=aH hb2;have hlw2:w.heap.size<w2.heap.size:=bP (cF W1 _ y0) hb2.size;have hlw3:w.heap.size+1<w2.heap.size:=bP (Array.getElem?_eq_some_iff.1 HL1.out).1 hb2.size;replace y0:=cQ hb2 y0;replace y1:=cQ hb2 y1;replace y2:=cQ hb2 y2;replace y3:=cQ hb2 y3;replace y4:=cQ hb2 y4;replace y5:=cQ hb2 y5;replace y6:=cQ hb2 y6;clear hf hb2)
  | (refine ⟨trivial,?_⟩;gi_at_call 90;refine (callsIn_wide.2 (HA.out _)).mono ?_;rintro e' w' ⟨rfl,rfl⟩))
 obtain ⟨W0,hW0⟩:∃W,(w2.alloc (.cells #[.slice FA (b.blocks.length+1) fc] 48)).alloc (.cells #[Value.string b.name,.slice bh.A1 b.regions.length bh.c1,.slice bh.A2 b.outl.length bh.c2,.slice bh.A3 b.types.length bh.c3,.slice bh.A4 b.locals.length bh.c4,.int .i64 b.args,.slice bh.A5 b.blocks.length bh.c5] 59)=W:=⟨_,rfl⟩;rw [hW0];have hb20:Below w2.heap.size w2 W0:=by rw [<- hW0];exact aJ
 have hz0:W0.heap.size=w2.heap.size+1+1:=by rw [<- hW0];simp
 have hbw2:Below w.heap.size w w2:=hb1.trans (HB2.out.mono hb1.size);have HB0:=aH (hbw2.trans (hb20.mono hbw2.size));have h6:W0.cell? ⟨w2.heap.size+1,6,none⟩=some (.slice bh.A5 b.blocks.length bh.c5):=by rw [<- hW0];clear hW0;go_simp
 have HF0:Hid (W0.cell? ⟨w2.heap.size,0,none⟩=some (.slice FA (b.blocks.length+1) fc)):=aH (by rw [<- hW0];clear hW0;go_simp);have HX0:Hid (∀i v,(#[Value.string b.name,.slice bh.A1 b.regions.length bh.c1,.slice bh.A2 b.outl.length bh.c2,.slice bh.A3 b.types.length bh.c3,.slice bh.A4 b.locals.length bh.c4,.int .i64 b.args,.slice bh.A5 b.blocks.length bh.c5]).toList[i]?=some v->W0.cell? ⟨w.heap.size,i,none⟩=some v):=aH (fun i v hi=>cQ hb20 (cQ HB2.out (HX.out i v hi)));have HL0:Hid (W0.heap[w.heap.size+1]?=some (.cells #[.slice none 0 0] 23 (0,0))):=aH ((hb20.block _ (by have:=HB2.out.size;have:=(Array.getElem?_eq_some_iff.1 HL1.out).1;omega)).trans ((HB2.out.block _ (Array.getElem?_eq_some_iff.1 HL1.out).1).trans HL1.out));have hlc:w.heap.size+1<W0.heap.size:=(Array.getElem?_eq_some_iff.1 HL0.out).1;have HFS:=aH (HF.out.keep RInt.keeps hb20);have hseq:=xDN (5 - 1) (by omega) b bh (w2.heap.size+1) w W0 HB0.out HH.out h6 (by omega);obtain ⟨i0,hi0,hq0,hq1,hq2⟩:=info_parts wH;clear hW0 hW1 y0 y1 y2 y3 y4 y5 y6 h6 HA HS HL1 HX hb20 hb1 HB2 HF
 refine fD rfl (by omega) (gf:=135) (lb:= #[.pointer (some ⟨w2.heap.size+1,0,none⟩)]) rfl trivial (enters_of Tryz.func135 (by kernel_rfl) rfl)
  hseq (aZ _ _) (by rintro k (hk | rfl) <;> have:=HB0.out.size <;> omega) (fun _=>rfl)
  (fun pre W=>∃v L,EdS b.blocks W0 (w.heap.size+1) pre.length [] W v L)
  (fun _ _ _=>False)
  (fun s A B ⟨v,L,hs⟩ ht=>⟨v,L,hs.turn hlc rfl ht⟩) (fun _ _ _ _ hs _=>hs)
  ⟨_,[],HL0.out,World.ownsRow_nil _ _ _ _,Srt2.nil (fun z hz=>by rcases hz.2 with h | ⟨_,h⟩;have:=(fX hz.1).1;simp at h;omega;cases h),Eb.refl _ _⟩ ?round ?done ?stop
 case round=>
  rintro lr pre x post W hL hlr ⟨rr,hr⟩ hWs ⟨v,L,hE⟩;obtain ⟨rfl,hx⟩:=uP hL;rw [List.length_range] at hE;obtain ⟨⟨i,k⟩,hloc⟩:=mN (bs:=b.blocks) (p:=(x:Int)) (by omega) (by omega);obtain ⟨y,hy,hk,hi⟩:=vU hloc;have hpx:Hid (stB b.blocks i+k=x):=aH (by obtain ⟨_,_,_,h3⟩:=dP.1 hloc;omega);have hln:locN b.blocks x=(i,k):=by unfold locN;rw [hloc];rfl
  simp only [encL,hln,List.zip_toArray,List.zip_cons_cons];gi_wp2
  refine ⟨(Kb.refl _ _ _ _).alloc _,fun W2 hrec=>?_⟩;obtain ⟨WL,hWL⟩:∃X,W.alloc (.cells #[.int .i64 i,.int .i64 k] 154)=X:=⟨_,rfl⟩;rw [hWL] at hrec;have hbl1:Below W.heap.size W WL:=by rw [<- hWL];exact (aZ _ _).alloc (bA _) _
  have hE2:=(hE.then_ hbl1).rec_ hrec hlr;obtain ⟨l0,l1⟩:=fO W (.int .i64 i) (.int .i64 k) 154;rw [hWL] at l0 l1;replace l0:=hrec.cell l0;replace l1:=hrec.cell l1;have hsz2:W2.heap.size=W.heap.size+1:=by rw [hrec.size,<- hWL];simp
  have hw0:w.heap.size<W0.heap.size:=by omega
  have HX2:=fun i v hi=>(World.cell?_of_block (a:=⟨w.heap.size,i,none⟩) (hE2.eb.keep w.heap.size hw0 (by omega))).trans (HX0.out i v hi)
  have f0:=(World.cell?_of_block (a:=⟨w2.heap.size,0,none⟩) (hE2.eb.keep w2.heap.size (by omega) (by have:=hbw2.size;omega))).trans HF0.out;have hb02:=hE2.eb.below HB0.out (Nat.le_succ _);have HNX:=aH (HN.out W2 hb02 i k y hy hk FA fc (hE2.eb.ints HL0.out (by intro q x h;cases h) HFS.out));rw [hpx.out] at HNX;have HE2:=aH hE2;have HLR:=aH hlr;have y0:=HX2 0 _ rfl;have y1:=HX2 1 _ rfl;have y2:=HX2 2 _ rfl;have y3:=HX2 3 _ rfl;have y4:=HX2 4 _ rfl;have y5:=HX2 5 _ rfl;have y6:=HX2 6 _ rfl;clear hE hE2 HX2 hWL hbl1 hb02 hseq hrec hr hy hk hi hloc hln;gi_wp2_with (refine ⟨trivial,?_⟩;gi_at_call 91;refine (CallsIn.inRound _ (callsIn_wide.2 HNX.out)).mono ?_;rintro e' w3 ⟨SA,sc,s,rfl,hsr,hsl,hfr,hb3⟩;have HSR:=aH hsr;have HSL:=aH hsl;have HFR:=aH hfr;have HB3:=aH hb3;have HE3:=aH (HE2.out.then_ hb3);have hs3:=hb3.size;clear hsr hsl hfr hb3 y0 y1 y2 y3 y4 y5 y6 l0 l1 f0)
  have hsle:=HSL.out.le;have hsbg:=HSL.out.big;gi_loopw [8,20] (fun _ j wr=>∃(m:Nat) (v:Value) (L:List (Int × Int)),j = .int .i64 m/\m<=s.length/\Hid (EdS b.blocks W0 (w.heap.size+1) x (s.take m) wr v L)/\Hid (Kb (fun k=>k<w.heap.size\/k=w2.heap.size+1) (w2.heap.size+1+1) (fun _=>false) W2 wr)/\w3.heap.size<=wr.heap.size/\Hid (∀a,SA=some a->a.block<w3.heap.size->wr.heap[a.block]?=w3.heap[a.block]?)/\Hid (∀a,SA=some a->a.block<w3.heap.size->v.ownBlock≠some a.block)) (fun _ j _=>s.length - (intOf j).toNat)
  case atStart=>
   refine ⟨0,v,L,rfl,by omega,HE3,aH ((Kb.refl _ _ _ _).then_ HB3.out),bA _,aH (fun _ _ _=>rfl),aH (fun a ha hl he=>?_)⟩;have h1:=HFR.out a ha;have h2:=(HE2.out.own.lt _ he).2;omega
  case round=>
   obtain ⟨m,v,L,rfl,hm,HE,HK,hsz,HSB,HNE⟩:=hrel;by_cases hlt:m<s.length
   case neg=>
    have hms:m=s.length:=(by omega);subst hms;rw [cB] at HE;gi_wp2
    exact ⟨HK.out,v,L,by rw [bE,List.length_range];exact HE.out.next HSR.out⟩
   case pos=>
   obtain ⟨sb,so,hSA,hsb,hx0⟩:=(yT HSL.out hsz HSB.out).sl.at_ hlt;have x0:wr.cell? ⟨sb,so+m,none⟩=some (.int .i64 s[m]):=by simpa [RInt] using hx0
   have HMO:=aH (HE.out.more HSR.out hlt rfl);generalize s[m]=q at *;have hh:=HE.out.head;have c0:wr.cell? ⟨w.heap.size+1,0,none⟩=some v:=cR (l:=[v]) hh 0 _ rfl;have hfz:wr.frozen? ⟨w.heap.size+1,0,none⟩=false:=by simp [World.frozen?,hh]
   have hown:=HE.out.own;obtain ⟨VA,vc,rfl⟩:=cW hown;have hLn:=yS (n:=cntB b.blocks) HE.out.srt (fun z hz=>fX hz.1);have hLb:L.length<=1000000000000:=cA hLn (cA (Nat.mul_le_mul hc hc) (by omega));rw [hSA];have HSA:=aH hSA;have hown2:=hown.alloc (.cells #[.int .i64 (x:Int),.int .i64 q] 42);clear hx0 hSA hLn;have hszW:=HE.out.eb.size;gi_wp2_with (gi_at_builtin;refine wpListIn_append_own_at _ rfl _ _ 23 rfl W0.heap.size 42 i0 _ 2 16 Tryz.underlying23 hi0 hq0 hq1 hq2 rfl (by decide) (.slice VA L.length vc) _ _ rfl hown2 ⟨wr.heap.size,0,none⟩ 1 1 (prC ((x:Int),q)) rfl rfl (fun j u hj=>by rw [add0];exact fR _ _ _ j u hj) (fun u hu=>by simp [prC] at hu;rcases hu with rfl | rfl <;> rfl) (by unfold maxLen;omega) (by omega) (by simp;omega) ?_;intro v' w5 hown' hgrow _ hloc;obtain ⟨VB,vd,rfl⟩:=cW hown';have hh5:w5.heap[w.heap.size+1]?=some (.cells #[.slice VA L.length vc] 23 (0,0)):=(hgrow.block _ (by simp;omega) (dQ hown2 (by omega))).trans (((aZ _ _).alloc (bA _) _).block _ (by omega) |>.trans hh);have c5:=cR (l:=[.slice VA L.length vc]) hh5 0 _ rfl;have hf5:w5.frozen? ⟨w.heap.size+1,0,none⟩=false:=by simp [World.frozen?,hh5])
   have hal:Below wr.heap.size wr (wr.alloc (.cells #[.int .i64 (x:Int),.int .i64 q] 42)):=(aZ _ _).alloc (bA _) _;have hlo:=fun g hg=>(hown2.lt g hg).1
   have hset:∀k,k≠w.heap.size+1->(w5.setCell ⟨w.heap.size+1,0,none⟩ (.slice VB (L.length+1) vd)).heap[k]?=w5.heap[k]?:=fun k hk=>bJ w5 ⟨w.heap.size+1,0,none⟩ _ k hk
   go_roundw
   case rel=>
    refine ⟨m+1,_,L ++ [((x:Int),q)],by go_num,by omega,aH ⟨gF hh5,?_,HMO.out,((HE.out.eb.then_ hal).grown hgrow hlo).set 0 _⟩,aH ?_,?_,aH ?_,aH ?_⟩
    ·rw [bE,cC];refine dC (A:=w5) (by simpa using hown') (fun k hk _ _=>hset k (by omega))
    ·refine ((HK.out.then_ hal).grown hgrow (fun g hg=>⟨.inl (fun h=>?_),.inr (.inr ?_)⟩)).setLow (p:=⟨w.heap.size+1,0,none⟩) _ (by simp;omega) (by simp;omega)
     ·have:=hlo g hg;rcases h with h | h <;> omega
     ·rcases hown2.2 with ⟨h1,_⟩ | ⟨g',cap,cur,h1,_,h2,_⟩
      ·rw [h1] at hg;cases hg
      ·rw [h1] at hg;injection hg with hg;subst hg;exact ⟨_,_,_,h2,rfl⟩
    ·have:=hgrow.size;simp at this ⊢;omega
    ·intro a ha hla;rw [<- HSA.out] at ha;have h1:=HFR.out a ha;have h2:=HE2.out.eb.size;refine (hset a.block (by omega)).trans ((hgrow.block a.block (by simp;omega) (fun e=>HNE.out a ha hla e.symm)).trans ((hal.block _ (by omega)).trans (HSB.out a ha hla)))
    ·intro a ha hla e;rw [<- HSA.out] at ha;rcases hloc with h | h
     ·exact HNE.out a ha hla (by rw [<- h];simpa using e)
     ·have:some a.block=some (wr.alloc (.cells #[.int .i64 (x:Int),.int .i64 q] 42)).heap.size:=by rw [<- h];simpa using e.symm
      injection this with this
      simp at this;omega
   case measure=>simp [intOf];omega
 case done=>
  rintro D W hD ⟨v,L,hE⟩ hK;rw [List.length_range] at hE;have c0:=cR (l:=[v]) hE.head 0 _ rfl;have hE2:=aH hE;obtain ⟨SA,sc,rfl,hsl⟩:=kQ hE.own rfl;have HSL:=aH hsl;clear hE hsl hseq;gi_wp2
  refine ⟨by simp,.inl ⟨_,_,rfl,run_takeDeferred (w:=W) hK,?_⟩⟩;refine ⟨_,results_tmp rfl _ _ _,SA,sc,L,rfl,hE2.out.srt.iff fun z=>?_,HSL.out.keepC RPr.keepsC (Kc.put _ hK (fun cs e z h=>by cases h)),below_put (hE2.out.eb.below HB0.out (Nat.le_succ _)) (by have:=HB0.out.size;omega)⟩
  ·constructor
   ·exact fun h=>h.1
   ·intro h;have:=fX h;exact ⟨h,.inl this.2.1⟩
 case stop=>exact fun _ _ _ _ _ _ _ _ h=>h.elim
end
section
open Go Go.RowKit
def befL (E:List (Int × Int)) (p:Nat):List Int:=(E.filter (fun e=>decide (e.2=(p:Int)))).map (·.1)
theorem xJ (E:List (Int × Int)) (a:Int) (b:Nat):befL (E ++ [(a,(b:Int))])=updL1 (befL E) b (befL E b ++ [a]):=by
 funext p
 unfold updL1 befL;rw [List.filter_append,bV];by_cases h:p=b
 ·subst h;simp
 ·rw [bB h];have:¬(b:Int)=(p:Int):=by omega
  simp [this]
theorem sE {bs:List Blk} {E:List (Int × Int)} (h:Srt2 E (fun z=>folP bs z.1 z.2)) (p:Nat):Srt (befL E p) (fun q=>folP bs q p):=by
 constructor
 ·unfold befL;rw [List.pairwise_map];refine List.Pairwise.imp_of_mem ?_ (h.1.filter _);intro a b ha hb hab;have h1:=(List.mem_filter.1 ha).2;have h2:=(List.mem_filter.1 hb).2;rw [decide_eq_true_eq] at h1 h2;unfold lt2 at hab;omega
 ·intro q;unfold befL;rw [cN];constructor
  ·rintro ⟨e,he,rfl⟩;obtain ⟨h1,h2⟩:=List.mem_filter.1 he;rw [decide_eq_true_eq] at h2;have:folP bs e.1 e.2:=(h.2 e).1 h1;rwa [h2] at this
  ·intro hf;exact ⟨(q,p),List.mem_filter.2 ⟨(h.2 _).2 hf,by simp⟩,rfl⟩
theorem sF {bs:List Blk} {E:List (Int × Int)} (h:Srt2 E (fun z=>folP bs z.1 z.2)) (p:Nat):(befL E p).length<=cntB bs:=
 (sE h p).len (fun q hq=>by have:=fX hq;exact ⟨this.1,this.2.1⟩)
theorem xK (E:List (Int × Int)) (k p:Nat):(befL (E.take k) p).length<=(befL E p).length:=by
 unfold befL;rw [cH,cH];exact ((List.take_sublist k E).filter _).length_le
theorem qD {U:List Int} {left:Int->Bool} {x:Int} (hx:x∈U) (hl:left x=true):(U.filter (fun z=>left z && decide (z≠x))).length+1<=(U.filter left).length:=by
 induction U with
 | nil=>cases hx
 | cons u r ih=>
   by_cases e:u=x
   ·subst e;have h1:((u :: r).filter (fun z=>left z && decide (z≠u)))=r.filter (fun z=>left z && decide (z≠u)):=by simp
    have h2:(u :: r).filter left=u :: r.filter left:=(by simp [hl]);rw [h1,h2,bN]
    have:(r.filter (fun z=>left z && decide (z≠u))).length<=(r.filter left).length:=by
     rw [<- List.countP_eq_length_filter,<- List.countP_eq_length_filter];exact List.countP_mono_left (fun z _ h=>by simp only [bR] at h;exact h.1)
    omega
   ·have hr:x∈r:=(List.mem_cons.1 hx).elim (fun h=>absurd h.symm e) id;have h3:=ih hr;by_cases hu:left u=true
    ·have h1:((u :: r).filter (fun z=>left z && decide (z≠x)))=u :: r.filter (fun z=>left z && decide (z≠x)):=by simp [hu,e]
     have h2:(u :: r).filter left=u :: r.filter left:=(by simp [hu]);rw [h1,h2,bN,bN];omega
    ·have h1:((u :: r).filter (fun z=>left z && decide (z≠x)))=r.filter (fun z=>left z && decide (z≠x)):=by simp [hu]
     have h2:(u :: r).filter left=r.filter left:=(by simp [hu]);rw [h1,h2];exact h3
structure Wb (bs:List Blk) (U:List Int) (wk:List (Int × Int)) (m:Nat) (left:Int->Bool):Prop where
 snd:∀e∈wk,e.2∈usP bs e.1
 cov:∀(p:Nat) (x:Int),p<m->x∈usP bs p->((p:Int),x)∈wk
 cur:∀x,x∈usP bs m->left x=true\/((m:Int),x)∈wk
 len:wk.length+(U.filter left).length<=(m+1) * U.length
theorem Wb.zero (bs:List Blk) (U:List Int) (left:Int->Bool) (h:∀x∈usP bs ((0:Nat):Int),left x=true):Wb bs U [] 0 left:=
 ⟨fun e he=>(by cases he),fun p x hp=>(by omega),fun x hx=> .inl (h x hx),by have:=List.length_filter_le left U;simp;omega⟩
theorem Wb.push {bs:List Blk} {U:List Int} {wk:List (Int × Int)} {m:Nat} {left:Int->Bool} (h:Wb bs U wk m left) {x:Int} (hx:x∈usP bs m) (hl:left x=true) (hU:x∈U):
 Wb bs U (wk ++ [((m:Int),x)]) m (fun z=>left z && decide (z≠x)):=
 ⟨fun e he=>(List.mem_append.1 he).elim (h.snd e) (fun e'=>by rw [List.mem_singleton.1 e'];exact hx),
  fun p y hp hy=>List.mem_append_left _ (h.cov p y hp hy),
  fun y hy=>by
   by_cases e:y=x
   ·subst e;exact .inr (by simp)
   ·exact (h.cur y hy).imp (fun g=>by simp [g,e]) (fun g=>List.mem_append_left _ g),
  by have h1:=h.len;have h2:=qD hU hl;rw [bE,cI];omega⟩
theorem Wb.next {bs:List Blk} {U:List Int} {wk:List (Int × Int)} {m:Nat} {left:Int->Bool} (h:Wb bs U wk m left) (hl:∀x,left x=false) (left':Int->Bool) (h':∀x∈usP bs ((m+1:Nat):Int),left' x=true):Wb bs U wk (m+1) left':=
 ⟨h.snd,fun p x hp hx=>by
   by_cases e:p=m
   ·subst e;exact (h.cur x hx).elim (fun g=>by rw [hl] at g;cases g) id
   ·exact h.cov p x (by omega) hx,
  fun x hx=> .inl (h' x hx),
  by have h1:=h.len;have h2:=List.length_filter_le left' U;rw [Nat.succ_mul];omega⟩
theorem Wb.more {bs:List Blk} {U:List Int} {wk:List (Int × Int)} {m:Nat} {left left':Int->Bool} (h:Wb bs U wk m left) (h':∀x,left x=true->left' x=true) (hl:(U.filter left').length<=(U.filter left).length):Wb bs U wk m left':=
 ⟨h.snd,h.cov,fun x hx=>(h.cur x hx).imp (h' x) id,by have:=h.len;omega⟩
theorem Wb.start {bs:List Blk} {U:List Int} {wk:List (Int × Int)} {m:Nat} {left:Int->Bool} (h:Wb bs U wk m left) (hm:cntB bs<=m):Wk bs U (fun _=>[]) wk (fun _ _ _=>False):=
 Wk.start h.snd (fun p x hx=>by
  have hp:0<=p/\p<(cntB bs:Int):=by
   cases e:locB bs p with
   | none=>rw [jX e] at hx;cases hx
   | some q=>exact nL e
  obtain ⟨k,rfl⟩:=bI hp.1
  exact h.cov k x (by omega) hx)
theorem Wb.all {bs:List Blk} {U:List Int} {wk:List (Int × Int)} {m:Nat} {left:Int->Bool} (h:Wb bs U wk m left):wk.length<=(m+1) * U.length:=by have:=h.len;omega
def Wx (bs:List Blk) (U:List Int) (L:Int->List Int) (wk:List (Int × Int)) (p x:Int) (l:List Int) (i:Nat):Prop:=
 Wk bs U L wk (fun p' q' y=>(q'=p/\y=x)/\p'∈l.drop i)
theorem Wx.start {bs:List Blk} {U:List Int} {L:Int->List Int} {wk:List (Int × Int)} {p x:Int} {l:List Int} (h:Wk bs U L (wk ++ [(p,x)]) (fun _ _ _=>False)) (hx:x∉L p) (hU:x∈U) (hl:∀q,folP bs q p->q∈l):Wx bs U (addL L p x) wk p x l 0:=
 (h.new hx hU).ex (fun p' q' y hf e=>⟨e,by rw [bZ];rw [e.1] at hf;exact hl p' hf⟩)
theorem wW {l:List Int} {i:Nat} {q:Int} (hi:l[i]?=some q) (z:Int) (hz:z∈l.drop i):z=q\/z∈l.drop (i+1):=by
 obtain ⟨hl,e⟩:=List.getElem?_eq_some_iff.1 hi;rw [cJ hl,e] at hz;exact List.mem_cons.1 hz
theorem Wx.push {bs:List Blk} {U:List Int} {L:Int->List Int} {wk:List (Int × Int)} {p x q:Int} {l:List Int} {i:Nat} (h:Wx bs U L wk p x l i) (hv:Lv bs x p) (hi:l[i]?=some q) (hq:folP bs q p) (hd:dfP bs q≠some x):Wx bs U L (wk ++ [(q,x)]) p x l (i+1):=
 Wk.push (E:=fun z=>z∈l.drop i) (E':=fun z=>z∈l.drop (i+1)) h hv hq hd (wW hi)
theorem Wx.pass {bs:List Blk} {U:List Int} {L:Int->List Int} {wk:List (Int × Int)} {p x q:Int} {l:List Int} {i:Nat} (h:Wx bs U L wk p x l i) (hi:l[i]?=some q) (hd:dfP bs q=some x):Wx bs U L wk p x l (i+1):=
 Wk.pass (E:=fun z=>z∈l.drop i) (E':=fun z=>z∈l.drop (i+1)) h hd (wW hi)
theorem Wx.done {bs:List Blk} {U:List Int} {L:Int->List Int} {wk:List (Int × Int)} {p x:Int} {l:List Int} {i:Nat} (h:Wx bs U L wk p x l i) (hi:l.length<=i):Wk bs U L wk (fun _ _ _=>False):=
 Wk.ex h (fun p' _ _ _ e=>by have:=e.2;rw [bG hi] at this;cases this)
theorem Wb.set {bs:List Blk} {U:List Int} {wk:List (Int × Int)} {m:Nat} (h:Wb bs U wk m (fun _=>true)) (left':Int->Bool) (h':∀x∈usP bs m,left' x=true):Wb bs U wk m left':=
 ⟨h.snd,h.cov,fun x hx=> .inl (h' x hx),by
   have h1:=h.len;have h2:=List.length_filter_le left' U;rw [List.filter_eq_self.2 (fun _ _=>rfl)] at h1
   omega⟩
def msW (M n t k:Nat):Nat:=(M - t) * (n+1)+k
theorem xCR {M n t k:Nat}:msW M n t k<msW M n t (k+1):=by unfold msW;omega
end
end Go.Proofs.YtkaigkfbkpinlaaGreatDoor
